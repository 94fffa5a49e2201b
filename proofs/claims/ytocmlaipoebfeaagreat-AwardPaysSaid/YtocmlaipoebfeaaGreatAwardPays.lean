/- AwardPays, of layer 25, holds: for every list of numbers it answers true and does not panic. There are no further conditions: whatever arguments the given row allows. -/
import Derived.Test.YtocmlaipoebfeaaGreatRows
import Derived.Test.YtocmlaipoebfeaaGreatWalk0
import Derived.Test.YtocmlaipoebfeaaGreatPlain7
import Derived.Test.YtocmlaipoebfeaaGreatFacts
import Derived.WalkKit
import Derived.ProofKit
import Derived.OpenShut
import Derived.ShutString
import Derived.ChangeOld
import Derived.Below
import Derived.SizedLaws
set_option linter.all false
namespace Go.Proofs.YtocmlaipoebfeaaGreat.awardPays
open Go.ChangeShapes Go.WideShapes Go.ChangeAt Go.RowKit
theorem own:ownKnob Tryz.prog.godebug=none:=by kernel_rfl
theorem laidOut:laidOutB Tryz.prog=true:=by kernel_rfl
set_option maxRecDepth 100000 in
theorem lifted(os:Os)(started:os.Started)(H:Type)(enc:TypeId×Value→H):
  ReturnsInHanded {} Tryz.checked os 5 .any (Rows.awardPaysSpec.pre6 enc Tryz.prog Tryz.f5 Rows.awardPaysRow.domain false) (Rows.awardPaysSpec.post enc Tryz.prog Tryz.f5 false true false false):=by
 refine returnsInHanded_of_change_sized (C:=Tryz.checked) own started (by kernel_rfl) Tryz.func5
  (ChangeSpec.witness6 (enc:=enc) (C:=Tryz.checked) false ⟨#[],#[.slice none 0 0],[]⟩ 8 (by kernel_rfl) (by kernel_rfl) (by kernel_rfl) (by kernel_rfl)) ?_
 intro W base args ds gs before aii hW asR asS _
 have CL: ∀(j:Nat) t v,Tryz.f5.params[j]? =some t→args[j]? =some v→Value.okWide Tryz.prog W .any base t v:=aii
 have hW':=hW
 obtain⟨p,q,hA0,hV,rfl,hfz,uE⟩:=hW
 have hA:DataW.TrodAll enc Tryz.prog W 0 (fun _=>true) true Tryz.f5.params.toList args.toList ds p:=hA0
 obtain⟨⟨x,hx,hwx⟩,N4⟩:=VM.Oa VM.Az.laidOut [(.slice (.int .u64))] hA (by kernel_rfl) CL
 have hA1:DataW.TrodAll enc Tryz.prog W 0 (fun _=>true) true [22] args.toList ds p:=hA0
 obtain⟨v0,vs0,d0,ds0,p0,q0,ha0,rfl,hp0,h0,r0⟩:=trodAll_cons hA1
 obtain⟨_,rfl,_⟩:=trodAll_nil r0
 obtain⟨rfl,rfl⟩:=trodVars_none hV
 obtain⟨N,hN⟩:=VM.Pure.MN (x) hwx
 have hC:=VM.Lr (VM.F.anR N) rfl Tryz.func5 [(.slice (.int .u64))] (by kernel_rfl) hx ((VM.F.anS N x).trans hN)
 rw[Array.toArray_toList]at hC
 refine hC.mono fun e W' ⟨he,bel⟩=> ?_
 subst he
 obtain⟨AX,hb⟩:=N4 W' bel
 exact⟨_,rfl,_,_,_,[],_,[],hW',trodAll_mk1 (shut_bool Tryz.underlying4 _),hb,rfl,bel.frame _,fun h=>by cases h⟩
theorem j0:Rows.awardPaysRow.wf (OpenSpec.ofChange Rows.awardPaysSpec)=true:=by kernel_rfl
theorem j3:Tryz.f5.params.all (Tryz.prog.readableRec ·)=true:=by kernel_rfl
theorem j4:namedTie Tryz.prog Rows.awardPaysRow.named Rows.awardPaysSpec.vars=true:=by kernel_rfl
theorem j5:(Rows.awardPaysRow.stops==[])=true:=by kernel_rfl
theorem j7:(Rows.awardPaysRow.knobs==[])=true:=by kernel_rfl
theorem j9:(Rows.awardPaysRow.inPlace==Tryz.prog.inPlace 5)=true:=by kernel_rfl
theorem PB:(Rows.awardPaysRow.unfollowed==Tryz.prog.unfollowed 5)=true:=by kernel_rfl
theorem HT:(Rows.awardPaysRow.recurses==Tryz.prog.recurses 5)=true:=by kernel_rfl
theorem j12:(Rows.awardPaysRow.named==Tryz.prog.varsNamed 5)=true:=by kernel_rfl
theorem Pj:(Rows.awardPaysRow.maps==(Tryz.f5.params.toList++Rows.awardPaysSpec.plain.varTypes Tryz.prog).any (Tryz.prog.mapsRec ·))=true:=by kernel_rfl
theorem j14:(Rows.awardPaysRow.ifaces==(Tryz.f5.params.toList++Rows.awardPaysSpec.plain.varTypes Tryz.prog).any (Tryz.prog.ifacesRec ·))=true:=by kernel_rfl
theorem Bi:(Rows.awardPaysRow.mapsOut==Tryz.prog.mapsAmong Tryz.f5.resultTypes.toList)=true:=by kernel_rfl
theorem j16:(Rows.awardPaysRow.loops==(Tryz.f5.params.toList++Rows.awardPaysSpec.plain.varTypes Tryz.prog).any (Tryz.prog.loopsFrom ·))=true:=by kernel_rfl
theorem j17:(Rows.awardPaysRow.wideKeys==(Tryz.f5.params.toList++Rows.awardPaysSpec.plain.varTypes Tryz.prog++Tryz.f5.resultTypes.toList).any (Tryz.prog.wideKeysFrom ·))=true:=by kernel_rfl
theorem j18:Rows.awardPaysSpec.vars.all (Tryz.prog.varReadable ·)=true:=by kernel_rfl
theorem j19:Tryz.f5.resultTypes.all (fun t=>Tryz.prog.readableRec t&&decide (t<Tryz.prog.types.size))=true:=by kernel_rfl
theorem j20:(Rows.awardPaysRow.ifacesOut==Tryz.f5.resultTypes.toList.any (Tryz.prog.ifacesRec ·))=true:=by kernel_rfl
theorem j21:(Rows.awardPaysRow.loopsOut==Tryz.f5.resultTypes.toList.any (Tryz.prog.loopsFrom ·))=true:=by kernel_rfl
theorem j23:Rows.awardPaysRow.shortTexts.isNone=true:=by kernel_rfl
theorem j28:(Rows.awardPaysRow.kinds==(if Rows.awardPaysRow.domain.isEmpty then []else Tryz.f5.params.toList.map fun t=>match Tryz.prog.underlying t with|some (.int k)=>some k|_=>none))=true:=by kernel_rfl
theorem PI:(Rows.awardPaysRow.pinned==Rows.awardPaysRow.pinnedBy)=true:=by kernel_rfl
theorem j30:(Rows.awardPaysRow.veiled==(Tryz.f5.params.toList++Rows.awardPaysSpec.plain.varTypes Tryz.prog++Tryz.f5.resultTypes.toList).any (Tryz.prog.veiledRec ·))=true:=by kernel_rfl
theorem j31:Rows.awardPaysRow.veiledFits Tryz.prog Tryz.f5.params.toList (Tryz.f5.params.toList++Rows.awardPaysSpec.plain.varTypes Tryz.prog++Tryz.f5.resultTypes.toList)=true:=by kernel_rfl
theorem cX{a b:Bool}(h:a=true)(k:b=true):(a&&b)=true:=by rw[h,k];rfl
set_option maxRecDepth 100000 in
theorem closed:joinedFacts Tryz.prog 5 Tryz.f5 Rows.awardPaysSpec Rows.awardPaysRow=true:=by
 unfold joinedFacts
 exact cX (cX (cX (cX (cX (cX (cX (cX (cX (cX (cX (cX (cX (cX (cX (cX (cX (cX (cX (cX (cX (cX (cX (cX (cX (cX (cX (cX (cX (cX (cX j0 VM.Az.laidOut) VM.Az.W7) j3) j4) j5) VM.Az.W8) j7) VM.Az.W9) j9) PB) HT) j12) Pj) j14) Bi) j16) j17) j18) j19) j20) j21) VM.Az.plainKeys) j23) VM.Az.heard) VM.Az.enter) VM.Az.aih) VM.Az.make) j28) PI) j30) j31
theorem Lt:Tryz.prog.funcNamed Rows.awardPaysRow.func=some 5:=by kernel_rfl
theorem wrap:Tryz.f5.isWrapper Tryz.prog Rows.awardPaysRow.wrapper Rows.awardPaysRow.mainSum:=by
 unfold Func.isWrapper
 first|(rw[atK (by decide+kernel)];kernel_rfl)|(rw[atL (by decide+kernel)];exact⟨rfl,rfl⟩)
theorem over:Rows.awardPaysRow.holds Tryz.pinned (OpenSpec.ofChange Rows.awardPaysSpec):=
 OpenClaim.holds_of_wide 5 Tryz.f5 rfl rfl rfl rfl rfl rfl rfl ⟨rfl,rfl,rfl,rfl,rfl⟩ rfl rfl rfl rfl rfl Lt Tryz.func5 closed (atY (by kernel_rfl)) wrap
  (fun os started H enc _=>lifted os started H enc)
theorem proved:Rows.AwardPaysSaid:=over
#print axioms proved
end Go.Proofs.YtocmlaipoebfeaaGreat.awardPays
namespace Go.Proofs.YtocmlaipoebfeaaGreat
theorem awardPays_holds:Rows.AwardPaysSaid:=awardPays.proved
end Go.Proofs.YtocmlaipoebfeaaGreat
