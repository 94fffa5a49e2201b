/- AwardDrawn, of layer 25, holds: for every list of numbers it answers true and does not panic. There are no further conditions: whatever arguments the given row allows. -/
import Derived.Test.YtocmlaipoebfeaaGreatRows
import Derived.Test.YtocmlaipoebfeaaGreatWalk0
import Derived.Test.YtocmlaipoebfeaaGreatPlain7
import Derived.Test.YtocmlaipoebfeaaGreatFacts
import Derived.WalkKit
import Derived.ProofKit
import Derived.OpenShut
import Derived.ShutString
import Derived.ChangeOld
import Derived.Below
import Derived.SizedLaws
set_option linter.all false
namespace Go.Proofs.YtocmlaipoebfeaaGreat.awardDrawn
open Go.ChangeShapes Go.WideShapes Go.ChangeAt Go.RowKit
theorem own:ownKnob Tryz.prog.godebug=none:=by kernel_rfl
theorem laidOut:laidOutB Tryz.prog=true:=by kernel_rfl
set_option maxRecDepth 100000 in
theorem lifted(os:Os)(started:os.Started)(H:Type)(enc:TypeId×Value→H):
  ReturnsInHanded {} Tryz.checked os 3 .any (Rows.awardDrawnSpec.pre6 enc Tryz.prog Tryz.f3 Rows.awardDrawnRow.domain false) (Rows.awardDrawnSpec.post enc Tryz.prog Tryz.f3 false true false false):=by
 refine returnsInHanded_of_change_sized (C:=Tryz.checked) own started (by kernel_rfl) Tryz.func3
  (ChangeSpec.witness6 (enc:=enc) (C:=Tryz.checked) false ⟨#[],#[.slice none 0 0],[]⟩ 8 (by kernel_rfl) (by kernel_rfl) (by kernel_rfl) (by kernel_rfl)) ?_
 intro W base args ds gs before agW hW aro arp _
 have B1: ∀(j:Nat) t v,Tryz.f3.params[j]? =some t→args[j]? =some v→Value.okWide Tryz.prog W .any base t v:=agW
 have hW':=hW
 obtain⟨p,q,hA0,hV,rfl,hfz,tK⟩:=hW
 have hA:DataW.TrodAll enc Tryz.prog W 0 (fun _=>true) true Tryz.f3.params.toList args.toList ds p:=hA0
 obtain⟨⟨x,hx,hwx⟩,Ng⟩:=VM.Nm VM.zK.laidOut [(.slice (.int .u64))] hA (by kernel_rfl) B1
 have hA1:DataW.TrodAll enc Tryz.prog W 0 (fun _=>true) true [22] args.toList ds p:=hA0
 obtain⟨v0,vs0,d0,ds0,p0,q0,ha0,rfl,hp0,h0,r0⟩:=trodAll_cons hA1
 obtain⟨_,rfl,_⟩:=trodAll_nil r0
 obtain⟨rfl,rfl⟩:=trodVars_none hV
 obtain⟨N,hN⟩:=VM.Pure.Iz (x) hwx
 have hC:=VM.KH (VM.F.amp N) rfl Tryz.func3 [(.slice (.int .u64))] (by kernel_rfl) hx ((VM.F.amq N x).trans hN)
 rw[Array.toArray_toList]at hC
 refine hC.mono fun e W' ⟨he,bel⟩=> ?_
 subst he
 obtain⟨z6,hb⟩:=Ng W' bel
 exact⟨_,rfl,_,_,_,[],_,[],hW',trodAll_mk1 (shut_bool Tryz.underlying4 _),hb,rfl,bel.frame _,fun h=>by cases h⟩
theorem j0:Rows.awardDrawnRow.wf (OpenSpec.ofChange Rows.awardDrawnSpec)=true:=by kernel_rfl
theorem j3:Tryz.f3.params.all (Tryz.prog.readableRec ·)=true:=by kernel_rfl
theorem j4:namedTie Tryz.prog Rows.awardDrawnRow.named Rows.awardDrawnSpec.vars=true:=by kernel_rfl
theorem j5:(Rows.awardDrawnRow.stops==[])=true:=by kernel_rfl
theorem j7:(Rows.awardDrawnRow.knobs==[])=true:=by kernel_rfl
theorem j9:(Rows.awardDrawnRow.inPlace==Tryz.prog.inPlace 3)=true:=by kernel_rfl
theorem OF:(Rows.awardDrawnRow.unfollowed==Tryz.prog.unfollowed 3)=true:=by kernel_rfl
theorem GY:(Rows.awardDrawnRow.recurses==Tryz.prog.recurses 3)=true:=by kernel_rfl
theorem j12:(Rows.awardDrawnRow.named==Tryz.prog.varsNamed 3)=true:=by kernel_rfl
theorem JC:(Rows.awardDrawnRow.maps==(Tryz.f3.params.toList++Rows.awardDrawnSpec.plain.varTypes Tryz.prog).any (Tryz.prog.mapsRec ·))=true:=by kernel_rfl
theorem j14:(Rows.awardDrawnRow.ifaces==(Tryz.f3.params.toList++Rows.awardDrawnSpec.plain.varTypes Tryz.prog).any (Tryz.prog.ifacesRec ·))=true:=by kernel_rfl
theorem Ar:(Rows.awardDrawnRow.mapsOut==Tryz.prog.mapsAmong Tryz.f3.resultTypes.toList)=true:=by kernel_rfl
theorem j16:(Rows.awardDrawnRow.loops==(Tryz.f3.params.toList++Rows.awardDrawnSpec.plain.varTypes Tryz.prog).any (Tryz.prog.loopsFrom ·))=true:=by kernel_rfl
theorem j17:(Rows.awardDrawnRow.wideKeys==(Tryz.f3.params.toList++Rows.awardDrawnSpec.plain.varTypes Tryz.prog++Tryz.f3.resultTypes.toList).any (Tryz.prog.wideKeysFrom ·))=true:=by kernel_rfl
theorem j18:Rows.awardDrawnSpec.vars.all (Tryz.prog.varReadable ·)=true:=by kernel_rfl
theorem j19:Tryz.f3.resultTypes.all (fun t=>Tryz.prog.readableRec t&&decide (t<Tryz.prog.types.size))=true:=by kernel_rfl
theorem j20:(Rows.awardDrawnRow.ifacesOut==Tryz.f3.resultTypes.toList.any (Tryz.prog.ifacesRec ·))=true:=by kernel_rfl
theorem j21:(Rows.awardDrawnRow.loopsOut==Tryz.f3.resultTypes.toList.any (Tryz.prog.loopsFrom ·))=true:=by kernel_rfl
theorem j23:Rows.awardDrawnRow.shortTexts.isNone=true:=by kernel_rfl
theorem j28:(Rows.awardDrawnRow.kinds==(if Rows.awardDrawnRow.domain.isEmpty then []else Tryz.f3.params.toList.map fun t=>match Tryz.prog.underlying t with|some (.int k)=>some k|_=>none))=true:=by kernel_rfl
theorem OM:(Rows.awardDrawnRow.pinned==Rows.awardDrawnRow.pinnedBy)=true:=by kernel_rfl
theorem j30:(Rows.awardDrawnRow.veiled==(Tryz.f3.params.toList++Rows.awardDrawnSpec.plain.varTypes Tryz.prog++Tryz.f3.resultTypes.toList).any (Tryz.prog.veiledRec ·))=true:=by kernel_rfl
theorem j31:Rows.awardDrawnRow.veiledFits Tryz.prog Tryz.f3.params.toList (Tryz.f3.params.toList++Rows.awardDrawnSpec.plain.varTypes Tryz.prog++Tryz.f3.resultTypes.toList)=true:=by kernel_rfl
theorem cX{a b:Bool}(h:a=true)(k:b=true):(a&&b)=true:=by rw[h,k];rfl
set_option maxRecDepth 100000 in
theorem closed:joinedFacts Tryz.prog 3 Tryz.f3 Rows.awardDrawnSpec Rows.awardDrawnRow=true:=by
 unfold joinedFacts
 exact cX (cX (cX (cX (cX (cX (cX (cX (cX (cX (cX (cX (cX (cX (cX (cX (cX (cX (cX (cX (cX (cX (cX (cX (cX (cX (cX (cX (cX (cX (cX j0 VM.zK.laidOut) VM.zK.V9) j3) j4) j5) VM.zK.Wa) j7) VM.zK.Wb) j9) OF) GY) j12) JC) j14) Ar) j16) j17) j18) j19) j20) j21) VM.zK.plainKeys) j23) VM.zK.heard) VM.zK.enter) VM.zK.agV) VM.zK.make) j28) OM) j30) j31
theorem KJ:Tryz.prog.funcNamed Rows.awardDrawnRow.func=some 3:=by kernel_rfl
theorem wrap:Tryz.f3.isWrapper Tryz.prog Rows.awardDrawnRow.wrapper Rows.awardDrawnRow.mainSum:=by
 unfold Func.isWrapper
 first|(rw[if_pos (by decide+kernel)];kernel_rfl)|(rw[if_neg (by decide+kernel)];exact⟨rfl,rfl⟩)
theorem over:Rows.awardDrawnRow.holds Tryz.pinned (OpenSpec.ofChange Rows.awardDrawnSpec):=
 OpenClaim.holds_of_wide 3 Tryz.f3 rfl rfl rfl rfl rfl rfl rfl ⟨rfl,rfl,rfl,rfl,rfl⟩ rfl rfl rfl rfl rfl KJ Tryz.func3 closed (of_decide_eq_true (by kernel_rfl)) wrap
  (fun os started H enc _=>lifted os started H enc)
theorem proved:Rows.AwardDrawnSaid:=over
#print axioms proved
end Go.Proofs.YtocmlaipoebfeaaGreat.awardDrawn
namespace Go.Proofs.YtocmlaipoebfeaaGreat
theorem awardDrawn_holds:Rows.AwardDrawnSaid:=awardDrawn.proved
end Go.Proofs.YtocmlaipoebfeaaGreat
