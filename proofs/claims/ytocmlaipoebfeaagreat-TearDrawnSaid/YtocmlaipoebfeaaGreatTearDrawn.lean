/- TearDrawn, of layer 29, holds: for every list of numbers it answers true and does not panic. There are no further conditions: whatever arguments the given row allows. -/
import Derived.Test.YtocmlaipoebfeaaGreatRows
import Derived.Test.YtocmlaipoebfeaaGreatWalk0
import Derived.Test.YtocmlaipoebfeaaGreatPlain7
import Derived.Test.YtocmlaipoebfeaaGreatFacts
import Derived.WalkKit
import Derived.ProofKit
import Derived.OpenShut
import Derived.ShutString
import Derived.ChangeOld
import Derived.Below
import Derived.SizedLaws
set_option linter.all false
namespace Go.Proofs.YtocmlaipoebfeaaGreat.tearDrawn
open Go.ChangeShapes Go.WideShapes Go.ChangeAt Go.RowKit
theorem own:ownKnob Tryz.prog.godebug=none:=by kernel_rfl
theorem laidOut:laidOutB Tryz.prog=true:=by kernel_rfl
set_option maxRecDepth 100000 in
theorem lifted(os:Os)(started:os.Started)(H:Type)(enc:TypeId×Value→H):
  ReturnsInHanded {} Tryz.checked os 6 .any (Rows.tearDrawnSpec.pre6 enc Tryz.prog Tryz.f6 Rows.tearDrawnRow.domain false) (Rows.tearDrawnSpec.post enc Tryz.prog Tryz.f6 false true false false):=by
 refine returnsInHanded_of_change_sized (C:=Tryz.checked) own started (by kernel_rfl) Tryz.func6
  (ChangeSpec.witness6 (enc:=enc) (C:=Tryz.checked) false ⟨#[],#[.slice none 0 0],[]⟩ 8 (by kernel_rfl) (by kernel_rfl) (by kernel_rfl) (by kernel_rfl)) ?_
 intro W base args ds gs before aiz hW atP atS _
 have CS: ∀(j:Nat) t v,Tryz.f6.params[j]? =some t→args[j]? =some v→Value.okWide Tryz.prog W .any base t v:=aiz
 have hW':=hW
 obtain⟨p,q,hA0,hV,rfl,hfz,tY⟩:=hW
 have hA:DataW.TrodAll enc Tryz.prog W 0 (fun _=>true) true Tryz.f6.params.toList args.toList ds p:=hA0
 obtain⟨⟨x,hx,hwx⟩,N7⟩:=VM.Od VM.Aw.laidOut [(.slice (.int .u64))] hA (by kernel_rfl) CS
 have hA1:DataW.TrodAll enc Tryz.prog W 0 (fun _=>true) true [22] args.toList ds p:=hA0
 obtain⟨v0,vs0,d0,ds0,p0,q0,ha0,rfl,M9,h0,r0⟩:=trodAll_cons hA1
 obtain⟨_,rfl,_⟩:=trodAll_nil r0
 obtain⟨rfl,rfl⟩:=trodVars_none hV
 obtain⟨N,hN⟩:=VM.Pure.MP (x) hwx
 have hC:=VM.LC (VM.F.aok N) rfl Tryz.func6 [(.slice (.int .u64))] (by kernel_rfl) hx ((VM.F.aol N x).trans hN)
 rw[Array.toArray_toList]at hC
 refine hC.mono fun e W' ⟨he,bel⟩=> ?_
 subst he
 obtain⟨AU,hb⟩:=N7 W' bel
 exact⟨_,rfl,_,_,_,[],_,[],hW',trodAll_mk1 (shut_bool Tryz.underlying4 _),hb,rfl,bel.frame _,fun h=>by cases h⟩
theorem j0:Rows.tearDrawnRow.wf (OpenSpec.ofChange Rows.tearDrawnSpec)=true:=by kernel_rfl
theorem j3:Tryz.f6.params.all (Tryz.prog.readableRec ·)=true:=by kernel_rfl
theorem j4:namedTie Tryz.prog Rows.tearDrawnRow.named Rows.tearDrawnSpec.vars=true:=by kernel_rfl
theorem j5:(Rows.tearDrawnRow.stops==[])=true:=by kernel_rfl
theorem j7:(Rows.tearDrawnRow.knobs==[])=true:=by kernel_rfl
theorem j9:(Rows.tearDrawnRow.inPlace==Tryz.prog.inPlace 6)=true:=by kernel_rfl
theorem PC:(Rows.tearDrawnRow.unfollowed==Tryz.prog.unfollowed 6)=true:=by kernel_rfl
theorem H8:(Rows.tearDrawnRow.recurses==Tryz.prog.recurses 6)=true:=by kernel_rfl
theorem j12:(Rows.tearDrawnRow.named==Tryz.prog.varsNamed 6)=true:=by kernel_rfl
theorem Da:(Rows.tearDrawnRow.maps==(Tryz.f6.params.toList++Rows.tearDrawnSpec.plain.varTypes Tryz.prog).any (Tryz.prog.mapsRec ·))=true:=by kernel_rfl
theorem j14:(Rows.tearDrawnRow.ifaces==(Tryz.f6.params.toList++Rows.tearDrawnSpec.plain.varTypes Tryz.prog).any (Tryz.prog.ifacesRec ·))=true:=by kernel_rfl
theorem Bf:(Rows.tearDrawnRow.mapsOut==Tryz.prog.mapsAmong Tryz.f6.resultTypes.toList)=true:=by kernel_rfl
theorem j16:(Rows.tearDrawnRow.loops==(Tryz.f6.params.toList++Rows.tearDrawnSpec.plain.varTypes Tryz.prog).any (Tryz.prog.loopsFrom ·))=true:=by kernel_rfl
theorem j17:(Rows.tearDrawnRow.wideKeys==(Tryz.f6.params.toList++Rows.tearDrawnSpec.plain.varTypes Tryz.prog++Tryz.f6.resultTypes.toList).any (Tryz.prog.wideKeysFrom ·))=true:=by kernel_rfl
theorem j18:Rows.tearDrawnSpec.vars.all (Tryz.prog.varReadable ·)=true:=by kernel_rfl
theorem j19:Tryz.f6.resultTypes.all (fun t=>Tryz.prog.readableRec t&&decide (t<Tryz.prog.types.size))=true:=by kernel_rfl
theorem j20:(Rows.tearDrawnRow.ifacesOut==Tryz.f6.resultTypes.toList.any (Tryz.prog.ifacesRec ·))=true:=by kernel_rfl
theorem Nb:(Rows.tearDrawnRow.loopsOut==Tryz.f6.resultTypes.toList.any (Tryz.prog.loopsFrom ·))=true:=by kernel_rfl
theorem j23:Rows.tearDrawnRow.shortTexts.isNone=true:=by kernel_rfl
theorem XX:(Rows.tearDrawnRow.kinds==(if Rows.tearDrawnRow.domain.isEmpty then []else Tryz.f6.params.toList.map fun t=>match Tryz.prog.underlying t with|some (.int k)=>some k|_=>none))=true:=by kernel_rfl
theorem PJ:(Rows.tearDrawnRow.pinned==Rows.tearDrawnRow.pinnedBy)=true:=by kernel_rfl
theorem j30:(Rows.tearDrawnRow.veiled==(Tryz.f6.params.toList++Rows.tearDrawnSpec.plain.varTypes Tryz.prog++Tryz.f6.resultTypes.toList).any (Tryz.prog.veiledRec ·))=true:=by kernel_rfl
theorem j31:Rows.tearDrawnRow.veiledFits Tryz.prog Tryz.f6.params.toList (Tryz.f6.params.toList++Rows.tearDrawnSpec.plain.varTypes Tryz.prog++Tryz.f6.resultTypes.toList)=true:=by kernel_rfl
theorem c3{a b:Bool}(h:a=true)(k:b=true):(a&&b)=true:=by rw[h,k];rfl
set_option maxRecDepth 100000 in
theorem closed:joinedFacts Tryz.prog 6 Tryz.f6 Rows.tearDrawnSpec Rows.tearDrawnRow=true:=by
 unfold joinedFacts
 exact c3 (c3 (c3 (c3 (c3 (c3 (c3 (c3 (c3 (c3 (c3 (c3 (c3 (c3 (c3 (c3 (c3 (c3 (c3 (c3 (c3 (c3 (c3 (c3 (c3 (c3 (c3 (c3 (c3 (c3 (c3 j0 VM.Aw.laidOut) VM.Aw.Xz) j3) j4) j5) VM.Aw.XA) j7) VM.Aw.XB) j9) PC) H8) j12) Da) j14) Bf) j16) j17) j18) j19) j20) Nb) VM.Aw.plainKeys) j23) VM.Aw.heard) VM.Aw.enter) VM.Aw.aiy) VM.Aw.make) XX) PJ) j30) j31
theorem ZE:Tryz.prog.funcNamed Rows.tearDrawnRow.func=some 6:=by kernel_rfl
theorem wrap:Tryz.f6.isWrapper Tryz.prog Rows.tearDrawnRow.wrapper Rows.tearDrawnRow.mainSum:=by
 unfold Func.isWrapper
 first|(rw[if_pos (by decide+kernel)];kernel_rfl)|(rw[if_neg (by decide+kernel)];exact⟨rfl,rfl⟩)
theorem over:Rows.tearDrawnRow.holds Tryz.pinned (OpenSpec.ofChange Rows.tearDrawnSpec):=
 OpenClaim.holds_of_wide 6 Tryz.f6 rfl rfl rfl rfl rfl rfl rfl ⟨rfl,rfl,rfl,rfl,rfl⟩ rfl rfl rfl rfl rfl ZE Tryz.func6 closed (of_decide_eq_true (by kernel_rfl)) wrap
  (fun os started H enc _=>lifted os started H enc)
theorem proved:Rows.TearDrawnSaid:=over
#print axioms proved
end Go.Proofs.YtocmlaipoebfeaaGreat.tearDrawn
namespace Go.Proofs.YtocmlaipoebfeaaGreat
theorem tearDrawn_holds:Rows.TearDrawnSaid:=tearDrawn.proved
end Go.Proofs.YtocmlaipoebfeaaGreat
