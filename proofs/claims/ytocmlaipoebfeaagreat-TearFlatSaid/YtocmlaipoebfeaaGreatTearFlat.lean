/- TearFlat, of layer 29, holds: for every list of numbers it answers true and does not panic. There are no further conditions: whatever arguments the given row allows. -/
import Derived.Test.YtocmlaipoebfeaaGreatRows
import Derived.Test.YtocmlaipoebfeaaGreatWalk0
import Derived.Test.YtocmlaipoebfeaaGreatPlain9
import Derived.Test.YtocmlaipoebfeaaGreatFacts
import Derived.WalkKit
import Derived.ProofKit
import Derived.OpenShut
import Derived.ShutString
import Derived.ChangeOld
import Derived.Below
import Derived.SizedLaws
set_option linter.all false
namespace Go.Proofs.YtocmlaipoebfeaaGreat.tearFlat
open Go.ChangeShapes Go.WideShapes Go.ChangeAt Go.RowKit
theorem own:ownKnob Tryz.prog.godebug=none:=κ
theorem laidOut:laidOutB Tryz.prog=true:=κ
set_option maxRecDepth 100000 in
theorem lifted(os:Os)(started:os.Started)(H:Type)(enc:TypeId×Value→H):
  ReturnsInHanded {} Tryz.checked os 7 .any (Rows.tearFlatSpec.pre6 enc Tryz.prog Tryz.f7 Rows.tearFlatRow.domain false) (Rows.tearFlatSpec.post enc Tryz.prog Tryz.f7 false true false false):=by
 refine returnsInHanded_of_change_sized (C:=Tryz.checked) own started κ Tryz.func7
  (ChangeSpec.witness6 (enc:=enc) (C:=Tryz.checked) false ⟨#[],#[.slice none 0 0],[]⟩ 8 κ κ κ κ) ?_
 intro W base args ds gs before aqH hW aBS aBT _
 have JX: ∀(j:Nat) t v,Tryz.f7.params[j]? =some t→args[j]? =some v→Value.okWide Tryz.prog W .any base t v:=aqH
 have hW':=hW
 obtain⟨p,q,hA0,hV,rfl,hfz,yg⟩:=hW
 have hA:DataW.TrodAll enc Tryz.prog W 0 (λ_=>true) true Tryz.f7.params.toList args.toList ds p:=hA0
 obtain⟨⟨x,hx,hwx⟩,VZ⟩:=VM.V5 VM.Ha.laidOut [(.slice (.int .u64))] hA κ JX
 have hA1:DataW.TrodAll enc Tryz.prog W 0 (λ_=>true) true [22] args.toList ds p:=hA0
 obtain⟨v0,vs0,d0,ds0,p0,q0,ha0,rfl,U0,h0,r0⟩:=trodAll_cons hA1
 obtain⟨_,rfl,_⟩:=trodAll_nil r0
 obtain⟨rfl,rfl⟩:=trodVars_none hV
 obtain⟨N,hN⟩:=VM.Pure.X3 (x) hwx
 have hC:=VM.Tm (VM.F.awy N) rfl Tryz.func7 [(.slice (.int .u64))] κ hx ((VM.F.awz N x).trans hN)
 rw[Array.toArray_toList]at hC
 refine hC.mono λe W' ⟨he,bel⟩=> ?_
 subst he
 obtain⟨Hh,hb⟩:=VZ W' bel
 exact⟨_,rfl,_,_,_,[],_,[],hW',trodAll_mk1 (shut_bool Tryz.underlying4 _),hb,rfl,bel.frame _,λh=>by cases h⟩
theorem j0:Rows.tearFlatRow.wf (OpenSpec.ofChange Rows.tearFlatSpec)=true:=κ
theorem j3:Tryz.f7.params.all (Tryz.prog.readableRec ·)=true:=κ
theorem j4:namedTie Tryz.prog Rows.tearFlatRow.named Rows.tearFlatSpec.vars=true:=κ
theorem j5:(Rows.tearFlatRow.stops==[])=true:=κ
theorem j7:(Rows.tearFlatRow.knobs==[])=true:=κ
theorem j9:(Rows.tearFlatRow.inPlace==Tryz.prog.inPlace 7)=true:=κ
theorem QL:(Rows.tearFlatRow.unfollowed==Tryz.prog.unfollowed 7)=true:=κ
theorem Jd:(Rows.tearFlatRow.recurses==Tryz.prog.recurses 7)=true:=κ
theorem j12:(Rows.tearFlatRow.named==Tryz.prog.varsNamed 7)=true:=κ
theorem Kf:(Rows.tearFlatRow.maps==(Tryz.f7.params.toList++Rows.tearFlatSpec.plain.varTypes Tryz.prog).any (Tryz.prog.mapsRec ·))=true:=κ
theorem j14:(Rows.tearFlatRow.ifaces==(Tryz.f7.params.toList++Rows.tearFlatSpec.plain.varTypes Tryz.prog).any (Tryz.prog.ifacesRec ·))=true:=κ
theorem BT:(Rows.tearFlatRow.mapsOut==Tryz.prog.mapsAmong Tryz.f7.resultTypes.toList)=true:=κ
theorem j16:(Rows.tearFlatRow.loops==(Tryz.f7.params.toList++Rows.tearFlatSpec.plain.varTypes Tryz.prog).any (Tryz.prog.loopsFrom ·))=true:=κ
theorem j17:(Rows.tearFlatRow.wideKeys==(Tryz.f7.params.toList++Rows.tearFlatSpec.plain.varTypes Tryz.prog++Tryz.f7.resultTypes.toList).any (Tryz.prog.wideKeysFrom ·))=true:=κ
theorem j18:Rows.tearFlatSpec.vars.all (Tryz.prog.varReadable ·)=true:=κ
theorem j19:Tryz.f7.resultTypes.all (λt=>Tryz.prog.readableRec t&&decide (t<Tryz.prog.types.size))=true:=κ
theorem j20:(Rows.tearFlatRow.ifacesOut==Tryz.f7.resultTypes.toList.any (Tryz.prog.ifacesRec ·))=true:=κ
theorem U2:(Rows.tearFlatRow.loopsOut==Tryz.f7.resultTypes.toList.any (Tryz.prog.loopsFrom ·))=true:=κ
theorem j23:Rows.tearFlatRow.shortTexts.isNone=true:=κ
theorem j28:(Rows.tearFlatRow.kinds==(if Rows.tearFlatRow.domain.isEmpty then []else Tryz.f7.params.toList.map λt=>match Tryz.prog.underlying t with|some (.int k)=>some k|_=>none))=true:=κ
theorem Uh:(Rows.tearFlatRow.pinned==Rows.tearFlatRow.pinnedBy)=true:=κ
theorem j30:(Rows.tearFlatRow.veiled==(Tryz.f7.params.toList++Rows.tearFlatSpec.plain.varTypes Tryz.prog++Tryz.f7.resultTypes.toList).any (Tryz.prog.veiledRec ·))=true:=κ
theorem j31:Rows.tearFlatRow.veiledFits Tryz.prog Tryz.f7.params.toList (Tryz.f7.params.toList++Rows.tearFlatSpec.plain.varTypes Tryz.prog++Tryz.f7.resultTypes.toList)=true:=κ
theorem eT{a b:Bool}(h:a=true)(k:b=true):(a&&b)=true:=by rw[h,k];rfl
set_option maxRecDepth 100000 in
theorem closed:joinedFacts Tryz.prog 7 Tryz.f7 Rows.tearFlatSpec Rows.tearFlatRow=true:=by
 unfold joinedFacts
 exact eT (eT (eT (eT (eT (eT (eT (eT (eT (eT (eT (eT (eT (eT (eT (eT (eT (eT (eT (eT (eT (eT (eT (eT (eT (eT (eT (eT (eT (eT (eT j0 VM.Ha.laidOut) VM.Ha.afu) j3) j4) j5) VM.Ha.afv) j7) VM.Ha.afw) j9) QL) Jd) j12) Kf) j14) BT) j16) j17) j18) j19) j20) U2) VM.Ha.plainKeys) j23) VM.Ha.heard) VM.Ha.enter) VM.Ha.aqG) VM.Ha.make) j28) Uh) j30) j31
theorem ML:Tryz.prog.funcNamed Rows.tearFlatRow.func=some 7:=κ
theorem wrap:Tryz.f7.isWrapper Tryz.prog Rows.tearFlatRow.wrapper Rows.tearFlatRow.mainSum:=by
 unfold Func.isWrapper
 first|(rw[aj (by decide+kernel)];kernel_rfl)|(rw[ah (by decide+kernel)];exact⟨rfl,rfl⟩)
theorem over:Rows.tearFlatRow.holds Tryz.pinned (OpenSpec.ofChange Rows.tearFlatSpec):=
 OpenClaim.holds_of_wide 7 Tryz.f7 rfl rfl rfl rfl rfl rfl rfl ⟨rfl,rfl,rfl,rfl,rfl⟩ rfl rfl rfl rfl rfl ML Tryz.func7 closed (bF κ) wrap
  (λos started H enc _=>lifted os started H enc)
theorem proved:Rows.TearFlatSaid:=over
#print axioms proved
end Go.Proofs.YtocmlaipoebfeaaGreat.tearFlat
namespace Go.Proofs.YtocmlaipoebfeaaGreat
theorem tearFlat_holds:Rows.TearFlatSaid:=tearFlat.proved
end Go.Proofs.YtocmlaipoebfeaaGreat
