/- WindTwice, of layer 21, holds: for every list of numbers and every number of eight bits it answers true and does not panic. There are no further conditions: whatever arguments the given row allows. -/
import Derived.Test.YtecmobijochjkaaGreatRows
import Derived.Test.YtecmobijochjkaaGreatWalk0
import Derived.Test.YtecmobijochjkaaGreatPlain9
import Derived.Test.YtecmobijochjkaaGreatFacts
import Derived.WalkKit
import Derived.ProofKit
import Derived.OpenShut
import Derived.ShutString
import Derived.ChangeOld
import Derived.Below
import Derived.SizedLaws
set_option linter.all false
namespace Go.Proofs.YtecmobijochjkaaGreat.windTwice
open Go.ChangeShapes Go.WideShapes Go.ChangeAt Go.RowKit
theorem own:ownKnob Tryz.prog.godebug=none:=κ
theorem laidOut:laidOutB Tryz.prog=true:=κ
set_option maxRecDepth 100000 in
theorem lifted(os:Os)(started:os.Started)(H:Type)(enc:TypeId×Value→H):
  ReturnsInHanded {} Tryz.checked os 6 .any (Rows.windTwiceSpec.pre6 enc Tryz.prog Tryz.f6 Rows.windTwiceRow.domain false) (Rows.windTwiceSpec.post enc Tryz.prog Tryz.f6 false true false false):=by
 refine returnsInHanded_of_change_sized (C:=Tryz.checked) own started κ Tryz.func6
  (ChangeSpec.witness6 (enc:=enc) (C:=Tryz.checked) false ⟨#[],#[.slice none 0 0,.int .u8 0],[]⟩ 8 κ κ κ κ) ?_
 intro W base args ds gs before aqc hW aBc aBd _
 have J4: ∀(j:Nat) t v,Tryz.f6.params[j]? =some t→args[j]? =some v→Value.okWide Tryz.prog W .any base t v:=aqc
 have hW':=hW
 obtain⟨p,q,hA0,hV,rfl,hfz,ya⟩:=hW
 have hA:DataW.TrodAll enc Tryz.prog W 0 (λ_=>true) true Tryz.f6.params.toList args.toList ds p:=hA0
 obtain⟨⟨x,hx,hwx⟩,Wj⟩:=VM.Wp VM.GU.laidOut [(.slice (.int .u64)),(.int .u8)] hA κ J4
 have hA1:DataW.TrodAll enc Tryz.prog W 0 (λ_=>true) true [22,5] args.toList ds p:=hA0
 obtain⟨v0,vs0,d0,ds0,p0,q0,ha0,rfl,hp0,h0,r0⟩:=trodAll_cons hA1
 obtain⟨v1,VV,d1,ds1,p1,q1,ha1,rfl,hp1,h1,r1⟩:=trodAll_cons r0
 obtain⟨_,rfl,_⟩:=trodAll_nil r1
 obtain⟨rfl,rfl⟩:=trodVars_none hV
 obtain⟨N,hN⟩:=VM.Pure.U5 (x.1) (x.2) hwx
 have hC:=VM.TD (VM.F.av7 N) rfl Tryz.func6 [(.slice (.int .u64)),(.int .u8)] κ hx ((VM.F.av8 N x).trans hN)
 rw[Array.toArray_toList]at hC
 refine hC.mono λe W' ⟨he,bel⟩=> ?_
 subst he
 obtain⟨G6,hb⟩:=Wj W' bel
 exact⟨_,rfl,_,_,_,[],_,[],hW',trodAll_mk1 (shut_bool Tryz.underlying4 _),hb,rfl,bel.frame _,λh=>by cases h⟩
theorem j0:Rows.windTwiceRow.wf (OpenSpec.ofChange Rows.windTwiceSpec)=true:=κ
theorem j3:Tryz.f6.params.all (Tryz.prog.readableRec ·)=true:=κ
theorem j4:namedTie Tryz.prog Rows.windTwiceRow.named Rows.windTwiceSpec.vars=true:=κ
theorem j5:(Rows.windTwiceRow.stops==[])=true:=κ
theorem j7:(Rows.windTwiceRow.knobs==[])=true:=κ
theorem j9:(Rows.windTwiceRow.inPlace==Tryz.prog.inPlace 6)=true:=κ
theorem HN:(Rows.windTwiceRow.unfollowed==Tryz.prog.unfollowed 6)=true:=κ
theorem Je:(Rows.windTwiceRow.recurses==Tryz.prog.recurses 6)=true:=κ
theorem j12:(Rows.windTwiceRow.named==Tryz.prog.varsNamed 6)=true:=κ
theorem Si:(Rows.windTwiceRow.maps==(Tryz.f6.params.toList++Rows.windTwiceSpec.plain.varTypes Tryz.prog).any (Tryz.prog.mapsRec ·))=true:=κ
theorem Vp:(Rows.windTwiceRow.ifaces==(Tryz.f6.params.toList++Rows.windTwiceSpec.plain.varTypes Tryz.prog).any (Tryz.prog.ifacesRec ·))=true:=κ
theorem A8:(Rows.windTwiceRow.mapsOut==Tryz.prog.mapsAmong Tryz.f6.resultTypes.toList)=true:=κ
theorem j16:(Rows.windTwiceRow.loops==(Tryz.f6.params.toList++Rows.windTwiceSpec.plain.varTypes Tryz.prog).any (Tryz.prog.loopsFrom ·))=true:=κ
theorem j17:(Rows.windTwiceRow.wideKeys==(Tryz.f6.params.toList++Rows.windTwiceSpec.plain.varTypes Tryz.prog++Tryz.f6.resultTypes.toList).any (Tryz.prog.wideKeysFrom ·))=true:=κ
theorem j18:Rows.windTwiceSpec.vars.all (Tryz.prog.varReadable ·)=true:=κ
theorem j19:Tryz.f6.resultTypes.all (λt=>Tryz.prog.readableRec t&&decide (t<Tryz.prog.types.size))=true:=κ
theorem j20:(Rows.windTwiceRow.ifacesOut==Tryz.f6.resultTypes.toList.any (Tryz.prog.ifacesRec ·))=true:=κ
theorem j21:(Rows.windTwiceRow.loopsOut==Tryz.f6.resultTypes.toList.any (Tryz.prog.loopsFrom ·))=true:=κ
theorem j23:Rows.windTwiceRow.shortTexts.isNone=true:=κ
theorem j28:(Rows.windTwiceRow.kinds==(if Rows.windTwiceRow.domain.isEmpty then []else Tryz.f6.params.toList.map λt=>match Tryz.prog.underlying t with|some (.int k)=>some k|_=>none))=true:=κ
theorem UA:(Rows.windTwiceRow.pinned==Rows.windTwiceRow.pinnedBy)=true:=κ
theorem j30:(Rows.windTwiceRow.veiled==(Tryz.f6.params.toList++Rows.windTwiceSpec.plain.varTypes Tryz.prog++Tryz.f6.resultTypes.toList).any (Tryz.prog.veiledRec ·))=true:=κ
theorem j31:Rows.windTwiceRow.veiledFits Tryz.prog Tryz.f6.params.toList (Tryz.f6.params.toList++Rows.windTwiceSpec.plain.varTypes Tryz.prog++Tryz.f6.resultTypes.toList)=true:=κ
theorem eI{a b:Bool}(h:a=true)(k:b=true):(a&&b)=true:=by rw[h,k];rfl
set_option maxRecDepth 100000 in
theorem closed:joinedFacts Tryz.prog 6 Tryz.f6 Rows.windTwiceSpec Rows.windTwiceRow=true:=by
 unfold joinedFacts
 exact eI (eI (eI (eI (eI (eI (eI (eI (eI (eI (eI (eI (eI (eI (eI (eI (eI (eI (eI (eI (eI (eI (eI (eI (eI (eI (eI (eI (eI (eI (eI j0 VM.GU.laidOut) VM.GU.afQ) j3) j4) j5) VM.GU.afR) j7) VM.GU.afS) j9) HN) Je) j12) Si) Vp) A8) j16) j17) j18) j19) j20) j21) VM.GU.plainKeys) j23) VM.GU.heard) VM.GU.enter) VM.GU.aqb) VM.GU.make) j28) UA) j30) j31
theorem PV:Tryz.prog.funcNamed Rows.windTwiceRow.func=some 6:=κ
theorem wrap:Tryz.f6.isWrapper Tryz.prog Rows.windTwiceRow.wrapper Rows.windTwiceRow.mainSum:=by
 unfold Func.isWrapper
 first|(rw[aj (by decide+kernel)];kernel_rfl)|(rw[ah (by decide+kernel)];exact⟨rfl,rfl⟩)
theorem over:Rows.windTwiceRow.holds Tryz.pinned (OpenSpec.ofChange Rows.windTwiceSpec):=
 OpenClaim.holds_of_wide 6 Tryz.f6 rfl rfl rfl rfl rfl rfl rfl ⟨rfl,rfl,rfl,rfl,rfl⟩ rfl rfl rfl rfl rfl PV Tryz.func6 closed (bx κ) wrap
  (λos started H enc _=>lifted os started H enc)
theorem proved:Rows.WindTwiceSaid:=over
#print axioms proved
end Go.Proofs.YtecmobijochjkaaGreat.windTwice
namespace Go.Proofs.YtecmobijochjkaaGreat
theorem windTwice_holds:Rows.WindTwiceSaid:=windTwice.proved
end Go.Proofs.YtecmobijochjkaaGreat
