/- WindEmpty, of layer 21, holds: for every list of numbers and every number of eight bits it answers true and does not panic. There are no further conditions: whatever arguments the given row allows. -/
import Derived.Test.YtecmobijochjkaaGreatRows
import Derived.Test.YtecmobijochjkaaGreatWalk0
import Derived.Test.YtecmobijochjkaaGreatPlain9
import Derived.Test.YtecmobijochjkaaGreatFacts
import Derived.WalkKit
import Derived.ProofKit
import Derived.OpenShut
import Derived.ShutString
import Derived.ChangeOld
import Derived.Below
import Derived.SizedLaws
set_option linter.all false
namespace Go.Proofs.YtecmobijochjkaaGreat.windEmpty
open Go.ChangeShapes Go.WideShapes Go.ChangeAt Go.RowKit
theorem own:ownKnob Tryz.prog.godebug=none:=κ
theorem laidOut:laidOutB Tryz.prog=true:=κ
set_option maxRecDepth 100000 in
theorem lifted(os:Os)(started:os.Started)(H:Type)(enc:TypeId×Value→H):
  ReturnsInHanded {} Tryz.checked os 4 .any (Rows.windEmptySpec.pre6 enc Tryz.prog Tryz.f4 Rows.windEmptyRow.domain false) (Rows.windEmptySpec.post enc Tryz.prog Tryz.f4 false true false false):=by
 refine returnsInHanded_of_change_sized (C:=Tryz.checked) own started κ Tryz.func4
  (ChangeSpec.witness6 (enc:=enc) (C:=Tryz.checked) false ⟨#[],#[.slice none 0 0,.int .u8 0],[]⟩ 8 κ κ κ κ) ?_
 intro W base args ds gs before apX hW aAK aAL _
 have J7: ∀(j:Nat) t v,Tryz.f4.params[j]? =some t→args[j]? =some v→Value.okWide Tryz.prog W .any base t v:=apX
 have hW':=hW
 obtain⟨p,q,hA0,hV,rfl,hfz,yb⟩:=hW
 have hA:DataW.TrodAll enc Tryz.prog W 0 (λ_=>true) true Tryz.f4.params.toList args.toList ds p:=hA0
 obtain⟨⟨x,hx,hwx⟩,Wd⟩:=VM.Wj VM.GY.laidOut [(.slice (.int .u64)),(.int .u8)] hA κ J7
 have hA1:DataW.TrodAll enc Tryz.prog W 0 (λ_=>true) true [22,5] args.toList ds p:=hA0
 obtain⟨v0,vs0,d0,ds0,p0,q0,ha0,rfl,hp0,h0,r0⟩:=trodAll_cons hA1
 obtain⟨v1,VP,d1,ds1,p1,q1,Y5,rfl,hp1,h1,r1⟩:=trodAll_cons r0
 obtain⟨_,rfl,_⟩:=trodAll_nil r1
 obtain⟨rfl,rfl⟩:=trodVars_none hV
 obtain⟨N,hN⟩:=VM.Pure.UZ (x.1) (x.2) hwx
 have hC:=VM.Tw (VM.F.avQ N) rfl Tryz.func4 [(.slice (.int .u64)),(.int .u8)] κ hx ((VM.F.avR N x).trans hN)
 rw[Array.toArray_toList]at hC
 refine hC.mono λe W' ⟨he,bel⟩=> ?_
 subst he
 obtain⟨Ha,hb⟩:=Wd W' bel
 exact⟨_,rfl,_,_,_,[],_,[],hW',trodAll_mk1 (shut_bool Tryz.underlying4 _),hb,rfl,bel.frame _,λh=>by cases h⟩
theorem j0:Rows.windEmptyRow.wf (OpenSpec.ofChange Rows.windEmptySpec)=true:=κ
theorem j3:Tryz.f4.params.all (Tryz.prog.readableRec ·)=true:=κ
theorem j4:namedTie Tryz.prog Rows.windEmptyRow.named Rows.windEmptySpec.vars=true:=κ
theorem j5:(Rows.windEmptyRow.stops==[])=true:=κ
theorem j7:(Rows.windEmptyRow.knobs==[])=true:=κ
theorem j9:(Rows.windEmptyRow.inPlace==Tryz.prog.inPlace 4)=true:=κ
theorem HR:(Rows.windEmptyRow.unfollowed==Tryz.prog.unfollowed 4)=true:=κ
theorem Jf:(Rows.windEmptyRow.recurses==Tryz.prog.recurses 4)=true:=κ
theorem j12:(Rows.windEmptyRow.named==Tryz.prog.varsNamed 4)=true:=κ
theorem Sb:(Rows.windEmptyRow.maps==(Tryz.f4.params.toList++Rows.windEmptySpec.plain.varTypes Tryz.prog).any (Tryz.prog.mapsRec ·))=true:=κ
theorem Vj:(Rows.windEmptyRow.ifaces==(Tryz.f4.params.toList++Rows.windEmptySpec.plain.varTypes Tryz.prog).any (Tryz.prog.ifacesRec ·))=true:=κ
theorem Bf:(Rows.windEmptyRow.mapsOut==Tryz.prog.mapsAmong Tryz.f4.resultTypes.toList)=true:=κ
theorem j16:(Rows.windEmptyRow.loops==(Tryz.f4.params.toList++Rows.windEmptySpec.plain.varTypes Tryz.prog).any (Tryz.prog.loopsFrom ·))=true:=κ
theorem j17:(Rows.windEmptyRow.wideKeys==(Tryz.f4.params.toList++Rows.windEmptySpec.plain.varTypes Tryz.prog++Tryz.f4.resultTypes.toList).any (Tryz.prog.wideKeysFrom ·))=true:=κ
theorem j18:Rows.windEmptySpec.vars.all (Tryz.prog.varReadable ·)=true:=κ
theorem j19:Tryz.f4.resultTypes.all (λt=>Tryz.prog.readableRec t&&decide (t<Tryz.prog.types.size))=true:=κ
theorem j20:(Rows.windEmptyRow.ifacesOut==Tryz.f4.resultTypes.toList.any (Tryz.prog.ifacesRec ·))=true:=κ
theorem j21:(Rows.windEmptyRow.loopsOut==Tryz.f4.resultTypes.toList.any (Tryz.prog.loopsFrom ·))=true:=κ
theorem j23:Rows.windEmptyRow.shortTexts.isNone=true:=κ
theorem j28:(Rows.windEmptyRow.kinds==(if Rows.windEmptyRow.domain.isEmpty then []else Tryz.f4.params.toList.map λt=>match Tryz.prog.underlying t with|some (.int k)=>some k|_=>none))=true:=κ
theorem Uu:(Rows.windEmptyRow.pinned==Rows.windEmptyRow.pinnedBy)=true:=κ
theorem j30:(Rows.windEmptyRow.veiled==(Tryz.f4.params.toList++Rows.windEmptySpec.plain.varTypes Tryz.prog++Tryz.f4.resultTypes.toList).any (Tryz.prog.veiledRec ·))=true:=κ
theorem j31:Rows.windEmptyRow.veiledFits Tryz.prog Tryz.f4.params.toList (Tryz.f4.params.toList++Rows.windEmptySpec.plain.varTypes Tryz.prog++Tryz.f4.resultTypes.toList)=true:=κ
theorem eG{a b:Bool}(h:a=true)(k:b=true):(a&&b)=true:=by rw[h,k];rfl
set_option maxRecDepth 100000 in
theorem closed:joinedFacts Tryz.prog 4 Tryz.f4 Rows.windEmptySpec Rows.windEmptyRow=true:=by
 unfold joinedFacts
 exact eG (eG (eG (eG (eG (eG (eG (eG (eG (eG (eG (eG (eG (eG (eG (eG (eG (eG (eG (eG (eG (eG (eG (eG (eG (eG (eG (eG (eG (eG (eG j0 VM.GY.laidOut) VM.GY.afF) j3) j4) j5) VM.GY.afG) j7) VM.GY.afH) j9) HR) Jf) j12) Sb) Vj) Bf) j16) j17) j18) j19) j20) j21) VM.GY.plainKeys) j23) VM.GY.heard) VM.GY.enter) VM.GY.apW) VM.GY.make) j28) Uu) j30) j31
theorem PU:Tryz.prog.funcNamed Rows.windEmptyRow.func=some 4:=κ
theorem wrap:Tryz.f4.isWrapper Tryz.prog Rows.windEmptyRow.wrapper Rows.windEmptyRow.mainSum:=by
 unfold Func.isWrapper
 first|(rw[aj (by decide+kernel)];kernel_rfl)|(rw[ah (by decide+kernel)];exact⟨rfl,rfl⟩)
theorem over:Rows.windEmptyRow.holds Tryz.pinned (OpenSpec.ofChange Rows.windEmptySpec):=
 OpenClaim.holds_of_wide 4 Tryz.f4 rfl rfl rfl rfl rfl rfl rfl ⟨rfl,rfl,rfl,rfl,rfl⟩ rfl rfl rfl rfl rfl PU Tryz.func4 closed (bz κ) wrap
  (λos started H enc _=>lifted os started H enc)
theorem proved:Rows.WindEmptySaid:=over
#print axioms proved
end Go.Proofs.YtecmobijochjkaaGreat.windEmpty
namespace Go.Proofs.YtecmobijochjkaaGreat
theorem windEmpty_holds:Rows.WindEmptySaid:=windEmpty.proved
end Go.Proofs.YtecmobijochjkaaGreat
