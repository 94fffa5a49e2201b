/- WindBears, of layer 21, holds: for every list of numbers and every number of eight bits it answers true and does not panic. There are no further conditions: whatever arguments the given row allows. -/
import Derived.Test.YtecmobijochjkaaGreatRows
import Derived.Test.YtecmobijochjkaaGreatWalk0
import Derived.Test.YtecmobijochjkaaGreatPlain9
import Derived.Test.YtecmobijochjkaaGreatFacts
import Derived.WalkKit
import Derived.ProofKit
import Derived.OpenShut
import Derived.ShutString
import Derived.ChangeOld
import Derived.Below
import Derived.SizedLaws
set_option linter.all false
namespace Go.Proofs.YtecmobijochjkaaGreat.windBears
open Go.ChangeShapes Go.WideShapes Go.ChangeAt Go.RowKit
theorem own:ownKnob Tryz.prog.godebug=none:=κ
theorem laidOut:laidOutB Tryz.prog=true:=κ
set_option maxRecDepth 100000 in
theorem lifted(os:Os)(started:os.Started)(H:Type)(enc:TypeId×Value→H):
  ReturnsInHanded {} Tryz.checked os 5 .any (Rows.windBearsSpec.pre6 enc Tryz.prog Tryz.f5 Rows.windBearsRow.domain false) (Rows.windBearsSpec.post enc Tryz.prog Tryz.f5 false true false false):=by
 refine returnsInHanded_of_change_sized (C:=Tryz.checked) own started κ Tryz.func5
  (ChangeSpec.witness6 (enc:=enc) (C:=Tryz.checked) false ⟨#[],#[.slice none 0 0,.int .u8 0],[]⟩ 8 κ κ κ κ) ?_
 intro W base args ds gs before ap0 hW aAO aAP _
 have Ka: ∀(j:Nat) t v,Tryz.f5.params[j]? =some t→args[j]? =some v→Value.okWide Tryz.prog W .any base t v:=ap0
 have hW':=hW
 obtain⟨p,q,hA0,hV,rfl,hfz,yk⟩:=hW
 have hA:DataW.TrodAll enc Tryz.prog W 0 (λ_=>true) true Tryz.f5.params.toList args.toList ds p:=hA0
 obtain⟨⟨x,hx,hwx⟩,Wi⟩:=VM.Wo VM.G6.laidOut [(.slice (.int .u64)),(.int .u8)] hA κ Ka
 have hA1:DataW.TrodAll enc Tryz.prog W 0 (λ_=>true) true [22,5] args.toList ds p:=hA0
 obtain⟨v0,vs0,d0,ds0,p0,q0,ha0,rfl,hp0,h0,r0⟩:=trodAll_cons hA1
 obtain⟨v1,VU,d1,ds1,p1,q1,ZY,rfl,hp1,h1,r1⟩:=trodAll_cons r0
 obtain⟨_,rfl,_⟩:=trodAll_nil r1
 obtain⟨rfl,rfl⟩:=trodVars_none hV
 obtain⟨N,hN⟩:=VM.Pure.U2 (x.1) (x.2) hwx
 have hC:=VM.TB (VM.F.avW N) rfl Tryz.func5 [(.slice (.int .u64)),(.int .u8)] κ hx ((VM.F.avX N x).trans hN)
 rw[Array.toArray_toList]at hC
 refine hC.mono λe W' ⟨he,bel⟩=> ?_
 subst he
 obtain⟨Hf,hb⟩:=Wi W' bel
 exact⟨_,rfl,_,_,_,[],_,[],hW',trodAll_mk1 (shut_bool Tryz.underlying4 _),hb,rfl,bel.frame _,λh=>by cases h⟩
theorem j0:Rows.windBearsRow.wf (OpenSpec.ofChange Rows.windBearsSpec)=true:=κ
theorem j3:Tryz.f5.params.all (Tryz.prog.readableRec ·)=true:=κ
theorem j4:namedTie Tryz.prog Rows.windBearsRow.named Rows.windBearsSpec.vars=true:=κ
theorem j5:(Rows.windBearsRow.stops==[])=true:=κ
theorem j7:(Rows.windBearsRow.knobs==[])=true:=κ
theorem j9:(Rows.windBearsRow.inPlace==Tryz.prog.inPlace 5)=true:=κ
theorem HW:(Rows.windBearsRow.unfollowed==Tryz.prog.unfollowed 5)=true:=κ
theorem Jj:(Rows.windBearsRow.recurses==Tryz.prog.recurses 5)=true:=κ
theorem j12:(Rows.windBearsRow.named==Tryz.prog.varsNamed 5)=true:=κ
theorem Sj:(Rows.windBearsRow.maps==(Tryz.f5.params.toList++Rows.windBearsSpec.plain.varTypes Tryz.prog).any (Tryz.prog.mapsRec ·))=true:=κ
theorem Vn:(Rows.windBearsRow.ifaces==(Tryz.f5.params.toList++Rows.windBearsSpec.plain.varTypes Tryz.prog).any (Tryz.prog.ifacesRec ·))=true:=κ
theorem Bl:(Rows.windBearsRow.mapsOut==Tryz.prog.mapsAmong Tryz.f5.resultTypes.toList)=true:=κ
theorem j16:(Rows.windBearsRow.loops==(Tryz.f5.params.toList++Rows.windBearsSpec.plain.varTypes Tryz.prog).any (Tryz.prog.loopsFrom ·))=true:=κ
theorem j17:(Rows.windBearsRow.wideKeys==(Tryz.f5.params.toList++Rows.windBearsSpec.plain.varTypes Tryz.prog++Tryz.f5.resultTypes.toList).any (Tryz.prog.wideKeysFrom ·))=true:=κ
theorem j18:Rows.windBearsSpec.vars.all (Tryz.prog.varReadable ·)=true:=κ
theorem j19:Tryz.f5.resultTypes.all (λt=>Tryz.prog.readableRec t&&decide (t<Tryz.prog.types.size))=true:=κ
theorem j20:(Rows.windBearsRow.ifacesOut==Tryz.f5.resultTypes.toList.any (Tryz.prog.ifacesRec ·))=true:=κ
theorem j21:(Rows.windBearsRow.loopsOut==Tryz.f5.resultTypes.toList.any (Tryz.prog.loopsFrom ·))=true:=κ
theorem j23:Rows.windBearsRow.shortTexts.isNone=true:=κ
theorem j28:(Rows.windBearsRow.kinds==(if Rows.windBearsRow.domain.isEmpty then []else Tryz.f5.params.toList.map λt=>match Tryz.prog.underlying t with|some (.int k)=>some k|_=>none))=true:=κ
theorem Ux:(Rows.windBearsRow.pinned==Rows.windBearsRow.pinnedBy)=true:=κ
theorem j30:(Rows.windBearsRow.veiled==(Tryz.f5.params.toList++Rows.windBearsSpec.plain.varTypes Tryz.prog++Tryz.f5.resultTypes.toList).any (Tryz.prog.veiledRec ·))=true:=κ
theorem j31:Rows.windBearsRow.veiledFits Tryz.prog Tryz.f5.params.toList (Tryz.f5.params.toList++Rows.windBearsSpec.plain.varTypes Tryz.prog++Tryz.f5.resultTypes.toList)=true:=κ
theorem eI{a b:Bool}(h:a=true)(k:b=true):(a&&b)=true:=by rw[h,k];rfl
set_option maxRecDepth 100000 in
theorem closed:joinedFacts Tryz.prog 5 Tryz.f5 Rows.windBearsSpec Rows.windBearsRow=true:=by
 unfold joinedFacts
 exact eI (eI (eI (eI (eI (eI (eI (eI (eI (eI (eI (eI (eI (eI (eI (eI (eI (eI (eI (eI (eI (eI (eI (eI (eI (eI (eI (eI (eI (eI (eI j0 VM.G6.laidOut) VM.G6.afH) j3) j4) j5) VM.G6.afI) j7) VM.G6.afJ) j9) HW) Jj) j12) Sj) Vn) Bl) j16) j17) j18) j19) j20) j21) VM.G6.plainKeys) j23) VM.G6.heard) VM.G6.enter) VM.G6.apZ) VM.G6.make) j28) Ux) j30) j31
theorem PX:Tryz.prog.funcNamed Rows.windBearsRow.func=some 5:=κ
theorem wrap:Tryz.f5.isWrapper Tryz.prog Rows.windBearsRow.wrapper Rows.windBearsRow.mainSum:=by
 unfold Func.isWrapper
 first|(rw[aj (by decide+kernel)];kernel_rfl)|(rw[ah (by decide+kernel)];exact⟨rfl,rfl⟩)
theorem over:Rows.windBearsRow.holds Tryz.pinned (OpenSpec.ofChange Rows.windBearsSpec):=
 OpenClaim.holds_of_wide 5 Tryz.f5 rfl rfl rfl rfl rfl rfl rfl ⟨rfl,rfl,rfl,rfl,rfl⟩ rfl rfl rfl rfl rfl PX Tryz.func5 closed (bz κ) wrap
  (λos started H enc _=>lifted os started H enc)
theorem proved:Rows.WindBearsSaid:=over
#print axioms proved
end Go.Proofs.YtecmobijochjkaaGreat.windBears
namespace Go.Proofs.YtecmobijochjkaaGreat
theorem windBears_holds:Rows.WindBearsSaid:=windBears.proved
end Go.Proofs.YtecmobijochjkaaGreat
