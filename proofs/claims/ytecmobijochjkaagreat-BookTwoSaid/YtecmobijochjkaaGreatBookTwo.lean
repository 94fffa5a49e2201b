/- What comes of trades and prices is right, that positions stay flat and the ledger at 0, and a price that comes back brings all rows back. -/
import Derived.Test.YtecmobijochjkaaGreatRows
import Derived.Test.YtecmobijochjkaaGreatWalk0
import Derived.Test.YtecmobijochjkaaGreatPlain10
import Derived.Test.YtecmobijochjkaaGreatFacts
import Derived.WalkKit
import Derived.ProofKit
import Derived.OpenShut
import Derived.ShutString
import Derived.ChangeOld
import Derived.Below
import Derived.SizedLaws
set_option linter.all false
namespace Go.Proofs.YtecmobijochjkaaGreat.bookTwo
open Go.ChangeShapes Go.WideShapes Go.ChangeAt Go.RowKit
theorem own:ownKnob Tryz.prog.godebug=none:=κ
theorem laidOut:laidOutB Tryz.prog=true:=κ
set_option maxRecDepth 100000 in
theorem lifted(os:Os)(started:os.Started)(H:Type)(enc:TypeId×Value→H):
  ReturnsInHanded {} Tryz.checked os 10 .any (Rows.bookTwoSpec.pre6 enc Tryz.prog Tryz.f10 Rows.bookTwoRow.domain false) (Rows.bookTwoSpec.post enc Tryz.prog Tryz.f10 false true false false):=by
 refine returnsInHanded_of_change_sized (C:=Tryz.checked) own started κ Tryz.func10
  (ChangeSpec.witness6 (enc:=enc) (C:=Tryz.checked) false ⟨#[],#[.slice none 0 0,.int .u32 0],[]⟩ 8 κ κ κ κ) ?_
 intro W base args ds gs before aup hW aFx aFy _
 have LF: ∀(j:Nat) t v,Tryz.f10.params[j]? =some t→args[j]? =some v→Value.okWide Tryz.prog W .any base t v:=aup
 have hW':=hW
 obtain⟨p,q,hA0,hV,rfl,hfz,wU⟩:=hW
 have hA:DataW.TrodAll enc Tryz.prog W 0 (λ_=>true) true Tryz.f10.params.toList args.toList ds p:=hA0
 obtain⟨⟨x,hx,hwx⟩,zG⟩:=VM.Y0 VM.IX.laidOut [(.slice (.int .u64)),(.int .u32)] hA κ LF
 have hA1:DataW.TrodAll enc Tryz.prog W 0 (λ_=>true) true [22,91] args.toList ds p:=hA0
 obtain⟨v0,vs0,d0,ds0,p0,q0,ha0,rfl,hp0,h0,r0⟩:=trodAll_cons hA1
 obtain⟨v1,Yx,d1,ds1,p1,q1,ha1,rfl,hp1,h1,r1⟩:=trodAll_cons r0
 obtain⟨_,rfl,_⟩:=trodAll_nil r1
 obtain⟨rfl,rfl⟩:=trodVars_none hV
 obtain⟨N,hN⟩:=VM.Pure.ac0 (x.1) (x.2) hwx
 have hC:=VM.V3 (VM.F.aum N) rfl Tryz.func10 [(.slice (.int .u64)),(.int .u32)] κ hx ((VM.F.aun N x).trans hN)
 rw[Array.toArray_toList]at hC
 refine hC.mono λe W' ⟨he,bel⟩=> ?_
 subst he
 obtain⟨I4,hb⟩:=zG W' bel
 exact⟨_,rfl,_,_,_,[],_,[],hW',trodAll_mk1 (shut_bool Tryz.underlying4 _),hb,rfl,bel.frame _,λh=>by cases h⟩
theorem j0:Rows.bookTwoRow.wf (OpenSpec.ofChange Rows.bookTwoSpec)=true:=κ
theorem j3:Tryz.f10.params.all (Tryz.prog.readableRec ·)=true:=κ
theorem j4:namedTie Tryz.prog Rows.bookTwoRow.named Rows.bookTwoSpec.vars=true:=κ
theorem j5:(Rows.bookTwoRow.stops==[])=true:=κ
theorem j7:(Rows.bookTwoRow.knobs==[])=true:=κ
theorem j9:(Rows.bookTwoRow.inPlace==Tryz.prog.inPlace 10)=true:=κ
theorem JJ:(Rows.bookTwoRow.unfollowed==Tryz.prog.unfollowed 10)=true:=κ
theorem E9:(Rows.bookTwoRow.recurses==Tryz.prog.recurses 10)=true:=κ
theorem j12:(Rows.bookTwoRow.named==Tryz.prog.varsNamed 10)=true:=κ
theorem UD:(Rows.bookTwoRow.maps==(Tryz.f10.params.toList++Rows.bookTwoSpec.plain.varTypes Tryz.prog).any (Tryz.prog.mapsRec ·))=true:=κ
theorem j14:(Rows.bookTwoRow.ifaces==(Tryz.f10.params.toList++Rows.bookTwoSpec.plain.varTypes Tryz.prog).any (Tryz.prog.ifacesRec ·))=true:=κ
theorem Dg:(Rows.bookTwoRow.mapsOut==Tryz.prog.mapsAmong Tryz.f10.resultTypes.toList)=true:=κ
theorem j16:(Rows.bookTwoRow.loops==(Tryz.f10.params.toList++Rows.bookTwoSpec.plain.varTypes Tryz.prog).any (Tryz.prog.loopsFrom ·))=true:=κ
theorem j17:(Rows.bookTwoRow.wideKeys==(Tryz.f10.params.toList++Rows.bookTwoSpec.plain.varTypes Tryz.prog++Tryz.f10.resultTypes.toList).any (Tryz.prog.wideKeysFrom ·))=true:=κ
theorem j18:Rows.bookTwoSpec.vars.all (Tryz.prog.varReadable ·)=true:=κ
theorem j19:Tryz.f10.resultTypes.all (λt=>Tryz.prog.readableRec t&&decide (t<Tryz.prog.types.size))=true:=κ
theorem j20:(Rows.bookTwoRow.ifacesOut==Tryz.f10.resultTypes.toList.any (Tryz.prog.ifacesRec ·))=true:=κ
theorem j21:(Rows.bookTwoRow.loopsOut==Tryz.f10.resultTypes.toList.any (Tryz.prog.loopsFrom ·))=true:=κ
theorem j23:Rows.bookTwoRow.shortTexts.isNone=true:=κ
theorem j28:(Rows.bookTwoRow.kinds==(if Rows.bookTwoRow.domain.isEmpty then []else Tryz.f10.params.toList.map λt=>match Tryz.prog.underlying t with|some (.int k)=>some k|_=>none))=true:=κ
theorem W9:(Rows.bookTwoRow.pinned==Rows.bookTwoRow.pinnedBy)=true:=κ
theorem j30:(Rows.bookTwoRow.veiled==(Tryz.f10.params.toList++Rows.bookTwoSpec.plain.varTypes Tryz.prog++Tryz.f10.resultTypes.toList).any (Tryz.prog.veiledRec ·))=true:=κ
theorem j31:Rows.bookTwoRow.veiledFits Tryz.prog Tryz.f10.params.toList (Tryz.f10.params.toList++Rows.bookTwoSpec.plain.varTypes Tryz.prog++Tryz.f10.resultTypes.toList)=true:=κ
theorem fb{a b:Bool}(h:a=true)(k:b=true):(a&&b)=true:=by rw[h,k];rfl
set_option maxRecDepth 100000 in
theorem closed:joinedFacts Tryz.prog 10 Tryz.f10 Rows.bookTwoSpec Rows.bookTwoRow=true:=by
 unfold joinedFacts
 exact fb (fb (fb (fb (fb (fb (fb (fb (fb (fb (fb (fb (fb (fb (fb (fb (fb (fb (fb (fb (fb (fb (fb (fb (fb (fb (fb (fb (fb (fb (fb j0 VM.IX.laidOut) VM.IX.aiJ) j3) j4) j5) VM.IX.aiK) j7) VM.IX.aiL) j9) JJ) E9) j12) UD) j14) Dg) j16) j17) j18) j19) j20) j21) VM.IX.plainKeys) j23) VM.IX.heard) VM.IX.enter) VM.IX.auo) VM.IX.make) j28) W9) j30) j31
theorem at':Tryz.prog.funcNamed Rows.bookTwoRow.func=some 10:=κ
theorem wrap:Tryz.f10.isWrapper Tryz.prog Rows.bookTwoRow.wrapper Rows.bookTwoRow.mainSum:=by
 unfold Func.isWrapper
 first|(rw[aj (by decide+kernel)];kernel_rfl)|(rw[ah (by decide+kernel)];exact⟨rfl,rfl⟩)
theorem over:Rows.bookTwoRow.holds Tryz.pinned (OpenSpec.ofChange Rows.bookTwoSpec):=
 OpenClaim.holds_of_wide 10 Tryz.f10 rfl rfl rfl rfl rfl rfl rfl ⟨rfl,rfl,rfl,rfl,rfl⟩ rfl rfl rfl rfl rfl at' Tryz.func10 closed (bt κ) wrap
  (λos started H enc _=>lifted os started H enc)
theorem proved:Rows.BookTwoSaid:=over
#print axioms proved
end Go.Proofs.YtecmobijochjkaaGreat.bookTwo
namespace Go.Proofs.YtecmobijochjkaaGreat
theorem bookTwo_holds:Rows.BookTwoSaid:=bookTwo.proved
end Go.Proofs.YtecmobijochjkaaGreat
