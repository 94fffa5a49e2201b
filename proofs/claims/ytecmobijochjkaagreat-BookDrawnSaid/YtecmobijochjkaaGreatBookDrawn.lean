/- This shows the same of books as events make them. -/
import Derived.Test.YtecmobijochjkaaGreatRows
import Derived.Test.YtecmobijochjkaaGreatWalk0
import Derived.Test.YtecmobijochjkaaGreatPlain10
import Derived.Test.YtecmobijochjkaaGreatFacts
import Derived.WalkKit
import Derived.ProofKit
import Derived.OpenShut
import Derived.ShutString
import Derived.ChangeOld
import Derived.Below
import Derived.SizedLaws
set_option linter.all false
namespace Go.Proofs.YtecmobijochjkaaGreat.bookDrawn
open Go.ChangeShapes Go.WideShapes Go.ChangeAt Go.RowKit
theorem own:ownKnob Tryz.prog.godebug=none:=κ
theorem laidOut:laidOutB Tryz.prog=true:=κ
set_option maxRecDepth 100000 in
theorem lifted(os:Os)(started:os.Started)(H:Type)(enc:TypeId×Value→H):
  ReturnsInHanded {} Tryz.checked os 8 .any (Rows.bookDrawnSpec.pre6 enc Tryz.prog Tryz.f8 Rows.bookDrawnRow.domain false) (Rows.bookDrawnSpec.post enc Tryz.prog Tryz.f8 false true false false):=by
 refine returnsInHanded_of_change_sized (C:=Tryz.checked) own started κ Tryz.func8
  (ChangeSpec.witness6 (enc:=enc) (C:=Tryz.checked) false ⟨#[],#[.slice none 0 0,.int .i64 0],[]⟩ 8 κ κ κ κ) ?_
 intro W base args ds gs before auF hW aFL aFM _
 have GZ: ∀(j:Nat) t v,Tryz.f8.params[j]? =some t→args[j]? =some v→Value.okWide Tryz.prog W .any base t v:=auF
 have hW':=hW
 obtain⟨p,q,hA0,hV,rfl,hfz,w6⟩:=hW
 have hA:DataW.TrodAll enc Tryz.prog W 0 (λ_=>true) true Tryz.f8.params.toList args.toList ds p:=hA0
 obtain⟨⟨x,hx,hwx⟩,Y8⟩:=VM.Ze VM.I9.laidOut [(.slice (.int .u64)),(.int .i64)] hA κ GZ
 have hA1:DataW.TrodAll enc Tryz.prog W 0 (λ_=>true) true [22,2] args.toList ds p:=hA0
 obtain⟨v0,vs0,d0,ds0,p0,q0,ha0,rfl,hp0,h0,r0⟩:=trodAll_cons hA1
 obtain⟨v1,YJ,d1,ds1,p1,q1,ha1,rfl,hp1,h1,r1⟩:=trodAll_cons r0
 obtain⟨_,rfl,_⟩:=trodAll_nil r1
 obtain⟨rfl,rfl⟩:=trodVars_none hV
 obtain⟨N,hN⟩:=VM.Pure.WG (x.1) (x.2) hwx
 have hC:=VM.V7 (VM.F.aAF N) rfl Tryz.func8 [(.slice (.int .u64)),(.int .i64)] κ hx ((VM.F.aAG N x).trans hN)
 rw[Array.toArray_toList]at hC
 refine hC.mono λe W' ⟨he,bel⟩=> ?_
 subst he
 obtain⟨Jh,hb⟩:=Y8 W' bel
 exact⟨_,rfl,_,_,_,[],_,[],hW',trodAll_mk1 (shut_bool Tryz.underlying4 _),hb,rfl,bel.frame _,λh=>by cases h⟩
theorem j0:Rows.bookDrawnRow.wf (OpenSpec.ofChange Rows.bookDrawnSpec)=true:=κ
theorem j3:Tryz.f8.params.all (Tryz.prog.readableRec ·)=true:=κ
theorem j4:namedTie Tryz.prog Rows.bookDrawnRow.named Rows.bookDrawnSpec.vars=true:=κ
theorem j5:(Rows.bookDrawnRow.stops==[])=true:=κ
theorem j7:(Rows.bookDrawnRow.knobs==[])=true:=κ
theorem j9:(Rows.bookDrawnRow.inPlace==Tryz.prog.inPlace 8)=true:=κ
theorem JN:(Rows.bookDrawnRow.unfollowed==Tryz.prog.unfollowed 8)=true:=κ
theorem E9:(Rows.bookDrawnRow.recurses==Tryz.prog.recurses 8)=true:=κ
theorem j12:(Rows.bookDrawnRow.named==Tryz.prog.varsNamed 8)=true:=κ
theorem UN:(Rows.bookDrawnRow.maps==(Tryz.f8.params.toList++Rows.bookDrawnSpec.plain.varTypes Tryz.prog).any (Tryz.prog.mapsRec ·))=true:=κ
theorem j14:(Rows.bookDrawnRow.ifaces==(Tryz.f8.params.toList++Rows.bookDrawnSpec.plain.varTypes Tryz.prog).any (Tryz.prog.ifacesRec ·))=true:=κ
theorem Dn:(Rows.bookDrawnRow.mapsOut==Tryz.prog.mapsAmong Tryz.f8.resultTypes.toList)=true:=κ
theorem j16:(Rows.bookDrawnRow.loops==(Tryz.f8.params.toList++Rows.bookDrawnSpec.plain.varTypes Tryz.prog).any (Tryz.prog.loopsFrom ·))=true:=κ
theorem j17:(Rows.bookDrawnRow.wideKeys==(Tryz.f8.params.toList++Rows.bookDrawnSpec.plain.varTypes Tryz.prog++Tryz.f8.resultTypes.toList).any (Tryz.prog.wideKeysFrom ·))=true:=κ
theorem j18:Rows.bookDrawnSpec.vars.all (Tryz.prog.varReadable ·)=true:=κ
theorem j19:Tryz.f8.resultTypes.all (λt=>Tryz.prog.readableRec t&&decide (t<Tryz.prog.types.size))=true:=κ
theorem j20:(Rows.bookDrawnRow.ifacesOut==Tryz.f8.resultTypes.toList.any (Tryz.prog.ifacesRec ·))=true:=κ
theorem j21:(Rows.bookDrawnRow.loopsOut==Tryz.f8.resultTypes.toList.any (Tryz.prog.loopsFrom ·))=true:=κ
theorem j23:Rows.bookDrawnRow.shortTexts.isNone=true:=κ
theorem j28:(Rows.bookDrawnRow.kinds==(if Rows.bookDrawnRow.domain.isEmpty then []else Tryz.f8.params.toList.map λt=>match Tryz.prog.underlying t with|some (.int k)=>some k|_=>none))=true:=κ
theorem Xn:(Rows.bookDrawnRow.pinned==Rows.bookDrawnRow.pinnedBy)=true:=κ
theorem j30:(Rows.bookDrawnRow.veiled==(Tryz.f8.params.toList++Rows.bookDrawnSpec.plain.varTypes Tryz.prog++Tryz.f8.resultTypes.toList).any (Tryz.prog.veiledRec ·))=true:=κ
theorem j31:Rows.bookDrawnRow.veiledFits Tryz.prog Tryz.f8.params.toList (Tryz.f8.params.toList++Rows.bookDrawnSpec.plain.varTypes Tryz.prog++Tryz.f8.resultTypes.toList)=true:=κ
theorem fe{a b:Bool}(h:a=true)(k:b=true):(a&&b)=true:=by rw[h,k];rfl
set_option maxRecDepth 100000 in
theorem closed:joinedFacts Tryz.prog 8 Tryz.f8 Rows.bookDrawnSpec Rows.bookDrawnRow=true:=by
 unfold joinedFacts
 exact fe (fe (fe (fe (fe (fe (fe (fe (fe (fe (fe (fe (fe (fe (fe (fe (fe (fe (fe (fe (fe (fe (fe (fe (fe (fe (fe (fe (fe (fe (fe j0 VM.I9.laidOut) VM.I9.aiT) j3) j4) j5) VM.I9.aiU) j7) VM.I9.aiV) j9) JN) E9) j12) UN) j14) Dn) j16) j17) j18) j19) j20) j21) VM.I9.plainKeys) j23) VM.I9.heard) VM.I9.enter) VM.I9.auE) VM.I9.make) j28) Xn) j30) j31
theorem at':Tryz.prog.funcNamed Rows.bookDrawnRow.func=some 8:=κ
theorem wrap:Tryz.f8.isWrapper Tryz.prog Rows.bookDrawnRow.wrapper Rows.bookDrawnRow.mainSum:=by
 unfold Func.isWrapper
 first|(rw[ak (by decide+kernel)];kernel_rfl)|(rw[ah (by decide+kernel)];exact⟨rfl,rfl⟩)
theorem over:Rows.bookDrawnRow.holds Tryz.pinned (OpenSpec.ofChange Rows.bookDrawnSpec):=
 OpenClaim.holds_of_wide 8 Tryz.f8 rfl rfl rfl rfl rfl rfl rfl ⟨rfl,rfl,rfl,rfl,rfl⟩ rfl rfl rfl rfl rfl at' Tryz.func8 closed (bA κ) wrap
  (λos started H enc _=>lifted os started H enc)
theorem proved:Rows.BookDrawnSaid:=over
#print axioms proved
end Go.Proofs.YtecmobijochjkaaGreat.bookDrawn
namespace Go.Proofs.YtecmobijochjkaaGreat
theorem bookDrawn_holds:Rows.BookDrawnSaid:=bookDrawn.proved
end Go.Proofs.YtecmobijochjkaaGreat
