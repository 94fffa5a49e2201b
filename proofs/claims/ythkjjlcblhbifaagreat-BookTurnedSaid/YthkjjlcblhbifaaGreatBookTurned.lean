/- A book as events make it, with one thing turned, is right just as the document says. -/
import Derived.Test.YthkjjlcblhbifaaGreatRows
import Derived.Test.YthkjjlcblhbifaaGreatWalk0
import Derived.Test.YthkjjlcblhbifaaGreatPlain10
import Derived.Test.YthkjjlcblhbifaaGreatFacts
import Derived.WalkKit
import Derived.ProofKit
import Derived.OpenShut
import Derived.ShutString
import Derived.ChangeOld
import Derived.Below
import Derived.SizedLaws
set_option linter.all false
namespace Go.Proofs.YthkjjlcblhbifaaGreat.bookTurned
open Go.ChangeShapes Go.WideShapes Go.ChangeAt Go.RowKit
theorem own:ownKnob Tryz.prog.godebug=none:=κ
theorem laidOut:laidOutB Tryz.prog=true:=κ
set_option maxRecDepth 100000 in
theorem lifted(os:Os)(started:os.Started)(H:Type)(enc:TypeId×Value→H):
  ReturnsInHanded {} Tryz.checked os 3 .any (Rows.bookTurnedSpec.pre6 enc Tryz.prog Tryz.f3 Rows.bookTurnedRow.domain false) (Rows.bookTurnedSpec.post enc Tryz.prog Tryz.f3 false true false false):=by
 refine returnsInHanded_of_change_sized (C:=Tryz.checked) own started κ Tryz.func3
  (ChangeSpec.witness6 (enc:=enc) (C:=Tryz.checked) false ⟨#[],#[.slice none 0 0,.int .u8 0,.int .i64 0],[]⟩ 8 κ κ κ κ) ?_
 intro W base args ds gs before auq hW aFP aFQ _
 have Ha: ∀(j:Nat) t v,Tryz.f3.params[j]? =some t→args[j]? =some v→Value.okWide Tryz.prog W .any base t v:=auq
 have hW':=hW
 obtain⟨p,q,hA0,hV,rfl,hfz,wV⟩:=hW
 have hA:DataW.TrodAll enc Tryz.prog W 0 (λ_=>true) true Tryz.f3.params.toList args.toList ds p:=hA0
 obtain⟨⟨x,hx,hwx⟩,Y5⟩:=VM.Zb VM.Jh.laidOut [(.slice (.int .u64)),(.int .u8),(.int .i64)] hA κ Ha
 have hA1:DataW.TrodAll enc Tryz.prog W 0 (λ_=>true) true [22,5,2] args.toList ds p:=hA0
 obtain⟨v0,vs0,d0,ds0,p0,q0,ha0,rfl,hp0,h0,r0⟩:=trodAll_cons hA1
 obtain⟨v1,YG,d1,ds1,p1,q1,ha1,rfl,hp1,h1,r1⟩:=trodAll_cons r0
 obtain⟨v2,vs2,d2,ds2,p2,q2,ha2,rfl,hp2,h2,r2⟩:=trodAll_cons r1
 obtain⟨_,rfl,_⟩:=trodAll_nil r2
 obtain⟨rfl,rfl⟩:=trodVars_none hV
 obtain⟨N,hN⟩:=VM.Pure.SM (x.1) (x.2.1) (x.2.2) hwx
 have hC:=VM.V5 (VM.F.az9 N) rfl Tryz.func3 [(.slice (.int .u64)),(.int .u8),(.int .i64)] κ hx ((VM.F.aAa N x).trans hN)
 rw[Array.toArray_toList]at hC
 refine hC.mono λe W' ⟨he,bel⟩=> ?_
 subst he
 obtain⟨Jp,hb⟩:=Y5 W' bel
 exact⟨_,rfl,_,_,_,[],_,[],hW',trodAll_mk1 (shut_bool Tryz.underlying4 _),hb,rfl,bel.frame _,λh=>by cases h⟩
theorem j0:Rows.bookTurnedRow.wf (OpenSpec.ofChange Rows.bookTurnedSpec)=true:=κ
theorem j3:Tryz.f3.params.all (Tryz.prog.readableRec ·)=true:=κ
theorem j4:namedTie Tryz.prog Rows.bookTurnedRow.named Rows.bookTurnedSpec.vars=true:=κ
theorem j5:(Rows.bookTurnedRow.stops==[])=true:=κ
theorem j7:(Rows.bookTurnedRow.knobs==[])=true:=κ
theorem j9:(Rows.bookTurnedRow.inPlace==Tryz.prog.inPlace 3)=true:=κ
theorem JW:(Rows.bookTurnedRow.unfollowed==Tryz.prog.unfollowed 3)=true:=κ
theorem Lg:(Rows.bookTurnedRow.recurses==Tryz.prog.recurses 3)=true:=κ
theorem j12:(Rows.bookTurnedRow.named==Tryz.prog.varsNamed 3)=true:=κ
theorem UP:(Rows.bookTurnedRow.maps==(Tryz.f3.params.toList++Rows.bookTurnedSpec.plain.varTypes Tryz.prog).any (Tryz.prog.mapsRec ·))=true:=κ
theorem j14:(Rows.bookTurnedRow.ifaces==(Tryz.f3.params.toList++Rows.bookTurnedSpec.plain.varTypes Tryz.prog).any (Tryz.prog.ifacesRec ·))=true:=κ
theorem Dt:(Rows.bookTurnedRow.mapsOut==Tryz.prog.mapsAmong Tryz.f3.resultTypes.toList)=true:=κ
theorem j16:(Rows.bookTurnedRow.loops==(Tryz.f3.params.toList++Rows.bookTurnedSpec.plain.varTypes Tryz.prog).any (Tryz.prog.loopsFrom ·))=true:=κ
theorem j17:(Rows.bookTurnedRow.wideKeys==(Tryz.f3.params.toList++Rows.bookTurnedSpec.plain.varTypes Tryz.prog++Tryz.f3.resultTypes.toList).any (Tryz.prog.wideKeysFrom ·))=true:=κ
theorem j18:Rows.bookTurnedSpec.vars.all (Tryz.prog.varReadable ·)=true:=κ
theorem j19:Tryz.f3.resultTypes.all (λt=>Tryz.prog.readableRec t&&decide (t<Tryz.prog.types.size))=true:=κ
theorem j20:(Rows.bookTurnedRow.ifacesOut==Tryz.f3.resultTypes.toList.any (Tryz.prog.ifacesRec ·))=true:=κ
theorem j21:(Rows.bookTurnedRow.loopsOut==Tryz.f3.resultTypes.toList.any (Tryz.prog.loopsFrom ·))=true:=κ
theorem j23:Rows.bookTurnedRow.shortTexts.isNone=true:=κ
theorem j28:(Rows.bookTurnedRow.kinds==(if Rows.bookTurnedRow.domain.isEmpty then []else Tryz.f3.params.toList.map λt=>match Tryz.prog.underlying t with|some (.int k)=>some k|_=>none))=true:=κ
theorem Xf:(Rows.bookTurnedRow.pinned==Rows.bookTurnedRow.pinnedBy)=true:=κ
theorem j30:(Rows.bookTurnedRow.veiled==(Tryz.f3.params.toList++Rows.bookTurnedSpec.plain.varTypes Tryz.prog++Tryz.f3.resultTypes.toList).any (Tryz.prog.veiledRec ·))=true:=κ
theorem j31:Rows.bookTurnedRow.veiledFits Tryz.prog Tryz.f3.params.toList (Tryz.f3.params.toList++Rows.bookTurnedSpec.plain.varTypes Tryz.prog++Tryz.f3.resultTypes.toList)=true:=κ
theorem fj{a b:Bool}(h:a=true)(k:b=true):(a&&b)=true:=by rw[h,k];rfl
set_option maxRecDepth 100000 in
theorem closed:joinedFacts Tryz.prog 3 Tryz.f3 Rows.bookTurnedSpec Rows.bookTurnedRow=true:=by
 unfold joinedFacts
 exact fj (fj (fj (fj (fj (fj (fj (fj (fj (fj (fj (fj (fj (fj (fj (fj (fj (fj (fj (fj (fj (fj (fj (fj (fj (fj (fj (fj (fj (fj (fj j0 VM.Jh.laidOut) VM.Jh.aiB) j3) j4) j5) VM.Jh.aiC) j7) VM.Jh.aiD) j9) JW) Lg) j12) UP) j14) Dt) j16) j17) j18) j19) j20) j21) VM.Jh.plainKeys) j23) VM.Jh.heard) VM.Jh.enter) VM.Jh.aup) VM.Jh.make) j28) Xf) j30) j31
theorem at':Tryz.prog.funcNamed Rows.bookTurnedRow.func=some 3:=κ
theorem wrap:Tryz.f3.isWrapper Tryz.prog Rows.bookTurnedRow.wrapper Rows.bookTurnedRow.mainSum:=by
 unfold Func.isWrapper
 first|(rw[ak (by decide+kernel)];kernel_rfl)|(rw[ag (by decide+kernel)];exact⟨rfl,rfl⟩)
theorem over:Rows.bookTurnedRow.holds Tryz.pinned (OpenSpec.ofChange Rows.bookTurnedSpec):=
 OpenClaim.holds_of_wide 3 Tryz.f3 rfl rfl rfl rfl rfl rfl rfl ⟨rfl,rfl,rfl,rfl,rfl⟩ rfl rfl rfl rfl rfl at' Tryz.func3 closed (bD κ) wrap
  (λos started H enc _=>lifted os started H enc)
theorem proved:Rows.BookTurnedSaid:=over
#print axioms proved
end Go.Proofs.YthkjjlcblhbifaaGreat.bookTurned
namespace Go.Proofs.YthkjjlcblhbifaaGreat
theorem bookTurned_holds:Rows.BookTurnedSaid:=bookTurned.proved
end Go.Proofs.YthkjjlcblhbifaaGreat
