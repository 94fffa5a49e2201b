/- Trades one by one come to the same as all at once, where no sum on the way is too great. -/
import Derived.Test.YthkjjlcblhbifaaGreatRows
import Derived.Test.YthkjjlcblhbifaaGreatWalk0
import Derived.Test.YthkjjlcblhbifaaGreatPlain10
import Derived.Test.YthkjjlcblhbifaaGreatFacts
import Derived.WalkKit
import Derived.ProofKit
import Derived.OpenShut
import Derived.ShutString
import Derived.ChangeOld
import Derived.Below
import Derived.SizedLaws
set_option linter.all false
namespace Go.Proofs.YthkjjlcblhbifaaGreat.bookAtOnce
open Go.ChangeShapes Go.WideShapes Go.ChangeAt Go.RowKit
theorem own:ownKnob Tryz.prog.godebug=none:=κ
theorem laidOut:laidOutB Tryz.prog=true:=κ
set_option maxRecDepth 100000 in
theorem lifted(os:Os)(started:os.Started)(H:Type)(enc:TypeId×Value→H):
  ReturnsInHanded {} Tryz.checked os 4 .any (Rows.bookAtOnceSpec.pre6 enc Tryz.prog Tryz.f4 Rows.bookAtOnceRow.domain false) (Rows.bookAtOnceSpec.post enc Tryz.prog Tryz.f4 false true false false):=by
 refine returnsInHanded_of_change_sized (C:=Tryz.checked) own started κ Tryz.func4
  (ChangeSpec.witness6 (enc:=enc) (C:=Tryz.checked) false ⟨#[],#[.slice none 0 0],[]⟩ 8 κ κ κ κ) ?_
 intro W base args ds gs before at3 hW aFi aFj _
 have LJ: ∀(j:Nat) t v,Tryz.f4.params[j]? =some t→args[j]? =some v→Value.okWide Tryz.prog W .any base t v:=at3
 have hW':=hW
 obtain⟨p,q,hA0,hV,rfl,hfz,wD⟩:=hW
 have hA:DataW.TrodAll enc Tryz.prog W 0 (λ_=>true) true Tryz.f4.params.toList args.toList ds p:=hA0
 obtain⟨⟨x,hx,hwx⟩,Yx⟩:=VM.YD VM.IZ.laidOut [(.slice (.int .u64))] hA κ LJ
 have hA1:DataW.TrodAll enc Tryz.prog W 0 (λ_=>true) true [22] args.toList ds p:=hA0
 obtain⟨v0,vs0,d0,ds0,p0,q0,ha0,rfl,hp0,h0,r0⟩:=trodAll_cons hA1
 obtain⟨_,rfl,_⟩:=trodAll_nil r0
 obtain⟨rfl,rfl⟩:=trodVars_none hV
 obtain⟨N,hN⟩:=VM.Pure.Si (x) hwx
 have hC:=VM.VC (VM.F.azG N) rfl Tryz.func4 [(.slice (.int .u64))] κ hx ((VM.F.azH N x).trans hN)
 rw[Array.toArray_toList]at hC
 refine hC.mono λe W' ⟨he,bel⟩=> ?_
 subst he
 obtain⟨I8,hb⟩:=Yx W' bel
 exact⟨_,rfl,_,_,_,[],_,[],hW',trodAll_mk1 (shut_bool Tryz.underlying4 _),hb,rfl,bel.frame _,λh=>by cases h⟩
theorem j0:Rows.bookAtOnceRow.wf (OpenSpec.ofChange Rows.bookAtOnceSpec)=true:=κ
theorem j3:Tryz.f4.params.all (Tryz.prog.readableRec ·)=true:=κ
theorem j4:namedTie Tryz.prog Rows.bookAtOnceRow.named Rows.bookAtOnceSpec.vars=true:=κ
theorem j5:(Rows.bookAtOnceRow.stops==[])=true:=κ
theorem j7:(Rows.bookAtOnceRow.knobs==[])=true:=κ
theorem j9:(Rows.bookAtOnceRow.inPlace==Tryz.prog.inPlace 4)=true:=κ
theorem JQ:(Rows.bookAtOnceRow.unfollowed==Tryz.prog.unfollowed 4)=true:=κ
theorem E5:(Rows.bookAtOnceRow.recurses==Tryz.prog.recurses 4)=true:=κ
theorem j12:(Rows.bookAtOnceRow.named==Tryz.prog.varsNamed 4)=true:=κ
theorem Uk:(Rows.bookAtOnceRow.maps==(Tryz.f4.params.toList++Rows.bookAtOnceSpec.plain.varTypes Tryz.prog).any (Tryz.prog.mapsRec ·))=true:=κ
theorem j14:(Rows.bookAtOnceRow.ifaces==(Tryz.f4.params.toList++Rows.bookAtOnceSpec.plain.varTypes Tryz.prog).any (Tryz.prog.ifacesRec ·))=true:=κ
theorem Da:(Rows.bookAtOnceRow.mapsOut==Tryz.prog.mapsAmong Tryz.f4.resultTypes.toList)=true:=κ
theorem j16:(Rows.bookAtOnceRow.loops==(Tryz.f4.params.toList++Rows.bookAtOnceSpec.plain.varTypes Tryz.prog).any (Tryz.prog.loopsFrom ·))=true:=κ
theorem j17:(Rows.bookAtOnceRow.wideKeys==(Tryz.f4.params.toList++Rows.bookAtOnceSpec.plain.varTypes Tryz.prog++Tryz.f4.resultTypes.toList).any (Tryz.prog.wideKeysFrom ·))=true:=κ
theorem j18:Rows.bookAtOnceSpec.vars.all (Tryz.prog.varReadable ·)=true:=κ
theorem j19:Tryz.f4.resultTypes.all (λt=>Tryz.prog.readableRec t&&decide (t<Tryz.prog.types.size))=true:=κ
theorem j20:(Rows.bookAtOnceRow.ifacesOut==Tryz.f4.resultTypes.toList.any (Tryz.prog.ifacesRec ·))=true:=κ
theorem j21:(Rows.bookAtOnceRow.loopsOut==Tryz.f4.resultTypes.toList.any (Tryz.prog.loopsFrom ·))=true:=κ
theorem j23:Rows.bookAtOnceRow.shortTexts.isNone=true:=κ
theorem j28:(Rows.bookAtOnceRow.kinds==(if Rows.bookAtOnceRow.domain.isEmpty then []else Tryz.f4.params.toList.map λt=>match Tryz.prog.underlying t with|some (.int k)=>some k|_=>none))=true:=κ
theorem WH:(Rows.bookAtOnceRow.pinned==Rows.bookAtOnceRow.pinnedBy)=true:=κ
theorem j30:(Rows.bookAtOnceRow.veiled==(Tryz.f4.params.toList++Rows.bookAtOnceSpec.plain.varTypes Tryz.prog++Tryz.f4.resultTypes.toList).any (Tryz.prog.veiledRec ·))=true:=κ
theorem j31:Rows.bookAtOnceRow.veiledFits Tryz.prog Tryz.f4.params.toList (Tryz.f4.params.toList++Rows.bookAtOnceSpec.plain.varTypes Tryz.prog++Tryz.f4.resultTypes.toList)=true:=κ
theorem fg{a b:Bool}(h:a=true)(k:b=true):(a&&b)=true:=by rw[h,k];rfl
set_option maxRecDepth 100000 in
theorem closed:joinedFacts Tryz.prog 4 Tryz.f4 Rows.bookAtOnceSpec Rows.bookAtOnceRow=true:=by
 unfold joinedFacts
 exact fg (fg (fg (fg (fg (fg (fg (fg (fg (fg (fg (fg (fg (fg (fg (fg (fg (fg (fg (fg (fg (fg (fg (fg (fg (fg (fg (fg (fg (fg (fg j0 VM.IZ.laidOut) VM.IZ.aia) j3) j4) j5) VM.IZ.aib) j7) VM.IZ.aic) j9) JQ) E5) j12) Uk) j14) Da) j16) j17) j18) j19) j20) j21) VM.IZ.plainKeys) j23) VM.IZ.heard) VM.IZ.enter) VM.IZ.at2) VM.IZ.make) j28) WH) j30) j31
theorem at':Tryz.prog.funcNamed Rows.bookAtOnceRow.func=some 4:=κ
theorem wrap:Tryz.f4.isWrapper Tryz.prog Rows.bookAtOnceRow.wrapper Rows.bookAtOnceRow.mainSum:=by
 unfold Func.isWrapper
 first|(rw[aj (by decide+kernel)];kernel_rfl)|(rw[ah (by decide+kernel)];exact⟨rfl,rfl⟩)
theorem over:Rows.bookAtOnceRow.holds Tryz.pinned (OpenSpec.ofChange Rows.bookAtOnceSpec):=
 OpenClaim.holds_of_wide 4 Tryz.f4 rfl rfl rfl rfl rfl rfl rfl ⟨rfl,rfl,rfl,rfl,rfl⟩ rfl rfl rfl rfl rfl at' Tryz.func4 closed (bt κ) wrap
  (λos started H enc _=>lifted os started H enc)
theorem proved:Rows.BookAtOnceSaid:=over
#print axioms proved
end Go.Proofs.YthkjjlcblhbifaaGreat.bookAtOnce
namespace Go.Proofs.YthkjjlcblhbifaaGreat
theorem bookAtOnce_holds:Rows.BookAtOnceSaid:=bookAtOnce.proved
end Go.Proofs.YthkjjlcblhbifaaGreat
