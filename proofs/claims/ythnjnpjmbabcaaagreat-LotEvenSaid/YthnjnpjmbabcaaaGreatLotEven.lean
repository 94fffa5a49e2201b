/- The parts of a position in the lots of its bucket differ by one at most. -/
import Derived.Test.YthnjnpjmbabcaaaGreatRows
import Derived.Test.YthnjnpjmbabcaaaGreatWalk0
import Derived.Test.YthnjnpjmbabcaaaGreatPlain9
import Derived.Test.YthnjnpjmbabcaaaGreatFacts
import Derived.WalkKit
import Derived.ProofKit
import Derived.OpenShut
import Derived.ShutString
import Derived.ChangeOld
import Derived.Below
import Derived.SizedLaws
set_option linter.all false
namespace Go.Proofs.YthnjnpjmbabcaaaGreat.lotEven
open Go.ChangeShapes Go.WideShapes Go.ChangeAt Go.RowKit
theorem own:ownKnob Tryz.prog.godebug=none:=κ
theorem laidOut:laidOutB Tryz.prog=true:=κ
set_option maxRecDepth 100000 in
theorem lifted(os:Os)(started:os.Started)(H:Type)(enc:TypeId×Value→H):
  ReturnsInHanded {} Tryz.checked os 6 .any (Rows.lotEvenSpec.pre6 enc Tryz.prog Tryz.f6 Rows.lotEvenRow.domain false) (Rows.lotEvenSpec.post enc Tryz.prog Tryz.f6 false true false false):=by
 refine returnsInHanded_of_change_sized (C:=Tryz.checked) own started κ Tryz.func6
  (ChangeSpec.witness6 (enc:=enc) (C:=Tryz.checked) false ⟨#[],#[.slice none 0 0],[]⟩ 8 κ κ κ κ) ?_
 intro W base args ds gs before aqN hW aCw aCx _
 have KA: ∀(j:Nat) t v,Tryz.f6.params[j]? =some t→args[j]? =some v→Value.okWide Tryz.prog W .any base t v:=aqN
 have hW':=hW
 obtain⟨p,q,hA0,hV,rfl,hfz,wj⟩:=hW
 have hA:DataW.TrodAll enc Tryz.prog W 0 (λ_=>true) true Tryz.f6.params.toList args.toList ds p:=hA0
 obtain⟨⟨x,hx,hwx⟩,WD⟩:=VM.WK VM.HX.laidOut [(.slice (.int .u64))] hA κ KA
 have hA1:DataW.TrodAll enc Tryz.prog W 0 (λ_=>true) true [39] args.toList ds p:=hA0
 obtain⟨v0,vs0,d0,ds0,p0,q0,ha0,rfl,It,h0,r0⟩:=trodAll_cons hA1
 obtain⟨_,rfl,_⟩:=trodAll_nil r0
 obtain⟨rfl,rfl⟩:=trodVars_none hV
 obtain⟨N,hN⟩:=VM.Pure.abI (x) hwx
 have hC:=VM.TW (VM.F.awH N) rfl Tryz.func6 [(.slice (.int .u64))] κ hx ((VM.F.awI N x).trans hN)
 rw[Array.toArray_toList]at hC
 refine hC.mono λe W' ⟨he,bel⟩=> ?_
 subst he
 obtain⟨EI,hb⟩:=WD W' bel
 exact⟨_,rfl,_,_,_,[],_,[],hW',trodAll_mk1 (shut_bool Tryz.underlying4 _),hb,rfl,bel.frame _,λh=>by cases h⟩
theorem j0:Rows.lotEvenRow.wf (OpenSpec.ofChange Rows.lotEvenSpec)=true:=κ
theorem j3:Tryz.f6.params.all (Tryz.prog.readableRec ·)=true:=κ
theorem j4:namedTie Tryz.prog Rows.lotEvenRow.named Rows.lotEvenSpec.vars=true:=κ
theorem j5:(Rows.lotEvenRow.stops==[])=true:=κ
theorem j7:(Rows.lotEvenRow.knobs==[])=true:=κ
theorem j9:(Rows.lotEvenRow.inPlace==Tryz.prog.inPlace 6)=true:=κ
theorem Q5:(Rows.lotEvenRow.unfollowed==Tryz.prog.unfollowed 6)=true:=κ
theorem JW:(Rows.lotEvenRow.recurses==Tryz.prog.recurses 6)=true:=κ
theorem j12:(Rows.lotEvenRow.named==Tryz.prog.varsNamed 6)=true:=κ
theorem KR:(Rows.lotEvenRow.maps==(Tryz.f6.params.toList++Rows.lotEvenSpec.plain.varTypes Tryz.prog).any (Tryz.prog.mapsRec ·))=true:=κ
theorem j14:(Rows.lotEvenRow.ifaces==(Tryz.f6.params.toList++Rows.lotEvenSpec.plain.varTypes Tryz.prog).any (Tryz.prog.ifacesRec ·))=true:=κ
theorem Cp:(Rows.lotEvenRow.mapsOut==Tryz.prog.mapsAmong Tryz.f6.resultTypes.toList)=true:=κ
theorem j16:(Rows.lotEvenRow.loops==(Tryz.f6.params.toList++Rows.lotEvenSpec.plain.varTypes Tryz.prog).any (Tryz.prog.loopsFrom ·))=true:=κ
theorem j17:(Rows.lotEvenRow.wideKeys==(Tryz.f6.params.toList++Rows.lotEvenSpec.plain.varTypes Tryz.prog++Tryz.f6.resultTypes.toList).any (Tryz.prog.wideKeysFrom ·))=true:=κ
theorem j18:Rows.lotEvenSpec.vars.all (Tryz.prog.varReadable ·)=true:=κ
theorem j19:Tryz.f6.resultTypes.all (λt=>Tryz.prog.readableRec t&&decide (t<Tryz.prog.types.size))=true:=κ
theorem j20:(Rows.lotEvenRow.ifacesOut==Tryz.f6.resultTypes.toList.any (Tryz.prog.ifacesRec ·))=true:=κ
theorem j21:(Rows.lotEvenRow.loopsOut==Tryz.f6.resultTypes.toList.any (Tryz.prog.loopsFrom ·))=true:=κ
theorem j23:Rows.lotEvenRow.shortTexts.isNone=true:=κ
theorem j28:(Rows.lotEvenRow.kinds==(if Rows.lotEvenRow.domain.isEmpty then []else Tryz.f6.params.toList.map λt=>match Tryz.prog.underlying t with|some (.int k)=>some k|_=>none))=true:=κ
theorem L1:(Rows.lotEvenRow.pinned==Rows.lotEvenRow.pinnedBy)=true:=κ
theorem j30:(Rows.lotEvenRow.veiled==(Tryz.f6.params.toList++Rows.lotEvenSpec.plain.varTypes Tryz.prog++Tryz.f6.resultTypes.toList).any (Tryz.prog.veiledRec ·))=true:=κ
theorem j31:Rows.lotEvenRow.veiledFits Tryz.prog Tryz.f6.params.toList (Tryz.f6.params.toList++Rows.lotEvenSpec.plain.varTypes Tryz.prog++Tryz.f6.resultTypes.toList)=true:=κ
theorem eH{a b:Bool}(h:a=true)(k:b=true):(a&&b)=true:=by rw[h,k];rfl
set_option maxRecDepth 100000 in
theorem closed:joinedFacts Tryz.prog 6 Tryz.f6 Rows.lotEvenSpec Rows.lotEvenRow=true:=by
 unfold joinedFacts
 exact eH (eH (eH (eH (eH (eH (eH (eH (eH (eH (eH (eH (eH (eH (eH (eH (eH (eH (eH (eH (eH (eH (eH (eH (eH (eH (eH (eH (eH (eH (eH j0 VM.HX.laidOut) VM.HX.afm) j3) j4) j5) VM.HX.afn) j7) VM.HX.afo) j9) Q5) JW) j12) KR) j14) Cp) j16) j17) j18) j19) j20) j21) VM.HX.plainKeys) j23) VM.HX.heard) VM.HX.enter) VM.HX.aqM) VM.HX.make) j28) L1) j30) j31
theorem Qb:Tryz.prog.funcNamed Rows.lotEvenRow.func=some 6:=κ
theorem wrap:Tryz.f6.isWrapper Tryz.prog Rows.lotEvenRow.wrapper Rows.lotEvenRow.mainSum:=by
 unfold Func.isWrapper
 first|(rw[ak (by decide+kernel)];kernel_rfl)|(rw[ah (by decide+kernel)];exact⟨rfl,rfl⟩)
theorem over:Rows.lotEvenRow.holds Tryz.pinned (OpenSpec.ofChange Rows.lotEvenSpec):=
 OpenClaim.holds_of_wide 6 Tryz.f6 rfl rfl rfl rfl rfl rfl rfl ⟨rfl,rfl,rfl,rfl,rfl⟩ rfl rfl rfl rfl rfl Qb Tryz.func6 closed (bl κ) wrap
  (λos started H enc _=>lifted os started H enc)
theorem proved:Rows.LotEvenSaid:=over
#print axioms proved
end Go.Proofs.YthnjnpjmbabcaaaGreat.lotEven
namespace Go.Proofs.YthnjnpjmbabcaaaGreat
theorem lotEven_holds:Rows.LotEvenSaid:=lotEven.proved
end Go.Proofs.YthnjnpjmbabcaaaGreat
