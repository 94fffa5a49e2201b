/- HedgeAll, of layer 22, holds: for every config, every book, every hedge order, every number next, every account number, every quantity and every price it answers true and does not panic. There are no further conditions: whatever arguments the given row allows. -/
import Derived.Test.YthpchkeghefokaaGreatRows
import Derived.Test.YthpchkeghefokaaGreatWalk0
import Derived.Test.YthpchkeghefokaaGreatPlain5
import Derived.Test.YthpchkeghefokaaGreatFacts
import Derived.WalkKit
import Derived.ProofKit
import Derived.OpenShut
import Derived.ShutString
import Derived.ChangeOld
import Derived.Below
import Derived.SizedLaws
set_option linter.all false
namespace Go.Proofs.YthpchkeghefokaaGreat.hedgeAll
open Go.ChangeShapes Go.WideShapes Go.ChangeAt Go.RowKit
set_option linter.unusedVariables false
theorem own : ownKnob Tryz.prog.godebug = none := by kernel_rfl
theorem laidOut : laidOutB Tryz.prog = true := by kernel_rfl
set_option maxRecDepth 100000 in
theorem lifted (os : Os) (started : os.Started) (H : Type) (enc : TypeId × Value → H) :
    ReturnsInHanded {} Tryz.checked os 6 .any (Rows.hedgeAllSpec.pre6 enc Tryz.prog Tryz.f6 Rows.hedgeAllRow.domain false) (Rows.hedgeAllSpec.post enc Tryz.prog Tryz.f6 false true false false) := by
  refine returnsInHanded_of_change_sized (C := Tryz.checked) own started (by kernel_rfl) Tryz.func6
    (ChangeSpec.witness6 (enc := enc) (C := Tryz.checked) false ⟨#[], #[.agg #[.slice none 0 0, .int .i64 0, .int .i64 0, .int .i64 0, .int .i64 0, .int .i64 0, .int .i64 0], .agg #[.slice none 0 0, .slice none 0 0, .slice none 0 0, .slice none 0 0, .slice none 0 0, .slice none 0 0], .agg #[.int .i64 0, .int .i64 0, .int .i64 0, .int .i64 0], .int .i64 0, .int .i64 0, .int .i64 0, .int .i64 0], []⟩ 8 (by kernel_rfl) (by kernel_rfl) (by kernel_rfl) (by kernel_rfl)) ?_
  intro W base args ds gs before hval0 hW hcnd hsz0 _
  have hval : ∀ (j : Nat) t v, Tryz.f6.params[j]? = some t → args[j]? = some v → Value.okWide Tryz.prog W .any base t v := hval0
  have hW' := hW
  obtain ⟨p, q, hA0, hV, rfl, hfz, hnd⟩ := hW
  have hA : DataW.TrodAll enc Tryz.prog W 0 (fun _ => true) true Tryz.f6.params.toList args.toList ds p := hA0
  obtain ⟨⟨x, hx, hwx⟩, hback⟩ := VM.row_args VM.Seat.laidOut [(.pair (.slice (.pair (.int .i64) (.pair (.int .i64) (.pair (.int .i64) (.pair (.int .i64) .unit))))) (.pair (.int .i64) (.pair (.int .i64) (.pair (.int .i64) (.pair (.int .i64) (.pair (.int .i64) (.pair (.int .i64) .unit))))))), (.pair (.slice (.pair (.int .i64) (.pair (.int .i64) .unit))) (.pair (.slice (.pair (.int .i64) (.pair (.int .i64) (.pair (.int .i64) (.pair (.int .i64) .unit))))) (.pair (.slice (.pair (.int .i64) (.pair (.int .i64) (.pair (.int .i64) .unit)))) (.pair (.slice (.pair (.int .i64) (.pair (.int .i64) (.pair (.int .i64) .unit)))) (.pair (.slice (.int .i64)) (.pair (.slice (.pair (.int .i64) (.pair (.int .i64) (.pair (.int .i64) (.pair (.int .i64) (.pair (.int .i64) (.pair (.int .i64) .unit))))))) .unit)))))), (.pair (.int .i64) (.pair (.int .i64) (.pair (.int .i64) (.pair (.int .i64) .unit)))), (.int .i64), (.int .i64), (.int .i64), (.int .i64)] hA (by kernel_rfl) hval
  have hA1 : DataW.TrodAll enc Tryz.prog W 0 (fun _ => true) true [24, 32, 50, 2, 3, 2, 2] args.toList ds p := hA0
  obtain ⟨v0, vs0, d0, ds0, p0, q0, ha0, rfl, hp0, h0, r0⟩ := trodAll_cons hA1
  obtain ⟨v1, vs1, d1, ds1, p1, q1, ha1, rfl, hp1, h1, r1⟩ := trodAll_cons r0
  obtain ⟨v2, vs2, d2, ds2, p2, q2, ha2, rfl, hp2, h2, r2⟩ := trodAll_cons r1
  obtain ⟨v3, vs3, d3, ds3, p3, q3, ha3, rfl, hp3, h3, r3⟩ := trodAll_cons r2
  obtain ⟨v4, vs4, d4, ds4, p4, q4, ha4, rfl, hp4, h4, r4⟩ := trodAll_cons r3
  obtain ⟨v5, vs5, d5, ds5, p5, q5, ha5, rfl, hp5, h5, r5⟩ := trodAll_cons r4
  obtain ⟨v6, vs6, d6, ds6, p6, q6, ha6, rfl, hp6, h6, r6⟩ := trodAll_cons r5
  obtain ⟨_, rfl, _⟩ := trodAll_nil r6
  obtain ⟨rfl, rfl⟩ := trodVars_none hV
  obtain ⟨N, hN⟩ := VM.Pure.HedgeAll (x.1) (x.2.1) (x.2.2.1) (x.2.2.2.1) (x.2.2.2.2.1) (x.2.2.2.2.2.1) (x.2.2.2.2.2.2) hwx
  have hC := VM.law_calls (VM.F.env6 N) rfl Tryz.func6 [(.pair (.slice (.pair (.int .i64) (.pair (.int .i64) (.pair (.int .i64) (.pair (.int .i64) .unit))))) (.pair (.int .i64) (.pair (.int .i64) (.pair (.int .i64) (.pair (.int .i64) (.pair (.int .i64) (.pair (.int .i64) .unit))))))), (.pair (.slice (.pair (.int .i64) (.pair (.int .i64) .unit))) (.pair (.slice (.pair (.int .i64) (.pair (.int .i64) (.pair (.int .i64) (.pair (.int .i64) .unit))))) (.pair (.slice (.pair (.int .i64) (.pair (.int .i64) (.pair (.int .i64) .unit)))) (.pair (.slice (.pair (.int .i64) (.pair (.int .i64) (.pair (.int .i64) .unit)))) (.pair (.slice (.int .i64)) (.pair (.slice (.pair (.int .i64) (.pair (.int .i64) (.pair (.int .i64) (.pair (.int .i64) (.pair (.int .i64) (.pair (.int .i64) .unit))))))) .unit)))))), (.pair (.int .i64) (.pair (.int .i64) (.pair (.int .i64) (.pair (.int .i64) .unit)))), (.int .i64), (.int .i64), (.int .i64), (.int .i64)] (by kernel_rfl) hx ((VM.F.run6 N x).trans hN)
  rw [Array.toArray_toList] at hC
  refine hC.mono fun e W' ⟨he, bel⟩ => ?_
  subst he
  obtain ⟨ps', hb⟩ := hback W' bel
  exact ⟨_, rfl, _, _, _, [], _, [], hW', trodAll_mk1 (shut_bool Tryz.underlying4 _), hb, rfl, bel.frame _, fun h => by cases h⟩
theorem j0 : Rows.hedgeAllRow.wf (OpenSpec.ofChange Rows.hedgeAllSpec) = true := by kernel_rfl
theorem j3 : Tryz.f6.params.all (Tryz.prog.readableRec ·) = true := by kernel_rfl
theorem j4 : namedTie Tryz.prog Rows.hedgeAllRow.named Rows.hedgeAllSpec.vars = true := by kernel_rfl
theorem j5 : (Rows.hedgeAllRow.stops == []) = true := by kernel_rfl
theorem j7 : (Rows.hedgeAllRow.knobs == []) = true := by kernel_rfl
theorem j9 : (Rows.hedgeAllRow.inPlace == Tryz.prog.inPlace 6) = true := by kernel_rfl
theorem j10 : (Rows.hedgeAllRow.unfollowed == Tryz.prog.unfollowed 6) = true := by kernel_rfl
theorem j11 : (Rows.hedgeAllRow.recurses == Tryz.prog.recurses 6) = true := by kernel_rfl
theorem j12 : (Rows.hedgeAllRow.named == Tryz.prog.varsNamed 6) = true := by kernel_rfl
theorem j13 : (Rows.hedgeAllRow.maps == (Tryz.f6.params.toList ++ Rows.hedgeAllSpec.plain.varTypes Tryz.prog).any (Tryz.prog.mapsRec ·)) = true := by kernel_rfl
theorem j14 : (Rows.hedgeAllRow.ifaces == (Tryz.f6.params.toList ++ Rows.hedgeAllSpec.plain.varTypes Tryz.prog).any (Tryz.prog.ifacesRec ·)) = true := by kernel_rfl
theorem j15 : (Rows.hedgeAllRow.mapsOut == Tryz.prog.mapsAmong Tryz.f6.resultTypes.toList) = true := by kernel_rfl
theorem j16 : (Rows.hedgeAllRow.loops == (Tryz.f6.params.toList ++ Rows.hedgeAllSpec.plain.varTypes Tryz.prog).any (Tryz.prog.loopsFrom ·)) = true := by kernel_rfl
theorem j17 : (Rows.hedgeAllRow.wideKeys == (Tryz.f6.params.toList ++ Rows.hedgeAllSpec.plain.varTypes Tryz.prog ++ Tryz.f6.resultTypes.toList).any (Tryz.prog.wideKeysFrom ·)) = true := by kernel_rfl
theorem j18 : Rows.hedgeAllSpec.vars.all (Tryz.prog.varReadable ·) = true := by kernel_rfl
theorem j19 : Tryz.f6.resultTypes.all (fun t => Tryz.prog.readableRec t && decide (t < Tryz.prog.types.size)) = true := by kernel_rfl
theorem j20 : (Rows.hedgeAllRow.ifacesOut == Tryz.f6.resultTypes.toList.any (Tryz.prog.ifacesRec ·)) = true := by kernel_rfl
theorem j21 : (Rows.hedgeAllRow.loopsOut == Tryz.f6.resultTypes.toList.any (Tryz.prog.loopsFrom ·)) = true := by kernel_rfl
theorem j23 : Rows.hedgeAllRow.shortTexts.isNone = true := by kernel_rfl
theorem j28 : (Rows.hedgeAllRow.kinds == (if Rows.hedgeAllRow.domain.isEmpty then [] else Tryz.f6.params.toList.map fun t => match Tryz.prog.underlying t with | some (.int k) => some k | _ => none)) = true := by kernel_rfl
theorem j29 : (Rows.hedgeAllRow.pinned == Rows.hedgeAllRow.pinnedBy) = true := by kernel_rfl
theorem j30 : (Rows.hedgeAllRow.veiled == (Tryz.f6.params.toList ++ Rows.hedgeAllSpec.plain.varTypes Tryz.prog ++ Tryz.f6.resultTypes.toList).any (Tryz.prog.veiledRec ·)) = true := by kernel_rfl
theorem j31 : Rows.hedgeAllRow.veiledFits Tryz.prog Tryz.f6.params.toList (Tryz.f6.params.toList ++ Rows.hedgeAllSpec.plain.varTypes Tryz.prog ++ Tryz.f6.resultTypes.toList) = true := by kernel_rfl
theorem and_mk {a b : Bool} (h : a = true) (k : b = true) : (a && b) = true := by rw [h, k]; rfl
set_option maxRecDepth 100000 in
theorem closed : joinedFacts Tryz.prog 6 Tryz.f6 Rows.hedgeAllSpec Rows.hedgeAllRow = true := by
  unfold joinedFacts
  exact and_mk (and_mk (and_mk (and_mk (and_mk (and_mk (and_mk (and_mk (and_mk (and_mk (and_mk (and_mk (and_mk (and_mk (and_mk (and_mk (and_mk (and_mk (and_mk (and_mk (and_mk (and_mk (and_mk (and_mk (and_mk (and_mk (and_mk (and_mk (and_mk (and_mk (and_mk j0 VM.Seat.laidOut) VM.Seat.mapsRow) j3) j4) j5) VM.Seat.noStops) j7) VM.Seat.noKnobs) j9) j10) j11) j12) j13) j14) j15) j16) j17) j18) j19) j20) j21) VM.Seat.plainKeys) j23) VM.Seat.heard) VM.Seat.enter) VM.Seat.lifts) VM.Seat.make) j28) j29) j30) j31
theorem at' : Tryz.prog.funcNamed Rows.hedgeAllRow.func = some 6 := by kernel_rfl
theorem wrap : Tryz.f6.isWrapper Tryz.prog Rows.hedgeAllRow.wrapper Rows.hedgeAllRow.mainSum := by
  unfold Func.isWrapper
  first | (rw [if_pos (by decide +kernel)]; kernel_rfl) | (rw [if_neg (by decide +kernel)]; exact ⟨rfl, rfl⟩)
theorem over : Rows.hedgeAllRow.holds Tryz.pinned (OpenSpec.ofChange Rows.hedgeAllSpec) :=
  OpenClaim.holds_of_wide 6 Tryz.f6 rfl rfl rfl rfl rfl rfl rfl ⟨rfl, rfl, rfl, rfl, rfl⟩ rfl rfl rfl rfl rfl at' Tryz.func6 closed (of_decide_eq_true (by kernel_rfl)) wrap
    (fun os started H enc _ => lifted os started H enc)
theorem proved : Rows.HedgeAllSaid := over
#print axioms proved
end Go.Proofs.YthpchkeghefokaaGreat.hedgeAll
namespace Go.Proofs.YthpchkeghefokaaGreat
theorem hedgeAll_holds : Rows.HedgeAllSaid := hedgeAll.proved
end Go.Proofs.YthpchkeghefokaaGreat
