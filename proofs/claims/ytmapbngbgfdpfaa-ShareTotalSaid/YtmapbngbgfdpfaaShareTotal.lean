/- ShareTotal, of layer 3, holds: for every total and every list of numbers it answers true and does not panic. There are no further conditions: whatever arguments the given row allows. -/
import Derived.Test.YtmapbngbgfdpfaaRows
import Derived.Test.YtmapbngbgfdpfaaWalk
import Derived.Test.YtmapbngbgfdpfaaPlain2
import Derived.WalkKit
import Derived.ProofKit
import Derived.OpenShut
import Derived.ShutString
import Derived.ChangeOld
import Derived.Below
import Derived.SizedLaws
set_option linter.all false
namespace Go.Proofs.Ytmapbngbgfdpfaa.shareTotal
open Go.ChangeShapes Go.WideShapes Go.ChangeAt Go.RowKit
set_option linter.unusedVariables false
theorem own : ownKnob Try.prog.godebug = none := by kernel_rfl
theorem laidOut : laidOutB Try.prog = true := by kernel_rfl
set_option maxRecDepth 100000 in
theorem lifted (os : Os) (started : os.Started) (H : Type) (enc : TypeId × Value → H) :
    ReturnsInHanded {} Try.checked os 5 .any (Rows.shareTotalSpec.pre6 enc Try.prog Try.f5 Rows.shareTotalRow.domain false) (Rows.shareTotalSpec.post enc Try.prog Try.f5 false true false false) := by
  refine returnsInHanded_of_change_sized (C := Try.checked) own started (by kernel_rfl) Try.func5
    (ChangeSpec.witness6 (enc := enc) (C := Try.checked) false ⟨#[], #[.int .u64 0, .slice none 0 0], []⟩ 8 (by kernel_rfl) (by kernel_rfl) (by kernel_rfl) (by kernel_rfl)) ?_
  intro W base args ds gs before hval0 hW hcnd hsz0 _
  have hval : ∀ (j : Nat) t v, Try.f5.params[j]? = some t → args[j]? = some v → Value.okWide Try.prog W .any base t v := hval0
  have hW' := hW
  obtain ⟨p, q, hA0, hV, rfl, hfz, hnd⟩ := hW
  have hA : DataW.TrodAll enc Try.prog W 0 (fun _ => true) true Try.f5.params.toList args.toList ds p := hA0
  obtain ⟨⟨x, hx, hwx⟩, hback⟩ := VM.row_args laidOut [(.int .u64), (.slice (.int .u32))] hA (by kernel_rfl) hval
  have hA1 : DataW.TrodAll enc Try.prog W 0 (fun _ => true) true [36, 37] args.toList ds p := hA0
  obtain ⟨v0, vs0, d0, ds0, p0, q0, ha0, rfl, hp0, h0, r0⟩ := trodAll_cons hA1
  obtain ⟨v1, vs1, d1, ds1, p1, q1, ha1, rfl, hp1, h1, r1⟩ := trodAll_cons r0
  obtain ⟨_, rfl, _⟩ := trodAll_nil r1
  obtain ⟨rfl, rfl⟩ := trodVars_none hV
  obtain ⟨N, hN⟩ := VM.Pure.ShareTotal (x.1) (x.2) hwx
  have hC := VM.law_calls (VM.F.novationlaw3_ShareTotal.env N) Try.func5 [(.int .u64), (.slice (.int .u32))] (by kernel_rfl) hx ((VM.F.novationlaw3_ShareTotal.ok N (x.1) (x.2)).trans hN)
  rw [Array.toArray_toList] at hC
  refine hC.mono fun e W' ⟨he, bel⟩ => ?_
  subst he
  obtain ⟨ps', hb⟩ := hback W' bel
  exact ⟨_, rfl, _, _, _, [], _, [], hW', trodAll_mk1 (shut_bool Try.underlying4 _), hb, rfl, bel.frame _, fun h => by cases h⟩
theorem over : Rows.shareTotalRow.holds Try.pinned (OpenSpec.ofChange Rows.shareTotalSpec) :=
  OpenClaim.holds_of_wide 5 Try.f5 rfl rfl rfl rfl rfl rfl rfl ⟨rfl, rfl, rfl, rfl, rfl⟩ rfl rfl rfl rfl rfl (by kernel_rfl) Try.func5 (by kernel_rfl)
    (of_decide_eq_true (by kernel_rfl)) (by unfold Func.isWrapper; first | (rw [if_pos (by decide +kernel)]; kernel_rfl) | (rw [if_neg (by decide +kernel)]; exact ⟨rfl, rfl⟩))
    (fun os started H enc _ => lifted os started H enc)
theorem proved : Rows.ShareTotalSaid := over
#print axioms proved
end Go.Proofs.Ytmapbngbgfdpfaa.shareTotal
namespace Go.Proofs.Ytmapbngbgfdpfaa
theorem shareTotal_holds : Rows.ShareTotalSaid := shareTotal.proved
end Go.Proofs.Ytmapbngbgfdpfaa
