/- ShareFull, of layer 3, holds: for every total, every list of numbers and every list of caps it answers true and does not panic. There are no further conditions: whatever arguments the given row allows. -/
import Derived.Test.YtmapbngbgfdpfaaRows
import Derived.Test.YtmapbngbgfdpfaaWalk
import Derived.Test.YtmapbngbgfdpfaaPlain2
import Derived.WalkKit
import Derived.ProofKit
import Derived.OpenShut
import Derived.ShutString
import Derived.ChangeOld
import Derived.Below
import Derived.SizedLaws
set_option linter.all false
namespace Go.Proofs.Ytmapbngbgfdpfaa.shareFull
open Go.ChangeShapes Go.WideShapes Go.ChangeAt Go.RowKit
set_option linter.unusedVariables false
theorem own : ownKnob Try.prog.godebug = none := by kernel_rfl
theorem laidOut : laidOutB Try.prog = true := by kernel_rfl
set_option maxRecDepth 100000 in
theorem lifted (os : Os) (started : os.Started) (H : Type) (enc : TypeId × Value → H) :
    ReturnsInHanded {} Try.checked os 6 .any (Rows.shareFullSpec.pre6 enc Try.prog Try.f6 Rows.shareFullRow.domain false) (Rows.shareFullSpec.post enc Try.prog Try.f6 false true false false) := by
  refine returnsInHanded_of_change_sized (C := Try.checked) own started (by kernel_rfl) Try.func6
    (ChangeSpec.witness6 (enc := enc) (C := Try.checked) false ⟨#[], #[.int .u64 0, .slice none 0 0, .slice none 0 0], []⟩ 8 (by kernel_rfl) (by kernel_rfl) (by kernel_rfl) (by kernel_rfl)) ?_
  intro W base args ds gs before hval0 hW hcnd hsz0 _
  have hval : ∀ (j : Nat) t v, Try.f6.params[j]? = some t → args[j]? = some v → Value.okWide Try.prog W .any base t v := hval0
  have hW' := hW
  obtain ⟨p, q, hA0, hV, rfl, hfz, hnd⟩ := hW
  have hA : DataW.TrodAll enc Try.prog W 0 (fun _ => true) true Try.f6.params.toList args.toList ds p := hA0
  obtain ⟨⟨x, hx, hwx⟩, hback⟩ := VM.row_args laidOut [(.int .u64), (.slice (.int .u32)), (.slice (.int .u32))] hA (by kernel_rfl) hval
  have hA1 : DataW.TrodAll enc Try.prog W 0 (fun _ => true) true [36, 37, 37] args.toList ds p := hA0
  obtain ⟨v0, vs0, d0, ds0, p0, q0, ha0, rfl, hp0, h0, r0⟩ := trodAll_cons hA1
  obtain ⟨v1, vs1, d1, ds1, p1, q1, ha1, rfl, hp1, h1, r1⟩ := trodAll_cons r0
  obtain ⟨v2, vs2, d2, ds2, p2, q2, ha2, rfl, hp2, h2, r2⟩ := trodAll_cons r1
  obtain ⟨_, rfl, _⟩ := trodAll_nil r2
  obtain ⟨rfl, rfl⟩ := trodVars_none hV
  obtain ⟨N, hN⟩ := VM.Pure.ShareFull (x.1) (x.2.1) (x.2.2) hwx
  have hC := VM.law_calls (VM.F.novationlaw3_ShareFull.env N) Try.func6 [(.int .u64), (.slice (.int .u32)), (.slice (.int .u32))] (by kernel_rfl) hx ((VM.F.novationlaw3_ShareFull.ok N (x.1) (x.2.1) (x.2.2)).trans hN)
  rw [Array.toArray_toList] at hC
  refine hC.mono fun e W' ⟨he, bel⟩ => ?_
  subst he
  obtain ⟨ps', hb⟩ := hback W' bel
  exact ⟨_, rfl, _, _, _, [], _, [], hW', trodAll_mk1 (shut_bool Try.underlying4 _), hb, rfl, bel.frame _, fun h => by cases h⟩
theorem over : Rows.shareFullRow.holds Try.pinned (OpenSpec.ofChange Rows.shareFullSpec) :=
  OpenClaim.holds_of_wide 6 Try.f6 rfl rfl rfl rfl rfl rfl rfl ⟨rfl, rfl, rfl, rfl, rfl⟩ rfl rfl rfl rfl rfl (by kernel_rfl) Try.func6 (by kernel_rfl)
    (of_decide_eq_true (by kernel_rfl)) (by unfold Func.isWrapper; first | (rw [if_pos (by decide +kernel)]; kernel_rfl) | (rw [if_neg (by decide +kernel)]; exact ⟨rfl, rfl⟩))
    (fun os started H enc _ => lifted os started H enc)
theorem proved : Rows.ShareFullSaid := over
#print axioms proved
end Go.Proofs.Ytmapbngbgfdpfaa.shareFull
namespace Go.Proofs.Ytmapbngbgfdpfaa
theorem shareFull_holds : Rows.ShareFullSaid := shareFull.proved
end Go.Proofs.Ytmapbngbgfdpfaa
