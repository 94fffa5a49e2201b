/- A part of the proof of HedgeAll of layer 22: what the functions compute, in plain words. -/
import Derived.Test.YthpchkeghefokaaGreatVm0
import GoSem.Claim
import Derived.Test.YthpchkeghefokaaGreatText
set_option linter.all false
section
/- Plain laws on numbers. -/
namespace VM
open Go

theorem W_mod (x : Int) : W .u64 x = x % 18446744073709551616 := by rw [W_eq]; simp [IntKind.wrap, IntKind.bits, IntKind.signed]
theorem W_u64 {x : Int} (h0 : 0 ≤ x) (h1 : x < 18446744073709551616) : W .u64 x = x := by rw [W_mod]; omega
theorem W_i64_def (x : Int) : W .i64 x = if 9223372036854775808 ≤ x % 18446744073709551616 then x % 18446744073709551616 - 18446744073709551616 else x % 18446744073709551616 := by
  rw [W_eq]; simp [IntKind.wrap, IntKind.bits, IntKind.signed]
theorem W_i64 {x : Int} (h0 : -9223372036854775808 ≤ x) (h1 : x < 9223372036854775808) : W .i64 x = x := by
  rw [W_i64_def]; split <;> omega
theorem W_u8 {x : Int} (h0 : 0 ≤ x) (h1 : x < 256) : W .u8 x = x := by rw [W_eq]; simp [IntKind.wrap, IntKind.bits, IntKind.signed]; omega
theorem wf_i64 {x : Int} : (Lit.int .i64 x).wf = true ↔ -9223372036854775808 ≤ x ∧ x ≤ 9223372036854775807 := by simp [Lit.wf, IntKind.min, IntKind.max, IntKind.bits, IntKind.signed]
theorem ltB_t {x y : Int} (h : x < y) : ltB x y = true := by rw [ltB_eq]; exact decide_eq_true h
theorem ltB_f {x y : Int} (h : y ≤ x) : ltB x y = false := by rw [ltB_eq]; exact decide_eq_false (by omega)
theorem leB_t {x y : Int} (h : x ≤ y) : leB x y = true := by rw [leB_eq]; exact decide_eq_true h
theorem leB_f {x y : Int} (h : y < x) : leB x y = false := by rw [leB_eq]; exact decide_eq_false (by omega)
theorem eqB_t {x y : Int} (h : x = y) : eqB x y = true := by rw [eqB_eq]; exact decide_eq_true h
theorem eqB_f {x y : Int} (h : x ≠ y) : eqB x y = false := by rw [eqB_eq]; exact decide_eq_false h
theorem inb_t {i : Int} {n : Nat} (h0 : 0 ≤ i) (h1 : i < n) : inb i n = true := by rw [inb_eq]; exact decide_eq_true ⟨h0, h1⟩
theorem small_t {n : Nat} (h : n < 68719476736) : small n = true := by rw [small_eq]; exact decide_eq_true (by simpa [big] using h)

theorem okMake_t {l c : Int} (h0 : 0 ≤ l) (h1 : l ≤ c) (h2 : c < 68719476736) : okMake l c = true := by rw [okMake_eq]; exact decide_eq_true (by simp only [big]; omega)
theorem okCut_t {l h m n : Int} (h0 : 0 ≤ l) (h1 : l ≤ h) (h2 : h ≤ m) (h3 : m ≤ n) : okCut l h m n = true := by rw [okCut_eq]; exact decide_eq_true ⟨h0, h1, h2, h3⟩
theorem natCast_succ' (n : Nat) : (n : Int) + 1 = ((n + 1 : Nat) : Int) := rfl

/-! ### Bits -/
theorem ofInt_toNat (x : Int) (h0 : 0 ≤ x) (h1 : x < 18446744073709551616) : (BitVec.ofInt 64 x).toNat = x.toNat := by
  rw [BitVec.toNat_ofInt]; congr 1; omega

theorem bitw_and {x y : Int} (hx : 0 ≤ x) (hx1 : x < 18446744073709551616) (hy : 0 ≤ y) (hy1 : y < 18446744073709551616) : bitw .and .u64 x y = ((x.toNat &&& y.toNat : Nat) : Int) := by
  rw [bitw_eq]
  have h : ((BitVec.ofInt 64 x &&& BitVec.ofInt 64 y).toNat) = x.toNat &&& y.toNat := by rw [BitVec.toNat_and, ofInt_toNat x hx hx1, ofInt_toNat y hy hy1]
  show IntKind.u64.wrap (((BitVec.ofInt 64 x &&& BitVec.ofInt 64 y).toNat : Nat) : Int) = _
  rw [h, ← W_eq]
  have : x.toNat &&& y.toNat ≤ x.toNat := Nat.and_le_left
  exact W_u64 (by omega) (by omega)

theorem bitw_or {x y : Int} (hx : 0 ≤ x) (hx1 : x < 18446744073709551616) (hy : 0 ≤ y) (hy1 : y < 18446744073709551616) : bitw .or .u64 x y = ((x.toNat ||| y.toNat : Nat) : Int) := by
  rw [bitw_eq]
  have h : ((BitVec.ofInt 64 x ||| BitVec.ofInt 64 y).toNat) = x.toNat ||| y.toNat := by rw [BitVec.toNat_or, ofInt_toNat x hx hx1, ofInt_toNat y hy hy1]
  show IntKind.u64.wrap (((BitVec.ofInt 64 x ||| BitVec.ofInt 64 y).toNat : Nat) : Int) = _
  rw [h, ← W_eq]
  have : x.toNat ||| y.toNat < 2 ^ 64 := Nat.or_lt_two_pow (by omega) (by omega)
  exact W_u64 (by omega) (by omega)

theorem and_mask32 {x : Int} (h0 : 0 ≤ x) (h1 : x < 18446744073709551616) : bitw .and .u64 x 4294967295 = x % 4294967296 := by
  rw [bitw_and h0 h1 (by omega) (by omega)]
  have := Nat.and_two_pow_sub_one_eq_mod x.toNat 32
  rw [show ((4294967295 : Int).toNat) = 2 ^ 32 - 1 from rfl, this]
  omega

theorem shr_u64 {x y : Int} (h0 : 0 ≤ y) (h1 : y ≤ 64) : shr .u64 x y = x / 2 ^ y.toNat := by
  rw [shr_eq]
  have : min y.toNat IntKind.u64.bits = y.toNat := by simp [IntKind.bits]; omega
  rw [this, Int.fdiv_eq_ediv_of_nonneg]
  exact_mod_cast Nat.zero_le _
theorem shr32 (x : Int) : shr .u64 x 32 = x / 4294967296 := by rw [shr_u64 (by omega) (by omega)]; rfl
theorem shr1 (x : Int) : shr .u64 x 1 = x / 2 := by rw [shr_u64 (by omega) (by omega)]; rfl
theorem shr_i64_63 {x : Int} (h0 : -9223372036854775808 ≤ x) (h1 : x < 9223372036854775808) : shr .i64 x 63 = if x < 0 then -1 else 0 := by
  rw [shr_eq]
  have : (2 : Int) ^ (min (63 : Int).toNat IntKind.i64.bits) = 9223372036854775808 := by rfl
  rw [this, Int.fdiv_eq_ediv_of_nonneg _ (by omega)]
  split <;> omega
theorem shl_u64 {x y : Int} (h0 : 0 ≤ y) (h1 : y ≤ 64) : shl .u64 x y = x * 2 ^ y.toNat := by
  rw [shl_eq]
  have : min y.toNat IntKind.u64.bits = y.toNat := by simp [IntKind.bits]; omega
  rw [this]

theorem mul_lt {a b m n : Int} (ha : 0 ≤ a) (hb : 0 ≤ b) (ham : a ≤ m) (hbn : b ≤ n) : 0 ≤ a * b ∧ a * b ≤ m * n :=
  ⟨Int.mul_nonneg ha hb, Int.le_trans (Int.mul_le_mul_of_nonneg_right ham hb) (Int.mul_le_mul_of_nonneg_left hbn (by omega))⟩

end VM
end

section
/- Plain laws: numbers of two words. -/
namespace VM
open Go VM.F

theorem mul_split (a b : Int) : a * b = (a / 4294967296) * (b / 4294967296) * 18446744073709551616 + ((a / 4294967296) * (b % 4294967296) + (a % 4294967296) * (b / 4294967296)) * 4294967296 + (a % 4294967296) * (b % 4294967296) := by
  have ha : a = (a / 4294967296) * 4294967296 + a % 4294967296 := by omega
  have hb : b = (b / 4294967296) * 4294967296 + b % 4294967296 := by omega
  generalize a / 4294967296 = a1 at *
  generalize a % 4294967296 = a0 at *
  generalize b / 4294967296 = b1 at *
  generalize b % 4294967296 = b0 at *
  subst ha; subst hb
  simp only [Int.add_mul, Int.mul_add]
  have e1 : a1 * 4294967296 * (b1 * 4294967296) = a1 * b1 * 18446744073709551616 := by
    rw [Int.mul_assoc, Int.mul_left_comm 4294967296, ← Int.mul_assoc]; rfl
  have e2 : a1 * 4294967296 * b0 = a1 * b0 * 4294967296 := by rw [Int.mul_assoc, Int.mul_comm 4294967296, ← Int.mul_assoc]
  have e3 : a0 * (b1 * 4294967296) = a0 * b1 * 4294967296 := by rw [← Int.mul_assoc]
  rw [e1, e2, e3]; omega

theorem Mul64_eq (N : Nat) {a b : Int} (ha : 0 ≤ a) (ha1 : a < 18446744073709551616) (hb : 0 ≤ b) (hb1 : b < 18446744073709551616) :
    F167 N a b = some (a * b / 18446744073709551616, a * b % 18446744073709551616) := by
  unfold F167
  have hm := mul_split a b
  have h1 := mul_lt (m := 4294967295) (n := 4294967295) (show 0 ≤ a / 4294967296 by omega) (show 0 ≤ b / 4294967296 by omega) (by omega) (by omega)
  have h2 := mul_lt (m := 4294967295) (n := 4294967295) (show 0 ≤ a / 4294967296 by omega) (show 0 ≤ b % 4294967296 by omega) (by omega) (by omega)
  have h3 := mul_lt (m := 4294967295) (n := 4294967295) (show 0 ≤ a % 4294967296 by omega) (show 0 ≤ b / 4294967296 by omega) (by omega) (by omega)
  have h4 := mul_lt (m := 4294967295) (n := 4294967295) (show 0 ≤ a % 4294967296 by omega) (show 0 ≤ b % 4294967296 by omega) (by omega) (by omega)
  simp only [ltB_f (show (0 : Int) ≤ 32 by omega), cond_false, and_mask32 ha ha1, and_mask32 hb hb1, shr32]
  generalize a / 4294967296 = a1 at *
  generalize a % 4294967296 = a0 at *
  generalize b / 4294967296 = b1 at *
  generalize b % 4294967296 = b0 at *
  generalize a * b = ab at *
  generalize a1 * b1 = p at *
  generalize a1 * b0 = q at *
  generalize a0 * b1 = r at *
  generalize a0 * b0 = s at *
  rw [W_u64 (x := q) (by omega) (by omega), W_u64 (x := s) (by omega) (by omega), W_u64 (x := r) (by omega) (by omega), W_u64 (x := p) (by omega) (by omega), W_u64 (x := q + s / 4294967296) (by omega) (by omega),
    and_mask32 (by omega) (by omega), W_u64 (x := (q + s / 4294967296) % 4294967296 + r) (by omega) (by omega), W_u64 (x := p + (q + s / 4294967296) / 4294967296) (by omega) (by omega), W_u64 (x := p + (q + s / 4294967296) / 4294967296 + _) (by omega) (by omega), W_mod]
  congr 2
  omega

end VM
end

section
/- Plain laws: the program's numbers of two words. -/
set_option linter.unusedSimpArgs false
set_option linter.unusedVariables false
namespace VM
open Go VM.F

theorem Size_eq (N : Nat) {x : Int} (h0 : -9223372036854775808 ≤ x) (h1 : x < 9223372036854775808) : F75 N x = some (x.natAbs : Int) := by
  unfold F75
  by_cases h : x < 0
  · rw [ltB_t h, cond_true, W_mod, W_mod]; congr 1; omega
  · rw [ltB_f (by omega), cond_false, W_mod]; congr 1; omega

theorem add64_eq (N : Nat) {x y c : Int} (hx : 0 ≤ x) (hy : 0 ≤ y) (hc : 0 ≤ c) (hc1 : c ≤ 1) : add64 N x y c = some ((x + y + c) % 18446744073709551616, (x + y + c) / 18446744073709551616) := by
  unfold add64; rw [if_pos ⟨hx, hy, hc, hc1⟩]
theorem sub64_eq (N : Nat) {x y c : Int} (hx : 0 ≤ x) (hx1 : x < 18446744073709551616) (hy : 0 ≤ y) (hy1 : y < 18446744073709551616) (hc : 0 ≤ c) (hc1 : c ≤ 1) :
    sub64 N x y c = some ((x - y - c) % 18446744073709551616, if x < y + c then 1 else 0) := by
  unfold sub64; rw [if_pos ⟨hx, hx1, hy, hy1, hc, hc1⟩]; congr 2; omega

/-! ### How many bits -/
def bitLen (n : Nat) : Nat := if n = 0 then 0 else bitLen (n / 2) + 1
termination_by n
decreasing_by omega
theorem bitLen_pos {n : Nat} (h : n ≠ 0) : bitLen n = bitLen (n / 2) + 1 := by rw [bitLen]; simp [h]
theorem bitLen_zero : bitLen 0 = 0 := by rw [bitLen]; rfl
theorem bitLen_shift (k : Nat) : ∀ n, 2 ^ k ≤ n → bitLen n = bitLen (n / 2 ^ k) + k := by
  induction k with
  | zero => intro n _; simp
  | succ k ih =>
    intro n h
    have hp : 0 < 2 ^ k := Nat.pow_pos (by decide)
    rw [Nat.pow_succ] at h
    rw [bitLen_pos (by omega), ih (n / 2) (by omega), Nat.div_div_eq_div_mul, Nat.pow_succ, Nat.mul_comm 2]; omega
theorem bitLen_spec (n : Nat) : n < 2 ^ bitLen n ∧ (n ≠ 0 → 2 ^ (bitLen n - 1) ≤ n) := by
  induction n using Nat.strongRecOn with
  | _ n ih =>
    by_cases h : n = 0
    · subst h; rw [bitLen_zero]; simp
    · rw [bitLen_pos h]
      obtain ⟨h1, h2⟩ := ih (n / 2) (by omega)
      refine ⟨by rw [Nat.pow_succ]; omega, fun _ => ?_⟩
      rw [Nat.add_sub_cancel]
      by_cases h3 : n / 2 = 0
      · rw [h3, bitLen_zero]; simp; omega
      · have := h2 h3
        have e : bitLen (n / 2) = (bitLen (n / 2) - 1) + 1 := by rw [bitLen_pos h3]; omega
        rw [e, Nat.pow_succ]; omega

theorem len_tab : ∀ i : Fin 256, ((strOf [0, 1, 2, 2, 3, 3, 3, 3, 4, 4, 4, 4, 4, 4, 4, 4, 5, 5, 5, 5, 5, 5, 5, 5, 5, 5, 5, 5, 5, 5, 5, 5, 6, 6, 6, 6, 6, 6, 6, 6, 6, 6, 6, 6, 6, 6, 6, 6, 6, 6, 6, 6, 6, 6, 6, 6, 6, 6, 6, 6, 6, 6, 6, 6, 7, 7, 7, 7, 7, 7, 7, 7, 7, 7, 7, 7, 7, 7, 7, 7, 7, 7, 7, 7, 7, 7, 7, 7, 7, 7, 7, 7, 7, 7, 7, 7, 7, 7, 7, 7, 7, 7, 7, 7, 7, 7, 7, 7, 7, 7, 7, 7, 7, 7, 7, 7, 7, 7, 7, 7, 7, 7, 7, 7, 7, 7, 7, 7, 8, 8, 8, 8, 8, 8, 8, 8, 8, 8, 8, 8, 8, 8, 8, 8, 8, 8, 8, 8, 8, 8, 8, 8, 8, 8, 8, 8, 8, 8, 8, 8, 8, 8, 8, 8, 8, 8, 8, 8, 8, 8, 8, 8, 8, 8, 8, 8, 8, 8, 8, 8, 8, 8, 8, 8, 8, 8, 8, 8, 8, 8, 8, 8, 8, 8, 8, 8, 8, 8, 8, 8, 8, 8, 8, 8, 8, 8, 8, 8, 8, 8, 8, 8, 8, 8, 8, 8, 8, 8, 8, 8, 8, 8, 8, 8, 8, 8, 8, 8, 8, 8, 8, 8, 8, 8, 8, 8, 8, 8, 8, 8, 8, 8, 8, 8, 8, 8, 8, 8, 8, 8, 8, 8, 8, 8, 8, 8]).data.getD i.val 0).toNat = Nat.log2 (2 * i.val + 1) := by decide +kernel

theorem bitLen_log2 (n : Nat) : Nat.log2 (2 * n + 1) = bitLen n := by
  induction n using Nat.strongRecOn with
  | _ n ih =>
    by_cases h : n = 0
    · subst h; rw [bitLen_zero]; decide
    · rw [bitLen_pos h, Nat.log2_def, if_pos (by omega), show (2 * n + 1) / 2 = n from by omega]
      congr 1
      have := ih (n / 2) (by omega)
      rw [← this]
      by_cases h2 : n % 2 = 0
      · rw [Nat.log2_def, Nat.log2_def (n := 2 * (n / 2) + 1)]
        have e1 : (2 * (n / 2) + 1) / 2 = n / 2 := by omega
        rw [if_pos (by omega), if_pos (by omega), e1]
      · congr 1; omega

theorem len_tab' (i : Nat) (h : i < 256) : ((strOf [0, 1, 2, 2, 3, 3, 3, 3, 4, 4, 4, 4, 4, 4, 4, 4, 5, 5, 5, 5, 5, 5, 5, 5, 5, 5, 5, 5, 5, 5, 5, 5, 6, 6, 6, 6, 6, 6, 6, 6, 6, 6, 6, 6, 6, 6, 6, 6, 6, 6, 6, 6, 6, 6, 6, 6, 6, 6, 6, 6, 6, 6, 6, 6, 7, 7, 7, 7, 7, 7, 7, 7, 7, 7, 7, 7, 7, 7, 7, 7, 7, 7, 7, 7, 7, 7, 7, 7, 7, 7, 7, 7, 7, 7, 7, 7, 7, 7, 7, 7, 7, 7, 7, 7, 7, 7, 7, 7, 7, 7, 7, 7, 7, 7, 7, 7, 7, 7, 7, 7, 7, 7, 7, 7, 7, 7, 7, 7, 8, 8, 8, 8, 8, 8, 8, 8, 8, 8, 8, 8, 8, 8, 8, 8, 8, 8, 8, 8, 8, 8, 8, 8, 8, 8, 8, 8, 8, 8, 8, 8, 8, 8, 8, 8, 8, 8, 8, 8, 8, 8, 8, 8, 8, 8, 8, 8, 8, 8, 8, 8, 8, 8, 8, 8, 8, 8, 8, 8, 8, 8, 8, 8, 8, 8, 8, 8, 8, 8, 8, 8, 8, 8, 8, 8, 8, 8, 8, 8, 8, 8, 8, 8, 8, 8, 8, 8, 8, 8, 8, 8, 8, 8, 8, 8, 8, 8, 8, 8, 8, 8, 8, 8, 8, 8, 8, 8, 8, 8, 8, 8, 8, 8, 8, 8, 8, 8, 8, 8, 8, 8, 8, 8, 8, 8, 8, 8]).data.getD i 0).toNat = bitLen i := by
  rw [← bitLen_log2]; exact len_tab ⟨i, h⟩

theorem len_size : ByteArray.size (strOf [0, 1, 2, 2, 3, 3, 3, 3, 4, 4, 4, 4, 4, 4, 4, 4, 5, 5, 5, 5, 5, 5, 5, 5, 5, 5, 5, 5, 5, 5, 5, 5, 6, 6, 6, 6, 6, 6, 6, 6, 6, 6, 6, 6, 6, 6, 6, 6, 6, 6, 6, 6, 6, 6, 6, 6, 6, 6, 6, 6, 6, 6, 6, 6, 7, 7, 7, 7, 7, 7, 7, 7, 7, 7, 7, 7, 7, 7, 7, 7, 7, 7, 7, 7, 7, 7, 7, 7, 7, 7, 7, 7, 7, 7, 7, 7, 7, 7, 7, 7, 7, 7, 7, 7, 7, 7, 7, 7, 7, 7, 7, 7, 7, 7, 7, 7, 7, 7, 7, 7, 7, 7, 7, 7, 7, 7, 7, 7, 8, 8, 8, 8, 8, 8, 8, 8, 8, 8, 8, 8, 8, 8, 8, 8, 8, 8, 8, 8, 8, 8, 8, 8, 8, 8, 8, 8, 8, 8, 8, 8, 8, 8, 8, 8, 8, 8, 8, 8, 8, 8, 8, 8, 8, 8, 8, 8, 8, 8, 8, 8, 8, 8, 8, 8, 8, 8, 8, 8, 8, 8, 8, 8, 8, 8, 8, 8, 8, 8, 8, 8, 8, 8, 8, 8, 8, 8, 8, 8, 8, 8, 8, 8, 8, 8, 8, 8, 8, 8, 8, 8, 8, 8, 8, 8, 8, 8, 8, 8, 8, 8, 8, 8, 8, 8, 8, 8, 8, 8, 8, 8, 8, 8, 8, 8, 8, 8, 8, 8, 8, 8, 8, 8, 8, 8, 8, 8]) = 256 := by decide +kernel

set_option maxRecDepth 100000 in
theorem Len8_eq (N : Nat) {x c : Int} (h0 : 0 ≤ x) (h1 : x < 65536) (hc : 0 ≤ c) (hc1 : c ≤ 100) : F256.j7 N x c = some (c + bitLen x.toNat) := by
  unfold F256.j7 F256.j7b
  have h8 : shr .u64 x 8 = x / 256 := by rw [shr_u64 (by omega) (by omega)]; rfl
  have hle : ∀ n, n < 256 → bitLen n ≤ 8 := fun n hn => by
    rw [← bitLen_log2]
    have : Nat.log2 (2 * n + 1) < 9 := (Nat.log2_lt (by omega)).2 (by omega)
    omega
  by_cases h : 256 ≤ x
  · have ht := len_tab' (x / 256).toNat (by omega)
    have hl := hle (x / 256).toNat (by omega)
    rw [leB_t h, cond_true, ltB_f (show (0 : Int) ≤ 8 by omega), cond_false, h8]
    rw [W_u8 (x := x / 256) (by omega) (by omega)]
    extract_lets v8
    rw [len_size, inb_t (by omega) (by omega), cond_true, ht]
    clear ht
    simp (disch := omega) only [ltB_t, ltB_f, leB_t, leB_f, eqB_t, eqB_f, inb_t, small_t, okMake_t, okCut_t, W_i64, W_u64, cond_true, cond_false, Bool.not_true, Bool.not_false, Option.bind_some, Int.toNat_natCast, Int.toNat_zero, natCast_succ', List.length_append, List.length_singleton, List.length_set, List.length_replicate, List.length_cons, List.length_nil]
    have := bitLen_shift 8 x.toNat (by omega)
    rw [this]
    have e : (x / 256).toNat = x.toNat / 2 ^ 8 := by omega
    rw [e]; congr 1; omega
  · have ht := len_tab' x.toNat (by omega)
    have hl := hle x.toNat (by omega)
    rw [leB_f (by omega), cond_false, W_u8 (x := x) (by omega) (by omega)]
    extract_lets v8
    rw [len_size, inb_t (by omega) (by omega), cond_true, ht]
    clear ht
    simp (disch := omega) only [ltB_t, ltB_f, leB_t, leB_f, eqB_t, eqB_f, inb_t, small_t, okMake_t, okCut_t, W_i64, W_u64, cond_true, cond_false, Bool.not_true, Bool.not_false, Option.bind_some, Int.toNat_natCast, Int.toNat_zero, natCast_succ', List.length_append, List.length_singleton, List.length_set, List.length_replicate, List.length_cons, List.length_nil]

theorem Len64_eq (N : Nat) {x : Int} (h0 : 0 ≤ x) (h1 : x < 18446744073709551616) : F256 N x = some (bitLen x.toNat : Int) := by
  have h16 : ∀ y c : Int, 0 ≤ y → y < 4294967296 → 0 ≤ c → c ≤ 50 → F256.j4 N y c = some (c + bitLen y.toNat) := fun y c hy0 hy1 hc hc1 => by
    unfold F256.j4 F256.j4b
    by_cases h : 65536 ≤ y
    · have e : shr .u64 y 16 = y / 65536 := by rw [shr_u64 (by omega) (by omega)]; rfl
      rw [leB_t h, cond_true, ltB_f (by omega), cond_false, e, W_i64 (by omega) (by omega), Len8_eq N (by omega) (by omega) (by omega) (by omega)]
      have := bitLen_shift 16 y.toNat (by omega)
      rw [this]
      have e : (y / 65536).toNat = y.toNat / 2 ^ 16 := by omega
      rw [e]; congr 1; omega
    · rw [leB_f (by omega), cond_false, Len8_eq N hy0 (by omega) hc (by omega)]
  unfold F256 F256.b
  by_cases h : 4294967296 ≤ x
  · rw [leB_t h, cond_true, ltB_f (by omega), cond_false, shr32, h16 _ _ (by omega) (by omega) (by omega) (by omega)]
    have := bitLen_shift 32 x.toNat (by omega)
    rw [this]
    have e : (x / 4294967296).toNat = x.toNat / 2 ^ 32 := by omega
    rw [e]; congr 1; omega
  · rw [leB_f (by omega), cond_false, h16 _ _ h0 (by omega) (by omega) (by omega)]
    congr 1; omega
end VM
end

section
/- Plain laws: bits.Div64. -/
set_option linter.unusedSimpArgs false
set_option linter.unusedVariables false
namespace VM
open Go VM.F

/-- What a guessed digit keeps. -/
structure Guess (Y yn1 yn0 un32 un1 q rh : Int) : Prop where
  hY : Y = yn1 * 4294967296 + yn0
  y1 : 2147483648 ≤ yn1
  y1' : yn1 < 4294967296
  y0 : 0 ≤ yn0
  y0' : yn0 < 4294967296
  u1 : 0 ≤ un1
  u1' : un1 < 4294967296
  lt : un32 < Y
  q0 : 0 ≤ q
  eq : q * yn1 + rh = un32
  r0 : 0 ≤ rh
  q1 : q ≤ 4294967297
  ge : (un32 * 4294967296 + un1) / Y ≤ q

theorem Guess.prod {Y yn1 yn0 un32 un1 q rh : Int} (g : Guess Y yn1 yn0 un32 un1 q rh) : q * Y = (un32 - rh) * 4294967296 + q * yn0 ∧ 0 ≤ q * yn0 ∧ q * yn0 ≤ 18446744073709551615 := by
  have h := mul_lt (m := 4294967297) (n := 4294967295) g.q0 g.y0 g.q1 (by have := g.y0'; omega)
  refine ⟨?_, h.1, by omega⟩
  rw [g.hY, Int.mul_add, ← Int.mul_assoc, show q * yn1 = un32 - rh from by have := g.eq; omega]

theorem Guess.pos {Y yn1 yn0 un32 un1 q rh : Int} (g : Guess Y yn1 yn0 un32 un1 q rh) : 0 < Y := by have := g.hY; have := g.y1; have := g.y0; omega

theorem Guess.digit {Y yn1 yn0 un32 un1 q rh : Int} (g : Guess Y yn1 yn0 un32 un1 q rh) (h : 0 ≤ un32) : 0 ≤ (un32 * 4294967296 + un1) / Y ∧ (un32 * 4294967296 + un1) / Y < 4294967296 := by
  have hp := g.pos
  have := g.u1; have := g.u1'; have := g.lt
  refine ⟨Int.ediv_nonneg (by omega) (by omega), ?_⟩
  rw [Int.ediv_lt_iff_lt_mul hp]; omega

/-- The digit is right, if it is not too great. -/
theorem Guess.done {Y yn1 yn0 un32 un1 q rh : Int} (g : Guess Y yn1 yn0 un32 un1 q rh) (h : q * yn0 ≤ 4294967296 * rh + un1) : q = (un32 * 4294967296 + un1) / Y := by
  have hp := g.pos
  have h1 := g.prod.1
  have h2 : q ≤ (un32 * 4294967296 + un1) / Y := by
    rw [Int.le_ediv_iff_mul_le hp]; omega
  have := g.ge
  omega

theorem Guess.next {Y yn1 yn0 un32 un1 q rh : Int} (g : Guess Y yn1 yn0 un32 un1 q rh) (hu : 0 ≤ un32) (h : 4294967296 ≤ q ∨ 4294967296 * rh + un1 < q * yn0) : Guess Y yn1 yn0 un32 un1 (q - 1) (rh + yn1) ∧ 1 ≤ q := by
  have hp := g.pos
  have h1 := g.prod.1
  have hd := g.digit hu
  have hlt : (un32 * 4294967296 + un1) / Y < q := by
    rcases h with h | h
    · omega
    · rw [Int.ediv_lt_iff_lt_mul hp]; omega
  have := g.q1; have := g.r0; have := g.y1
  exact ⟨⟨g.hY, g.y1, g.y1', g.y0, g.y0', g.u1, g.u1', g.lt, by omega, by rw [Int.sub_mul, Int.one_mul]; have := g.eq; omega, by omega, by omega, by omega⟩, by omega⟩

theorem div_l17 (N : Nat) {Y s yn1 yn0 un32 un1 un0 : Int} (hu : 0 ≤ un32) (hu' : un32 < 18446744073709551616) : ∀ (m n : Nat) (q rh : Int), Guess Y yn1 yn0 un32 un1 q rh → rh < 4294967296 → 4294967296 - rh ≤ 2147483648 * m → m < n →
    F216.l17 N n Y s yn1 yn0 un32 un1 un0 q rh = F216.j21 N Y s yn1 yn0 un32 un1 un0 ((un32 * 4294967296 + un1) / Y)
  | m, 0, q, rh, _, _, _, hn => by omega
  | m, n + 1, q, rh, g, hr, hm, hn => by
    unfold F216.l17 F216.l17b
    have hpr := g.prod
    have hd := g.digit hu
    obtain ⟨hY, y1, y1', y0, y0', u1, u1', lt, q0, eq, r0, q1, ge⟩ := id g
    have go : (4294967296 ≤ q ∨ 4294967296 * rh + un1 < q * yn0) →
        (cond (leB (4294967296 : Int) (W .u64 (rh + yn1))) (F216.j21 N Y s yn1 yn0 un32 un1 un0 (W .u64 (q - 1))) (F216.l17 N n Y s yn1 yn0 un32 un1 un0 (W .u64 (q - 1)) (W .u64 (rh + yn1)))) = F216.j21 N Y s yn1 yn0 un32 un1 un0 ((un32 * 4294967296 + un1) / Y) := fun h => by
      obtain ⟨g', hq⟩ := g.next hu h
      rw [W_u64 (x := rh + yn1) (by omega) (by omega), W_u64 (x := q - 1) (by omega) (by omega)]
      by_cases hb : 4294967296 ≤ rh + yn1
      · rw [leB_t hb, cond_true]
        have hp' := g'.prod
        rw [g'.done (by omega)]
      · rw [leB_f (by omega), cond_false]
        exact div_l17 N hu hu' (m - 1) n (q - 1) (rh + yn1) g' (by omega) (by omega) (by omega)
    by_cases h1 : 4294967296 ≤ q
    · rw [leB_t h1, cond_true]
      exact go (.inl h1)
    · rw [leB_f (by omega), cond_false, W_u64 (x := 4294967296 * rh) (by omega) (by omega), W_u64 (x := 4294967296 * rh + un1) (by omega) (by omega), W_u64 (x := q * yn0) (by omega) (by omega)]
      by_cases h2 : 4294967296 * rh + un1 < q * yn0
      · rw [ltB_t h2, cond_true]
        exact go (.inr h2)
      · rw [ltB_f (by omega), cond_false, g.done (by omega)]

theorem div_l24 (N : Nat) {Y s yn1 yn0 un32 un1 a b : Int} (hu : 0 ≤ un32) (hu' : un32 < 18446744073709551616) : ∀ (m n : Nat) (q rh : Int), Guess Y yn1 yn0 un32 un1 q rh → rh < 4294967296 → 4294967296 - rh ≤ 2147483648 * m → m < n →
    F216.l24 N n Y s yn1 yn0 un1 a rh un32 q = F216.j28 N Y s un1 a un32 ((un32 * 4294967296 + un1) / Y)
  | m, 0, q, rh, _, _, _, hn => by omega
  | m, n + 1, q, rh, g, hr, hm, hn => by
    unfold F216.l24 F216.l24b
    have hpr := g.prod
    have hd := g.digit hu
    obtain ⟨hY, y1, y1', y0, y0', u1, u1', lt, q0, eq, r0, q1, ge⟩ := id g
    have go : (4294967296 ≤ q ∨ 4294967296 * rh + un1 < q * yn0) →
        (cond (leB (4294967296 : Int) (W .u64 (rh + yn1))) (F216.j28 N Y s un1 a un32 (W .u64 (q - 1))) (F216.l24 N n Y s yn1 yn0 un1 a (W .u64 (rh + yn1)) un32 (W .u64 (q - 1)))) = F216.j28 N Y s un1 a un32 ((un32 * 4294967296 + un1) / Y) := fun h => by
      obtain ⟨g', hq⟩ := g.next hu h
      rw [W_u64 (x := rh + yn1) (by omega) (by omega), W_u64 (x := q - 1) (by omega) (by omega)]
      by_cases hb : 4294967296 ≤ rh + yn1
      · rw [leB_t hb, cond_true]
        have hp' := g'.prod
        rw [g'.done (by omega)]
      · rw [leB_f (by omega), cond_false]
        exact div_l24 N (b := b) hu hu' (m - 1) n (q - 1) (rh + yn1) g' (by omega) (by omega) (by omega)
    by_cases h1 : 4294967296 ≤ q
    · rw [leB_t h1, cond_true]
      exact go (.inl h1)
    · rw [leB_f (by omega), cond_false, W_u64 (x := 4294967296 * rh) (by omega) (by omega), W_u64 (x := 4294967296 * rh + un1) (by omega) (by omega), W_u64 (x := q * yn0) (by omega) (by omega)]
      by_cases h2 : 4294967296 * rh + un1 < q * yn0
      · rw [ltB_t h2, cond_true]
        exact go (.inr h2)
      · rw [ltB_f (by omega), cond_false, g.done (by omega)]

/-- The first guess. -/
theorem Guess.first {Y yn1 yn0 un32 un1 : Int} (hY : Y = yn1 * 4294967296 + yn0) (y1 : 2147483648 ≤ yn1) (y1' : yn1 < 4294967296) (y0 : 0 ≤ yn0) (y0' : yn0 < 4294967296) (u1 : 0 ≤ un1) (u1' : un1 < 4294967296) (hu : 0 ≤ un32) (lt : un32 < Y) :
    Guess Y yn1 yn0 un32 un1 (un32 / yn1) (un32 - un32 / yn1 * yn1) ∧ un32 - un32 / yn1 * yn1 < 4294967296 ∧ 0 ≤ un32 / yn1 * yn1 ∧ un32 / yn1 * yn1 ≤ un32 := by
  have h1 := Int.mul_ediv_add_emod un32 yn1
  have h2 := Int.emod_lt_of_pos un32 (show 0 < yn1 by omega)
  have h3 := Int.emod_nonneg un32 (show yn1 ≠ 0 by omega)
  have hq0 : 0 ≤ un32 / yn1 := Int.ediv_nonneg hu (by omega)
  rw [Int.mul_comm] at h1
  have hq1 : un32 / yn1 ≤ 4294967297 := by
    have : un32 / yn1 < 4294967298 := by rw [Int.ediv_lt_iff_lt_mul (by omega)]; omega
    omega
  have hge : (un32 * 4294967296 + un1) / Y ≤ un32 / yn1 := by
    have hlt : un32 * 4294967296 + un1 < (un32 / yn1 + 1) * Y := by
      have e : un32 + 1 ≤ (un32 / yn1 + 1) * yn1 := by rw [Int.add_mul, Int.one_mul]; omega
      have e2 : (un32 / yn1 + 1) * Y = (un32 / yn1 + 1) * yn1 * 4294967296 + (un32 / yn1 + 1) * yn0 := by rw [hY, Int.mul_add, Int.mul_assoc]
      have e3 : 0 ≤ (un32 / yn1 + 1) * yn0 := Int.mul_nonneg (by omega) y0
      omega
    have : (un32 * 4294967296 + un1) / Y < un32 / yn1 + 1 := by rw [Int.ediv_lt_iff_lt_mul (by omega)]; exact hlt
    omega
  exact ⟨⟨hY, y1, y1', y0, y0', u1, u1', lt, hq0, by omega, by omega, hq1, hge⟩, by omega, Int.mul_nonneg hq0 (by omega), by omega⟩

theorem or_shift {a b : Int} {k : Nat} (ha : 0 ≤ a) (ha1 : a < 2 ^ k) (hb : 0 ≤ b) (h : b * 2 ^ k < 18446744073709551616) (hk : k < 64) : bitw .or .u64 (b * 2 ^ k) a = b * 2 ^ k + a := by
  have hp : (0 : Int) < 2 ^ k := Int.pow_pos (by decide)
  have hpn : ((2 ^ k : Nat) : Int) = 2 ^ k := by rw [Int.natCast_pow]; rfl
  have hp64 : (2 : Int) ^ k ≤ 2 ^ 63 := by
    rw [← hpn, show (2 : Int) ^ 63 = ((2 ^ 63 : Nat) : Int) from by decide]
    exact_mod_cast Nat.pow_le_pow_right (by decide) (by omega)
  have hp64' : (2 : Int) ^ 63 = 9223372036854775808 := by decide
  have hb2 := Int.mul_nonneg hb (Int.le_of_lt hp)
  rw [bitw_or hb2 h ha (by omega)]
  have h1 := Nat.two_pow_add_eq_or_of_lt (i := k) (b := a.toNat) (by
    have : ((a.toNat : Nat) : Int) < ((2 ^ k : Nat) : Int) := by rw [hpn, Int.toNat_of_nonneg ha]; exact ha1
    exact_mod_cast this) b.toNat
  have e : (b * 2 ^ k).toNat = 2 ^ k * b.toNat := by
    have : ((2 ^ k * b.toNat : Nat) : Int) = b * 2 ^ k := by rw [Int.natCast_mul, hpn, Int.toNat_of_nonneg hb, Int.mul_comm]
    omega
  rw [e, ← h1, Int.natCast_add, Int.natCast_mul, hpn, Int.toNat_of_nonneg hb, Int.toNat_of_nonneg ha, Int.mul_comm]

theorem Div64_eq (N : Nat) (hN : 100 ≤ N) {hi lo y : Int} (h0 : 0 ≤ hi) (h1 : hi < y) (l0 : 0 ≤ lo) (l1 : lo < 18446744073709551616) (y1 : y < 18446744073709551616) :
    F216 N hi lo y = some ((hi * 18446744073709551616 + lo) / y, (hi * 18446744073709551616 + lo) % y) := by
  unfold F216 F216.b
  rw [eqB_f (show y ≠ 0 by omega), cond_false, leB_f (by omega), cond_false]
  by_cases hz : hi = 0
  · subst hz
    rw [eqB_t rfl, cond_true, cond_false, cond_false, quo_eq, rem_eq, Int.tdiv_eq_ediv_of_nonneg l0, Int.tmod_eq_emod_of_nonneg l0]
    have e1 : 0 ≤ lo / y := Int.ediv_nonneg l0 (by omega)
    have e2 : lo / y ≤ lo := Int.ediv_le_self _ l0
    rw [W_u64 (by omega) (by omega)]
    simp
  · rw [eqB_f hz, cond_false]
    obtain ⟨b1, b2⟩ := bitLen_spec y.toNat
    have b2 := b2 (by omega)
    obtain ⟨L, hL⟩ : ∃ L, L = bitLen y.toNat := ⟨_, rfl⟩
    rw [← hL] at b1 b2
    have hL1 : 1 ≤ L := by rw [hL, bitLen_pos (by omega)]; omega
    have hL64 : L ≤ 64 := by
      rcases Nat.lt_or_ge 64 L with h | h
      · have h3 : 2 ^ 64 ≤ 2 ^ (L - 1) := Nat.pow_le_pow_right (by decide) (by omega)
        have : (2 : Nat) ^ 64 = 18446744073709551616 := by decide
        omega
      · exact h
    have hl : F244 N y = some (64 - (L : Int)) := by
      unfold F244
      rw [Len64_eq N (by omega) y1, Option.bind_some, ← hL, W_i64 (by omega) (by omega)]
    obtain ⟨s, hs⟩ : ∃ s : Nat, s = 64 - L := ⟨_, rfl⟩
    have hsI : 64 - (L : Int) = (s : Int) := by omega
    rw [hl, Option.bind_some, hsI]
    clear hl
    -- the powers
    have hpn : ∀ k : Nat, ((2 ^ k : Nat) : Int) = 2 ^ k := fun k => by rw [Int.natCast_pow]; rfl
    obtain ⟨p, hp⟩ : ∃ p : Int, p = 2 ^ s := ⟨_, rfl⟩
    obtain ⟨p', hp'⟩ : ∃ p' : Int, p' = 2 ^ (64 - s) := ⟨_, rfl⟩
    have hpp : p' * p = 18446744073709551616 := by
      rw [hp, hp', ← Int.pow_add, show 64 - s + s = 64 from by omega]; decide
    have hp0 : 0 < p := by rw [hp]; exact Int.pow_pos (by decide)
    have hp0' : 0 < p' := by rw [hp']; exact Int.pow_pos (by decide)
    have hy1 : y * p < 18446744073709551616 := by
      have h : y.toNat * 2 ^ s < 2 ^ L * 2 ^ s := Nat.mul_lt_mul_of_pos_right b1 (Nat.pow_pos (by decide))
      rw [← Nat.pow_add, show L + s = 64 from by omega, show (2 : Nat) ^ 64 = 18446744073709551616 from by decide] at h
      have : ((y.toNat * 2 ^ s : Nat) : Int) = y * p := by rw [Int.natCast_mul, hpn, ← hp, Int.toNat_of_nonneg (by omega)]
      omega
    have hy2 : 9223372036854775808 ≤ y * p := by
      have h : 2 ^ (L - 1) * 2 ^ s ≤ y.toNat * 2 ^ s := Nat.mul_le_mul_right _ b2
      rw [← Nat.pow_add, show L - 1 + s = 63 from by omega, show (2 : Nat) ^ 63 = 9223372036854775808 from by decide] at h
      have : ((y.toNat * 2 ^ s : Nat) : Int) = y * p := by rw [Int.natCast_mul, hpn, ← hp, Int.toNat_of_nonneg (by omega)]
      omega
    -- the words, moved
    have hshl : ∀ x : Int, shl .u64 x (s : Int) = x * p := fun x => by rw [shl_u64 (by omega) (by omega), hp]; rfl
    have hshr : shr .u64 lo (64 - (s : Int)) = lo * p / 18446744073709551616 := by
      rw [shr_u64 (by omega) (by omega), show (64 - (s : Int)).toNat = 64 - s from by omega, ← hp', ← hpp, Int.mul_ediv_mul_of_pos_left _ _ hp0]
    have hhp : hi * p + p ≤ y * p := by
      have := Int.mul_le_mul_of_nonneg_right (show hi + 1 ≤ y by omega) (Int.le_of_lt hp0)
      rw [Int.add_mul, Int.one_mul] at this; exact this
    have hhp0 : 0 ≤ hi * p := Int.mul_nonneg h0 (Int.le_of_lt hp0)
    have hlp0 : 0 ≤ lo * p := Int.mul_nonneg l0 (Int.le_of_lt hp0)
    have hlp1 : lo * p < 18446744073709551616 * p := Int.mul_lt_mul_of_pos_right l1 hp0
    have ht1 : lo * p / 18446744073709551616 < p := by rw [Int.ediv_lt_iff_lt_mul (by omega), Int.mul_comm p]; exact hlp1
    have ht0 : 0 ≤ lo * p / 18446744073709551616 := Int.ediv_nonneg hlp0 (by omega)
    have hor : bitw .or .u64 (hi * p) (lo * p / 18446744073709551616) = hi * p + lo * p / 18446744073709551616 := by
      have := or_shift (k := s) (a := lo * p / 18446744073709551616) (b := hi) ht0 (by rw [← hp]; exact ht1) h0 (by rw [← hp]; omega) (by omega)
      rw [← hp] at this; exact this
    obtain ⟨Y, hY⟩ : ∃ Y, Y = y * p := ⟨_, rfl⟩
    have hU : (hi * 18446744073709551616 + lo) * p = (hi * p + lo * p / 18446744073709551616) * 18446744073709551616 + lo * p % 18446744073709551616 := by
      rw [Int.add_mul, Int.mul_assoc, Int.mul_comm 18446744073709551616 p, ← Int.mul_assoc]; omega
    have hws : W .u64 (s : Int) = (s : Int) := W_u64 (by omega) (by omega)
    have hws' : W .u64 (64 - (s : Int)) = 64 - (s : Int) := W_u64 (by omega) (by omega)
    have hwl : W .u64 (lo * p) = lo * p % 18446744073709551616 := W_mod _
    simp only [hws, hws', hshl, hshr, hwl]
    rw [← hY] at hy1 hy2 hhp ⊢
    have hwy : W .u64 Y = Y := W_u64 (by omega) (by omega)
    have hwh : W .u64 (hi * p) = hi * p := W_u64 (by omega) (by omega)
    simp only [hwy, hwh, hor]
    obtain ⟨u, hu⟩ : ∃ u, u = hi * p + lo * p / 18446744073709551616 := ⟨_, rfl⟩
    obtain ⟨v, hv⟩ : ∃ v, v = lo * p % 18446744073709551616 := ⟨_, rfl⟩
    rw [← hu, ← hv] at hU ⊢
    have hv0 : 0 ≤ v := by omega
    have hv1 : v < 18446744073709551616 := by omega
    have hu0 : 0 ≤ u := by omega
    have hu1 : u < Y := by omega
    have hmy : bitw .and .u64 Y 4294967295 = Y % 4294967296 := and_mask32 (by omega) (by omega)
    have hmv : bitw .and .u64 v 4294967295 = v % 4294967296 := and_mask32 hv0 hv1
    obtain ⟨g1, g2, g3, g4⟩ := Guess.first (Y := Y) (yn1 := Y / 4294967296) (yn0 := Y % 4294967296) (un32 := u) (un1 := v / 4294967296) (by omega) (by omega) (by omega) (by omega) (by omega) (by omega) (by omega) hu0 hu1
    have hq : quo u (Y / 4294967296) = u / (Y / 4294967296) := by rw [quo_eq, Int.tdiv_eq_ediv_of_nonneg hu0]
    have hwq : W .u64 (u / (Y / 4294967296)) = u / (Y / 4294967296) := W_u64 g1.q0 (by have := g1.q1; omega)
    have hwm : W .u64 (u / (Y / 4294967296) * (Y / 4294967296)) = u / (Y / 4294967296) * (Y / 4294967296) := W_u64 g3 (by omega)
    have hwr : W .u64 (u - u / (Y / 4294967296) * (Y / 4294967296)) = u - u / (Y / 4294967296) * (Y / 4294967296) := W_u64 (by omega) (by omega)
    rw [ltB_f (show (0 : Int) ≤ s by omega), ltB_f (show (0 : Int) ≤ 32 by omega), ltB_f (show (0 : Int) ≤ 64 - (s : Int) by omega), shr32, shr32, hmy, hmv, eqB_f (show Y / 4294967296 ≠ 0 by omega), hq, hwq, hwm, hwr]
    simp only [cond_false]
    rw [div_l17 N hu0 (by omega) 3 N _ _ g1 g2 (by omega) (by omega)]
    have d1 := g1.digit hu0
    clear hq hwq hwm hwr g1 g2 g3 g4
    -- the second digit
    obtain ⟨q1, hq1⟩ : ∃ q1, q1 = (u * 4294967296 + v / 4294967296) / Y := ⟨_, rfl⟩
    have m1 := Int.mul_ediv_add_emod (u * 4294967296 + v / 4294967296) Y
    have m2 := Int.emod_lt_of_pos (u * 4294967296 + v / 4294967296) (show 0 < Y by omega)
    have m3 := Int.emod_nonneg (u * 4294967296 + v / 4294967296) (show Y ≠ 0 by omega)
    rw [← hq1] at d1 m1 ⊢
    obtain ⟨r1, hr1⟩ : ∃ r1, r1 = (u * 4294967296 + v / 4294967296) % Y := ⟨_, rfl⟩
    rw [← hr1] at m1 m2 m3
    rw [Int.mul_comm] at m1
    unfold F216.j21 F216.j21b
    have hwr1 : W .u64 (W .u64 (W .u64 (u * 4294967296) + v / 4294967296) - W .u64 (q1 * Y)) = r1 := by
      simp only [W_mod]
      generalize q1 * Y = z at *
      omega
    simp only [hwr1]
    obtain ⟨g1, g2, g3, g4⟩ := Guess.first (Y := Y) (yn1 := Y / 4294967296) (yn0 := Y % 4294967296) (un32 := r1) (un1 := v % 4294967296) (by omega) (by omega) (by omega) (by omega) (by omega) (by omega) (by omega) m3 m2
    have hq : quo r1 (Y / 4294967296) = r1 / (Y / 4294967296) := by rw [quo_eq, Int.tdiv_eq_ediv_of_nonneg m3]
    have hwq : W .u64 (r1 / (Y / 4294967296)) = r1 / (Y / 4294967296) := W_u64 g1.q0 (by have := g1.q1; omega)
    have hwm : W .u64 (r1 / (Y / 4294967296) * (Y / 4294967296)) = r1 / (Y / 4294967296) * (Y / 4294967296) := W_u64 g3 (by omega)
    have hwr : W .u64 (r1 - r1 / (Y / 4294967296) * (Y / 4294967296)) = r1 - r1 / (Y / 4294967296) * (Y / 4294967296) := W_u64 (by omega) (by omega)
    rw [eqB_f (show Y / 4294967296 ≠ 0 by omega), hq, hwq, hwm, hwr, cond_false, div_l24 N (b := 0) m3 (by omega) 3 N _ _ g1 g2 (by omega) (by omega)]
    have d0 := g1.digit m3
    clear hq hwq hwm hwr g1 g2 g3 g4
    obtain ⟨q0, hq0⟩ : ∃ q0, q0 = (r1 * 4294967296 + v % 4294967296) / Y := ⟨_, rfl⟩
    have n1 := Int.mul_ediv_add_emod (r1 * 4294967296 + v % 4294967296) Y
    have n2 := Int.emod_lt_of_pos (r1 * 4294967296 + v % 4294967296) (show 0 < Y by omega)
    have n3 := Int.emod_nonneg (r1 * 4294967296 + v % 4294967296) (show Y ≠ 0 by omega)
    rw [← hq0] at d0 n1 ⊢
    obtain ⟨r0, hr0⟩ : ∃ r0, r0 = (r1 * 4294967296 + v % 4294967296) % Y := ⟨_, rfl⟩
    rw [← hr0] at n1 n2 n3
    rw [Int.mul_comm] at n1
    unfold F216.j28 F216.j28b
    have hwr0 : W .u64 (W .u64 (W .u64 (r1 * 4294967296) + v % 4294967296) - W .u64 (q0 * Y)) = r0 := by
      simp only [W_mod]
      generalize q0 * Y = z at *
      omega
    rw [ltB_f (show (0 : Int) ≤ s by omega), cond_false, hwr0, W_u64 (x := q1 * 4294967296) (by omega) (by omega), W_u64 (x := q1 * 4294967296 + q0) (by omega) (by omega), shr_u64 (by omega) (by omega), Int.toNat_natCast, ← hp]
    -- together
    obtain ⟨V, hV⟩ : ∃ V, V = hi * 18446744073709551616 + lo := ⟨_, rfl⟩
    obtain ⟨Q, hQ⟩ : ∃ Q, Q = q1 * 4294967296 + q0 := ⟨_, rfl⟩
    rw [← hV] at hU ⊢
    rw [← hQ]
    have hQY : Q * Y = q1 * Y * 4294967296 + q0 * Y := by rw [hQ, Int.add_mul, Int.mul_assoc, Int.mul_comm 4294967296 Y, ← Int.mul_assoc]
    have hfin : V * p = Q * Y + r0 := by rw [hU, hQY]; generalize q1 * Y = z1 at *; generalize q0 * Y = z0 at *; omega
    have hr0p : r0 = (V - Q * y) * p := by rw [Int.sub_mul, Int.mul_assoc, ← hY]; omega
    have hd0 : 0 ≤ V - Q * y := by
      by_cases h : V - Q * y < 0
      · have := Int.mul_neg_of_neg_of_pos h hp0; omega
      · omega
    have hd1 : V - Q * y < y := by
      by_cases h : V - Q * y < y
      · exact h
      · have := Int.mul_le_mul_of_nonneg_right (show y ≤ V - Q * y by omega) (Int.le_of_lt hp0); rw [← hr0p, ← hY] at this; omega
    have hVe : V = (V - Q * y) + y * Q := by rw [Int.mul_comm y Q]; omega
    have e1 : V / y = Q := by
      rw [hVe, Int.add_mul_ediv_left _ _ (by omega), Int.ediv_eq_zero_of_lt hd0 hd1]; omega
    have e2 : V % y = V - Q * y := by
      have := Int.mul_ediv_add_emod V y
      rw [e1, Int.mul_comm] at this; omega
    rw [e1, e2, hr0p, Int.mul_ediv_cancel _ (by omega)]
end VM
end

section
/- Plain laws: numbers by digits of 32 bits. -/
set_option linter.unusedSimpArgs false
set_option linter.unusedVariables false
namespace VM
open Go VM.F

def valD : List Int → Int
  | [] => 0
  | d :: r => d + 4294967296 * valD r
def VD (l : List Int) : Prop := ∀ d ∈ l, 0 ≤ d ∧ d < 4294967296

def dig (n : Nat) : List Int := if n = 0 then [] else ((n % 4294967296 : Nat) : Int) :: dig (n / 4294967296)
termination_by n
decreasing_by omega

theorem dig_zero : dig 0 = [] := by rw [dig]; rfl
theorem dig_pos {n : Nat} (h : n ≠ 0) : dig n = ((n % 4294967296 : Nat) : Int) :: dig (n / 4294967296) := by rw [dig]; simp [h]

theorem VD.nil : VD [] := fun d h => by cases h
theorem VD.cons {d : Int} {l : List Int} (h0 : 0 ≤ d) (h1 : d < 4294967296) (h : VD l) : VD (d :: l) := fun x hx => by
  rcases List.mem_cons.1 hx with rfl | hx
  · exact ⟨h0, h1⟩
  · exact h x hx
theorem VD.tail {d : Int} {l : List Int} (h : VD (d :: l)) : VD l := fun x hx => h x (List.mem_cons_of_mem _ hx)
theorem VD.drop {l : List Int} (h : VD l) (n : Nat) : VD (l.drop n) := fun x hx => h x (List.mem_of_mem_drop hx)
theorem VD.take {l : List Int} (h : VD l) (n : Nat) : VD (l.take n) := fun x hx => h x (List.mem_of_mem_take hx)
theorem VD.getD {l : List Int} (h : VD l) (n : Nat) : 0 ≤ l.getD n 0 ∧ l.getD n 0 < 4294967296 := by
  rw [List.getD_eq_getElem?_getD]
  cases hn : l[n]? with
  | none => exact ⟨Int.le_refl _, by decide⟩
  | some x => exact h x (List.mem_of_getElem? hn)
theorem VD.set {l : List Int} (h : VD l) (n : Nat) {x : Int} (h0 : 0 ≤ x) (h1 : x < 4294967296) : VD (l.set n x) := fun y hy => by
  rcases List.mem_or_eq_of_mem_set hy with hy | rfl
  · exact h y hy
  · exact ⟨h0, h1⟩
theorem VD.zeros (n : Nat) : VD (List.replicate n 0) := fun x hx => by rw [List.eq_of_mem_replicate hx]; exact ⟨Int.le_refl _, by decide⟩

theorem valD_nonneg : ∀ {l : List Int}, VD l → 0 ≤ valD l
  | [], _ => Int.le_refl _
  | d :: r, h => by
    have := valD_nonneg h.tail
    have := (h d (List.mem_cons_self ..)).1
    simp only [valD]; omega

theorem dig_val (n : Nat) : valD (dig n) = n := by
  induction n using Nat.strongRecOn with
  | _ n ih =>
    by_cases h : n = 0
    · subst h; rw [dig_zero]; rfl
    · rw [dig_pos h, valD, ih _ (by omega)]; omega

theorem dig_vd (n : Nat) : VD (dig n) := by
  induction n using Nat.strongRecOn with
  | _ n ih =>
    by_cases h : n = 0
    · subst h; rw [dig_zero]; exact VD.nil
    · rw [dig_pos h]; exact VD.cons (by omega) (by omega) (ih _ (by omega))

theorem dig_nil {n : Nat} : dig n = [] ↔ n = 0 := by
  constructor
  · intro h
    by_cases hn : n = 0
    · exact hn
    · rw [dig_pos hn] at h; cases h
  · rintro rfl; exact dig_zero

theorem dig_len (k : Nat) : ∀ n, n < 4294967296 ^ k → (dig n).length ≤ k := by
  induction k with
  | zero => intro n h; have : n = 0 := by simpa using h
            subst this; rw [dig_zero]; simp
  | succ k ih =>
    intro n h
    by_cases hn : n = 0
    · subst hn; rw [dig_zero]; simp
    · rw [dig_pos hn, List.length_cons]
      have := ih (n / 4294967296) (by rw [Nat.div_lt_iff_lt_mul (by omega)]; rw [Nat.pow_succ] at h; exact h)
      omega

theorem len_dig (k : Nat) : ∀ n, (dig n).length ≤ k → n < 4294967296 ^ k := by
  induction k with
  | zero =>
    intro n h
    have : dig n = [] := List.eq_nil_of_length_eq_zero (by omega)
    rw [dig_nil] at this; subst this; decide
  | succ k ih =>
    intro n h
    by_cases hn : n = 0
    · subst hn; exact Nat.pow_pos (by decide)
    · rw [dig_pos hn, List.length_cons] at h
      have := ih (n / 4294967296) (by omega)
      rw [Nat.div_lt_iff_lt_mul (by omega)] at this
      rw [Nat.pow_succ]; exact this

/-- Without the noughts at the end. -/
def strip : List Int → List Int
  | [] => []
  | d :: r => if strip r = [] ∧ d = 0 then [] else d :: strip r

theorem strip_eq : ∀ {l : List Int}, VD l → strip l = dig (valD l).toNat
  | [], _ => by rw [show (valD []).toNat = 0 from rfl, dig_zero]; rfl
  | d :: r, h => by
    have ih := strip_eq h.tail
    have h0 := valD_nonneg h.tail
    obtain ⟨h1, h2⟩ := h d (List.mem_cons_self ..)
    simp only [strip, valD, ih, dig_nil]
    split
    · rename_i hc
      obtain ⟨hc, rfl⟩ := hc
      have : valD r = 0 := by omega
      rw [this]; exact dig_zero.symm
    · rename_i hc
      have hne : (d + 4294967296 * valD r).toNat ≠ 0 := fun he => hc ⟨by omega, by omega⟩
      rw [dig_pos hne]
      congr 1
      · omega
      · congr 1; omega

theorem strip_snoc : ∀ (l : List Int) (x : Int), strip (l ++ [x]) = if x = 0 then strip l else l ++ [x]
  | [], x => by simp [strip]
  | d :: r, x => by
    simp only [List.cons_append, strip, strip_snoc r x]
    split
    · rfl
    · simp

theorem take_snoc' (l : List Int) {k : Nat} (h : k < l.length) : l.take (k + 1) = l.take k ++ [l.getD k 0] := by
  rw [List.take_succ_eq_append_getElem h, List.getD_eq_getElem?_getD, List.getElem?_eq_getElem h]; rfl

theorem trim_loop (N : Nat) (l : List Int) (hl : l.length < 68719476736) : ∀ (k n : Nat), k ≤ l.length → k < n → F225.l2 N n l (k : Int) = some (strip (l.take k))
  | 0, n + 1, _, _ => by
    unfold F225.l2 F225.l2b
    simp (disch := omega) only [ltB_t, ltB_f, leB_t, leB_f, eqB_t, eqB_f, inb_t, small_t, okMake_t, okCut_t, W_i64, W_u64, cond_true, cond_false, Bool.not_true, Bool.not_false, Option.bind_some, Int.toNat_natCast, Int.toNat_zero, natCast_succ', List.length_append, List.length_singleton, List.length_set, List.length_replicate, List.length_cons, List.length_nil]
    simp [strip]
  | k + 1, n + 1, hk, hn => by
    unfold F225.l2 F225.l2b
    have e : ((k + 1 : Nat) : Int) - 1 = (k : Int) := by omega
    simp (disch := omega) only [ltB_t, ltB_f, leB_t, leB_f, eqB_t, eqB_f, inb_t, small_t, okMake_t, okCut_t, W_i64, W_u64, cond_true, cond_false, Bool.not_true, Bool.not_false, Option.bind_some, Int.toNat_natCast, Int.toNat_zero, natCast_succ', List.length_append, List.length_singleton, List.length_set, List.length_replicate, List.length_cons, List.length_nil, e]
    have ih := trim_loop N l hl k n (by omega) (by omega)
    rw [take_snoc' l (by omega), strip_snoc]
    by_cases h : l.getD k 0 = 0
    · rw [eqB_t h, cond_true, ih, if_pos h]
    · rw [eqB_f h, cond_false, if_neg h]
      simp only [Int.toNat_zero, List.drop_zero]

theorem trim_eq (N : Nat) {l : List Int} (h : VD l) (hN : l.length < N) (hl : l.length < 68719476736) : F225 N l = some (dig (valD l).toNat) := by
  unfold F225 F225.b
  rw [trim_loop N l hl l.length N (Nat.le_refl _) hN, List.take_length, strip_eq h]

/-- A whole number. -/
def bigN (v : Int) : vtBig := (decide (v < 0), (dig v.natAbs, ()))

theorem made_eq (N : Nat) (neg : Bool) {l : List Int} (h : VD l) (hN : l.length < N) (hl : l.length < 68719476736) : F169 N neg l = some (bigN (if neg then -valD l else valD l)) := by
  unfold F169
  rw [trim_eq N h hN hl, Option.bind_some]
  have h0 := valD_nonneg h
  cases neg
  · simp only [cond_false, bigN, Bool.false_eq_true, if_false]
    rw [decide_eq_false (by omega)]
    congr 4; omega
  · simp only [cond_true, bigN, if_true]
    have e : (-valD l).natAbs = (valD l).toNat := by omega
    rw [e]
    congr 2
    by_cases hz : valD l = 0
    · rw [hz, Int.toNat_zero, dig_zero, ltB_f (by simp), decide_eq_false (by omega)]
    · have : 0 < (dig (valD l).toNat).length := by
        apply List.length_pos_iff.2
        intro hd; rw [dig_nil] at hd; omega
      rw [ltB_t (by omega), decide_eq_true (by omega)]

theorem size_eq (N : Nat) (hN : 1000 ≤ N) {u : Int} (h0 : 0 ≤ u) (h1 : u < 18446744073709551616) : F173 N u = some (dig u.toNat) := by
  unfold F173
  rw [and_mask32 h0 h1, shr32]
  have hv : VD [u % 4294967296, u / 4294967296] := VD.cons (by omega) (by omega) (VD.cons (by omega) (by omega) VD.nil)
  simp (disch := omega) only [ltB_t, ltB_f, leB_t, leB_f, eqB_t, eqB_f, inb_t, small_t, okMake_t, okCut_t, W_i64, W_u64, cond_true, cond_false, Bool.not_true, Bool.not_false, Option.bind_some, Int.toNat_natCast, Int.toNat_zero, natCast_succ', List.length_append, List.length_singleton, List.length_set, List.length_replicate, List.length_cons, List.length_nil, trim_eq N hv (by simp; omega) (by simp)]
  congr 2
  simp only [valD]; omega

theorem Whole_eq (N : Nat) (hN : 1000 ≤ N) {x : Int} (h0 : -9223372036854775808 ≤ x) (h1 : x < 9223372036854775808) : F87 N x = some (bigN x) := by
  unfold F87
  have hd : ∀ n : Nat, n < 18446744073709551616 → (dig n).length ≤ 2 := fun n h => dig_len 2 n (by simpa using h)
  by_cases h : x < 0
  · have e : W .u64 (0 - W .u64 x) = -x := by rw [W_mod, W_mod]; omega
    simp only [ltB_t h, cond_true, e, size_eq N hN (show 0 ≤ -x by omega) (by omega), Option.bind_some]
    have := hd (-x).toNat (by omega)
    rw [made_eq N true (dig_vd _) (by omega) (by omega), dig_val, if_pos rfl, show -(((-x).toNat : Nat) : Int) = x from by omega]; rfl
  · have e : W .u64 x = x := W_u64 (by omega) (by omega)
    simp only [ltB_f (show 0 ≤ x by omega), cond_false, e, size_eq N hN (show 0 ≤ x by omega) (by omega), Option.bind_some]
    have := hd x.toNat (by omega)
    rw [made_eq N false (dig_vd _) (by omega) (by omega), dig_val, if_neg Bool.false_ne_true, Int.toNat_of_nonneg (by omega)]; rfl

theorem digit_eq (N : Nat) (l : List Int) (i : Nat) : F176 N l (i : Int) = some (l.getD i 0) := by
  unfold F176
  by_cases h : i < l.length
  · simp (disch := omega) only [ltB_t, ltB_f, leB_t, leB_f, eqB_t, eqB_f, inb_t, small_t, okMake_t, okCut_t, W_i64, W_u64, cond_true, cond_false, Bool.not_true, Bool.not_false, Option.bind_some, Int.toNat_natCast, Int.toNat_zero, natCast_succ', List.length_append, List.length_singleton, List.length_set, List.length_replicate, List.length_cons, List.length_nil]
  · simp (disch := omega) only [ltB_t, ltB_f, leB_t, leB_f, eqB_t, eqB_f, inb_t, small_t, okMake_t, okCut_t, W_i64, W_u64, cond_true, cond_false, Bool.not_true, Bool.not_false, Option.bind_some, Int.toNat_natCast, Int.toNat_zero, natCast_succ', List.length_append, List.length_singleton, List.length_set, List.length_replicate, List.length_cons, List.length_nil]
    rw [List.getD_eq_getElem?_getD, List.getElem?_eq_none (by omega)]; rfl

theorem valD_drop (l : List Int) (i : Nat) : valD (l.drop i) = l.getD i 0 + 4294967296 * valD (l.drop (i + 1)) := by
  by_cases h : i < l.length
  · rw [List.drop_eq_getElem_cons h, valD, List.getD_eq_getElem?_getD, List.getElem?_eq_getElem h]; rfl
  · rw [List.drop_of_length_le (by omega), List.drop_of_length_le (by omega), List.getD_eq_getElem?_getD, List.getElem?_eq_none (by omega)]; rfl

theorem add_loop (N : Nat) {a b : List Int} (ha : VD a) (hb : VD b) (hla : a.length ≤ 1000000) (hlb : b.length ≤ 1000000) : ∀ (m n i : Nat) (out : List Int) (c : Int), a.length + b.length + 2 - i ≤ m → m < n → out.length = i → i ≤ a.length + b.length + 1 → 0 ≤ c → c ≤ 1 → (a.length ≤ i → b.length ≤ i → i = max a.length b.length ∨ c = 0) →
    ∃ r, F170.l4 N n a b out c (i : Int) = some (out ++ r) ∧ VD r ∧ valD r = valD (a.drop i) + valD (b.drop i) + c ∧ r.length ≤ m
  | m, 0, i, out, c, _, hn, _, _, _, _, _ => by omega
  | m, n + 1, i, out, c, hm, hn, ho, hi, hc0, hc1, hz => by
    unfold F170.l4 F170.l4b
    by_cases hstop : a.length ≤ i ∧ b.length ≤ i ∧ c = 0
    · obtain ⟨h1, h2, rfl⟩ := hstop
      simp (disch := omega) only [ltB_t, ltB_f, leB_t, leB_f, eqB_t, eqB_f, inb_t, small_t, okMake_t, okCut_t, W_i64, W_u64, cond_true, cond_false, Bool.not_true, Bool.not_false, Option.bind_some, Int.toNat_natCast, Int.toNat_zero, natCast_succ', List.length_append, List.length_singleton, List.length_set, List.length_replicate, List.length_cons, List.length_nil]
      exact ⟨[], by simp, VD.nil, by rw [List.drop_of_length_le h1, List.drop_of_length_le h2]; rfl, Nat.zero_le _⟩
    · obtain ⟨ga0, ga1⟩ := ha.getD i
      obtain ⟨gb0, gb1⟩ := hb.getD i
      have step : ∃ r, F170.j6 N (F170.l4 N n) a b out c (i : Int) = some (out ++ r) ∧ VD r ∧ valD r = valD (a.drop i) + valD (b.drop i) + c ∧ r.length ≤ m := by
        unfold F170.j6 F170.j6b
        have hil : i ≤ a.length + b.length := by
          by_cases h1 : a.length ≤ i ∧ b.length ≤ i
          · rcases hz h1.1 h1.2 with h | h
            · omega
            · exact absurd ⟨h1.1, h1.2, h⟩ hstop
          · omega
        simp only [digit_eq, Option.bind_some]
        generalize hga : a.getD i 0 = x at *
        generalize hgb : b.getD i 0 = y at *
        rw [W_u64 (x := x + y) (by omega) (by omega), W_u64 (x := c + (x + y)) (by omega) (by omega), and_mask32 (by omega) (by omega), shr32]
        simp (disch := omega) only [ltB_t, ltB_f, leB_t, leB_f, eqB_t, eqB_f, inb_t, small_t, okMake_t, okCut_t, W_i64, W_u64, cond_true, cond_false, Bool.not_true, Bool.not_false, Option.bind_some, Int.toNat_natCast, Int.toNat_zero, natCast_succ', List.length_append, List.length_singleton, List.length_set, List.length_replicate, List.length_cons, List.length_nil]
        obtain ⟨r, hr, hv, hs, hrl⟩ := add_loop N ha hb hla hlb (m - 1) n (i + 1) (out ++ [(c + (x + y)) % 4294967296]) ((c + (x + y)) / 4294967296) (by omega) (by omega) (by simp [ho]) (by omega) (by omega) (by omega) (fun h1 h2 => by
          by_cases h3 : a.length ≤ i ∧ b.length ≤ i
          · right
            rw [← hga, ← hgb, List.getD_eq_getElem?_getD, List.getElem?_eq_none h3.1, List.getD_eq_getElem?_getD, List.getElem?_eq_none h3.2]
            simp only [Option.getD_none]; omega
          · left; omega)
        refine ⟨(c + (x + y)) % 4294967296 :: r, by rw [hr]; simp, VD.cons (by omega) (by omega) hv, ?_, by rw [List.length_cons]; omega⟩
        rw [valD, hs, valD_drop a i, valD_drop b i, hga, hgb]; omega
      by_cases h1 : i < a.length
      · simp (disch := omega) only [ltB_t, cond_true]; exact step
      · by_cases h2 : i < b.length
        · simp (disch := omega) only [ltB_t, ltB_f, cond_true, cond_false]; exact step
        · have : 0 < c := by omega
          simp (disch := omega) only [ltB_t, ltB_f, cond_true, cond_false]; exact step

theorem valD_lt : ∀ {l : List Int}, VD l → valD l < 4294967296 ^ l.length
  | [], _ => by simp [valD]
  | d :: r, h => by
    have ih := valD_lt h.tail
    obtain ⟨h1, h2⟩ := h d (List.mem_cons_self ..)
    rw [valD, List.length_cons, Int.pow_succ]
    generalize (4294967296 : Int) ^ r.length = p at *
    omega

theorem addSizes_eq (N : Nat) (hN : 4000000 ≤ N) {a b : List Int} (ha : VD a) (hb : VD b) (hla : a.length ≤ 1000000) (hlb : b.length ≤ 1000000) : ∃ r, F170 N a b = some r ∧ VD r ∧ valD r = valD a + valD b ∧ r.length ≤ 2000002 := by
  unfold F170 F170.b
  obtain ⟨r, hr, hv, hs, hl⟩ := add_loop N ha hb hla hlb (a.length + b.length + 2) N 0 [] 0 (by omega) (by omega) rfl (by omega) (by omega) (by omega) (fun _ _ => .inr rfl)
  exact ⟨r, hr, hv, by simpa using hs, by omega⟩

theorem sub_loop (N : Nat) {a b : List Int} (ha : VD a) (hb : VD b) (hla : a.length ≤ 1000000) : ∀ (m n i : Nat) (out : List Int) (c : Int), a.length - i ≤ m → m < n → out.length = i → i ≤ a.length → 0 ≤ c → c ≤ 1 → 0 ≤ valD (a.drop i) - valD (b.drop i) - c →
    ∃ r, F172.l4 N n a b out c (i : Int) = some (out ++ r) ∧ VD r ∧ valD r = valD (a.drop i) - valD (b.drop i) - c ∧ r.length ≤ m
  | m, 0, i, out, c, _, hn, _, _, _, _, _ => by omega
  | m, n + 1, i, out, c, hm, hn, ho, hi, hc0, hc1, hz => by
    unfold F172.l4 F172.l4b
    by_cases h1 : i < a.length
    · obtain ⟨ga0, ga1⟩ := ha.getD i
      obtain ⟨gb0, gb1⟩ := hb.getD i
      rw [valD_drop a i, valD_drop b i] at *
      simp only [digit_eq, Option.bind_some, Int.toNat_natCast]
      generalize hga : a.getD i 0 = x at *
      generalize hgb : b.getD i 0 = y at *
      rw [W_u64 (x := y + c) (by omega) (by omega), W_u64 (x := x + 4294967296) (by omega) (by omega)]
      by_cases hlt : x < y + c
      · rw [W_u64 (x := x + 4294967296 - (y + c)) (by omega) (by omega)]
        simp (disch := omega) only [ltB_t, ltB_f, leB_t, leB_f, eqB_t, eqB_f, inb_t, small_t, okMake_t, okCut_t, W_i64, W_u64, cond_true, cond_false, Bool.not_true, Bool.not_false, Option.bind_some, Int.toNat_natCast, Int.toNat_zero, natCast_succ', List.length_append, List.length_singleton, List.length_set, List.length_replicate, List.length_cons, List.length_nil, hga, hgb]
        obtain ⟨r, hr, hv, hs, hrl⟩ := sub_loop N ha hb hla (m - 1) n (i + 1) (out ++ [x + 4294967296 - (y + c)]) 1 (by omega) (by omega) (by simp [ho]) (by omega) (by omega) (by omega) (by omega)
        refine ⟨(x + 4294967296 - (y + c)) :: r, by rw [hr]; simp, VD.cons (by omega) (by omega) hv, by rw [valD, hs]; omega, by rw [List.length_cons]; omega⟩
      · rw [W_u64 (x := x - (y + c)) (by omega) (by omega)]
        simp (disch := omega) only [ltB_t, ltB_f, leB_t, leB_f, eqB_t, eqB_f, inb_t, small_t, okMake_t, okCut_t, W_i64, W_u64, cond_true, cond_false, Bool.not_true, Bool.not_false, Option.bind_some, Int.toNat_natCast, Int.toNat_zero, natCast_succ', List.length_append, List.length_singleton, List.length_set, List.length_replicate, List.length_cons, List.length_nil, hga, hgb]
        obtain ⟨r, hr, hv, hs, hrl⟩ := sub_loop N ha hb hla (m - 1) n (i + 1) (out ++ [x - (y + c)]) 0 (by omega) (by omega) (by simp [ho]) (by omega) (by omega) (by omega) (by omega)
        refine ⟨(x - (y + c)) :: r, by rw [hr]; simp, VD.cons (by omega) (by omega) hv, by rw [valD, hs]; omega, by rw [List.length_cons]; omega⟩
    · simp (disch := omega) only [ltB_t, ltB_f, leB_t, leB_f, eqB_t, eqB_f, inb_t, small_t, okMake_t, okCut_t, W_i64, W_u64, cond_true, cond_false, Bool.not_true, Bool.not_false, Option.bind_some, Int.toNat_natCast, Int.toNat_zero, natCast_succ', List.length_append, List.length_singleton, List.length_set, List.length_replicate, List.length_cons, List.length_nil]
      have h0 := valD_nonneg (hb.drop i)
      rw [List.drop_of_length_le (l := a) (by omega)] at hz ⊢
      simp only [valD] at hz ⊢
      exact ⟨[], by simp, VD.nil, by simp only [valD]; omega, Nat.zero_le _⟩

theorem subSizes_eq (N : Nat) (hN : 4000000 ≤ N) {a b : List Int} (ha : VD a) (hb : VD b) (hla : a.length ≤ 1000000) (h : valD b ≤ valD a) : ∃ r, F172 N a b = some r ∧ VD r ∧ valD r = valD a - valD b ∧ r.length ≤ 1000000 := by
  unfold F172 F172.b
  obtain ⟨r, hr, hv, hs, hl⟩ := sub_loop N ha hb hla a.length N 0 [] 0 (by omega) (by omega) rfl (by omega) (by omega) (by omega) (by simp; omega)
  exact ⟨r, hr, hv, by simpa using hs, by omega⟩

theorem valD_snoc : ∀ (l : List Int) (x : Int), valD (l ++ [x]) = valD l + 4294967296 ^ l.length * x
  | [], x => by simp [valD]
  | d :: r, x => by
    rw [List.cons_append, valD, valD_snoc r x, valD, List.length_cons, Int.pow_succ, Int.mul_comm _ 4294967296, Int.mul_assoc, Int.mul_add]; omega

theorem cmp_take {a b : List Int} (ha : VD a) (hb : VD b) {k : Nat} (h1 : k < a.length) (h2 : k < b.length) (hlt : a.getD k 0 < b.getD k 0) : valD (a.take (k + 1)) < valD (b.take (k + 1)) := by
  rw [take_snoc' a h1, take_snoc' b h2, valD_snoc, valD_snoc]
  have l1 : (a.take k).length = k := by rw [List.length_take]; omega
  have l2 : (b.take k).length = k := by rw [List.length_take]; omega
  have v1 := valD_lt (ha.take k)
  have v2 := valD_nonneg (hb.take k)
  rw [l1] at *
  rw [l2]
  generalize (4294967296 : Int) ^ k = p at *
  have hp : 0 < p := by have := valD_nonneg (ha.take k); omega
  have := Int.mul_le_mul_of_nonneg_left (show a.getD k 0 + 1 ≤ b.getD k 0 by omega) (Int.le_of_lt hp)
  rw [Int.mul_add, Int.mul_one] at this
  omega

def sgn (x : Int) : Int := if x < 0 then -1 else if 0 < x then 1 else 0

theorem cmp_loop (N : Nat) {a b : List Int} (ha : VD a) (hb : VD b) (hl : a.length = b.length) (hla : a.length ≤ 1000000) : ∀ (k n : Nat), k ≤ a.length → k < n → F171.l6 N n a b ((k : Int) - 1) = some (sgn (valD (a.take k) - valD (b.take k)))
  | k, 0, _, hn => by omega
  | 0, n + 1, _, _ => by
    unfold F171.l6 F171.l6b
    simp (disch := omega) only [ltB_t, ltB_f, leB_t, leB_f, eqB_t, eqB_f, inb_t, small_t, okMake_t, okCut_t, W_i64, W_u64, cond_true, cond_false, Bool.not_true, Bool.not_false, Option.bind_some, Int.toNat_natCast, Int.toNat_zero, natCast_succ', List.length_append, List.length_singleton, List.length_set, List.length_replicate, List.length_cons, List.length_nil]
    simp [sgn, valD]
  | k + 1, n + 1, hk, hn => by
    unfold F171.l6 F171.l6b
    have e : ((k + 1 : Nat) : Int) - 1 = (k : Int) := by omega
    rw [e]
    simp (disch := omega) only [ltB_t, ltB_f, leB_t, leB_f, eqB_t, eqB_f, inb_t, small_t, okMake_t, okCut_t, W_i64, W_u64, cond_true, cond_false, Bool.not_true, Bool.not_false, Option.bind_some, Int.toNat_natCast, Int.toNat_zero, natCast_succ', List.length_append, List.length_singleton, List.length_set, List.length_replicate, List.length_cons, List.length_nil]
    by_cases h1 : a.getD k 0 < b.getD k 0
    · rw [ltB_t h1, cond_true]
      have := cmp_take ha hb (k := k) (by omega) (by omega) h1
      rw [sgn, if_pos (by omega)]
    · rw [ltB_f (by omega), cond_false]
      by_cases h2 : b.getD k 0 < a.getD k 0
      · rw [ltB_t h2, cond_true]
        have := cmp_take hb ha (k := k) (by omega) (by omega) h2
        rw [sgn, if_neg (by omega), if_pos (by omega)]
      · rw [ltB_f (by omega), cond_false, cmp_loop N ha hb hl hla k n (by omega) (by omega)]
        congr 2
        rw [take_snoc' a (by omega), take_snoc' b (by omega), valD_snoc, valD_snoc, show a.getD k 0 = b.getD k 0 from by omega, List.length_take, List.length_take, hl]
        omega

theorem cmpSizes_eq (N : Nat) (hN : 4000000 ≤ N) (m k : Nat) (hm : (dig m).length ≤ 1000000) (hk : (dig k).length ≤ 1000000) : F171 N (dig m) (dig k) = some (sgn ((m : Int) - k)) := by
  unfold F171 F171.b
  by_cases h : (dig m).length = (dig k).length
  · simp (disch := omega) only [ltB_t, ltB_f, leB_t, leB_f, eqB_t, eqB_f, inb_t, small_t, okMake_t, okCut_t, W_i64, W_u64, cond_true, cond_false, Bool.not_true, Bool.not_false, Option.bind_some, Int.toNat_natCast, Int.toNat_zero, natCast_succ', List.length_append, List.length_singleton, List.length_set, List.length_replicate, List.length_cons, List.length_nil]
    rw [cmp_loop N (dig_vd m) (dig_vd k) h hm (dig m).length N (Nat.le_refl _) (by omega), List.take_length, h, List.take_length, dig_val, dig_val]
  · rw [eqB_f (by omega), Bool.not_false, cond_true]
    by_cases hlt : (dig m).length < (dig k).length
    · rw [ltB_t (by omega), cond_true]
      have h1 := len_dig ((dig k).length - 1) m (by omega)
      have h2 : ¬ (k < 4294967296 ^ ((dig k).length - 1)) := fun h => by have := dig_len _ _ h; omega
      rw [sgn, if_pos (by omega)]
    · rw [ltB_f (by omega), cond_false]
      have h1 := len_dig ((dig m).length - 1) k (by omega)
      have h2 : ¬ (m < 4294967296 ^ ((dig m).length - 1)) := fun h => by have := dig_len _ _ h; omega
      rw [sgn, if_neg (by omega), if_pos (by omega)]
end VM
end

section
/- Plain laws: whole numbers of any size. -/
set_option linter.unusedSimpArgs false
set_option linter.unusedVariables false
namespace VM
open Go VM.F

/-- Not too many digits. -/
def Fit (v : Int) (k : Nat) : Prop := v.natAbs < 4294967296 ^ k
theorem Fit.len {v : Int} {k : Nat} (h : Fit v k) : (dig v.natAbs).length ≤ k := dig_len k _ h
theorem Fit.mono {v : Int} {j k : Nat} (h : Fit v j) (hjk : j ≤ k) : Fit v k := Nat.lt_of_lt_of_le h (Nat.pow_le_pow_right (by decide) hjk)
theorem Fit.neg {v : Int} {k : Nat} (h : Fit v k) : Fit (-v) k := by unfold Fit at *; rwa [Int.natAbs_neg]
theorem Fit.i64 {v : Int} (h0 : -9223372036854775808 ≤ v) (h1 : v < 9223372036854775808) : Fit v 2 := by 
  unfold Fit
  rw [show (4294967296 : Nat) ^ 2 = 18446744073709551616 from by decide]; omega
theorem Fit.add {u v : Int} {k : Nat} (hu : Fit u k) (hv : Fit v k) : Fit (u + v) (k + 1) := by
  unfold Fit at *
  rw [Nat.pow_succ]
  have : (u + v).natAbs ≤ u.natAbs + v.natAbs := Int.natAbs_add_le u v
  generalize 4294967296 ^ k = p at *
  omega
theorem Fit.of_le {u v : Int} {k : Nat} (hv : Fit v k) (h : u.natAbs ≤ v.natAbs) : Fit u k := Nat.lt_of_le_of_lt h hv

theorem teq_bool (a b : Bool) : teq .bool a b = (a == b) := by simp [teq]

theorem Plus_eq (N : Nat) (hN : 4000000 ≤ N) {u v : Int} (hu : Fit u 900000) (hv : Fit v 900000) : F85 N (bigN u) (bigN v) = some (bigN (u + v)) := by
  have lu := hu.len
  have lv := hv.len
  unfold F85
  simp only [bigN, teq_bool]
  by_cases hs : decide (u < 0) = decide (v < 0)
  · rw [hs, beq_self_eq_true, cond_true]
    obtain ⟨r, hr, hvd, hval, hl⟩ := addSizes_eq N hN (dig_vd u.natAbs) (dig_vd v.natAbs) (by omega) (by omega)
    simp only [hr, Option.bind_some, made_eq N _ hvd (by omega) (by omega), hval, dig_val]
    congr 1
    show bigN _ = bigN _
    congr 1
    by_cases h : v < 0
    · have : u < 0 := by simpa [h] using hs
      rw [if_pos (decide_eq_true h)]; omega
    · have : ¬ u < 0 := by simpa [h] using hs
      rw [if_neg (by simpa using h)]; omega
  · have hb : (decide (u < 0) == decide (v < 0)) = false := by simpa using hs
    rw [hb, cond_false, cmpSizes_eq N hN _ _ (by omega) (by omega), Option.bind_some]
    by_cases hc : v.natAbs ≤ u.natAbs
    · have h1 : leB 0 (sgn ((u.natAbs : Int) - v.natAbs)) = true := leB_t (by unfold sgn; split <;> (try split) <;> omega)
      obtain ⟨r, hr, hvd, hval, hl⟩ := subSizes_eq N hN (dig_vd u.natAbs) (dig_vd v.natAbs) (by omega) (by rw [dig_val, dig_val]; omega)
      simp only [h1, cond_true, hr, Option.bind_some, made_eq N _ hvd (by omega) (by omega), hval, dig_val]
      congr 1
      show bigN _ = bigN _
      congr 1
      by_cases h : u < 0
      · have : ¬ v < 0 := fun hv => hs (by simp [h, hv])
        rw [if_pos (decide_eq_true h)]; omega
      · have : v < 0 := Classical.byContradiction fun hv => hs (by simp [h, hv])
        rw [if_neg (by simpa using h)]; omega
    · have h1 : leB 0 (sgn ((u.natAbs : Int) - v.natAbs)) = false := leB_f (by unfold sgn; rw [if_pos (by omega)]; omega)
      obtain ⟨r, hr, hvd, hval, hl⟩ := subSizes_eq N hN (dig_vd v.natAbs) (dig_vd u.natAbs) (by omega) (by rw [dig_val, dig_val]; omega)
      simp only [h1, cond_false, hr, Option.bind_some, made_eq N _ hvd (by omega) (by omega), hval, dig_val]
      congr 1
      show bigN _ = bigN _
      congr 1
      by_cases h : v < 0
      · have : ¬ u < 0 := fun hu => hs (by simp [h, hu])
        rw [if_pos (decide_eq_true h)]; omega
      · have : u < 0 := Classical.byContradiction fun hu => hs (by simp [h, hu])
        rw [if_neg (by simpa using h)]; omega

theorem Turned_eq (N : Nat) (hN : 4000000 ≤ N) {u : Int} (hu : Fit u 900000) : F92 N (bigN u) = some (bigN (-u)) := by
  have lu := hu.len
  unfold F92
  simp only [bigN]
  simp only [made_eq N _ (dig_vd u.natAbs) (by omega) (by omega), Option.bind_some, dig_val]
  congr 1
  show bigN _ = bigN _
  congr 1
  by_cases h : u < 0
  · rw [decide_eq_true h, Bool.not_true, if_neg Bool.false_ne_true]; omega
  · rw [decide_eq_false h, Bool.not_false, if_pos rfl]; omega

theorem Sized_eq (N : Nat) (hN : 4000000 ≤ N) {u : Int} (hu : Fit u 900000) : F86 N (bigN u) = some (bigN u.natAbs) := by
  have lu := hu.len
  unfold F86
  simp only [bigN]
  simp only [made_eq N _ (dig_vd u.natAbs) (by omega) (by omega), Option.bind_some, dig_val, Bool.false_eq_true, if_false]
  rfl

theorem Less_eq (N : Nat) (hN : 4000000 ≤ N) {u v : Int} (hu : Fit u 900000) (hv : Fit v 900000) : F147 N (bigN u) (bigN v) = some (bigN (u - v)) := by
  unfold F147
  simp only [Turned_eq N hN hv, Option.bind_some, Plus_eq N hN hu hv.neg, Int.sub_eq_add_neg]

theorem Sign_eq (N : Nat) (u : Int) : F135 N (bigN u) = some (sgn u) := by
  unfold F135
  simp only [bigN]
  by_cases h : u = 0
  · subst h
    rw [show (0 : Int).natAbs = 0 from rfl, dig_zero]
    simp (disch := omega) only [ltB_t, ltB_f, leB_t, leB_f, eqB_t, eqB_f, inb_t, small_t, okMake_t, okCut_t, W_i64, W_u64, cond_true, cond_false, Bool.not_true, Bool.not_false, Option.bind_some, Int.toNat_natCast, Int.toNat_zero, natCast_succ', List.length_append, List.length_singleton, List.length_set, List.length_replicate, List.length_cons, List.length_nil]
    rfl
  · have : 0 < (dig u.natAbs).length := by
      apply List.length_pos_iff.2
      intro hd; rw [dig_nil] at hd; omega
    rw [eqB_f (by omega), cond_false]
    by_cases hn : u < 0
    · rw [decide_eq_true hn, cond_true, sgn, if_pos hn]
    · rw [decide_eq_false hn, cond_false, sgn, if_neg hn, if_pos (by omega)]

theorem Cmp_eq (N : Nat) (hN : 4000000 ≤ N) {u v : Int} (hu : Fit u 900000) (hv : Fit v 900000) : F130 N (bigN u) (bigN v) = some (sgn (u - v)) := by
  unfold F130
  simp only [Less_eq N hN hu hv, Option.bind_some, Sign_eq]

/-- A sum of numbers. -/
theorem sum_fit (l : List Int) (h : ∀ x ∈ l, -9223372036854775808 ≤ x ∧ x < 9223372036854775808) : -(9223372036854775808 * l.length) ≤ l.sum ∧ l.sum ≤ 9223372036854775808 * l.length := by
  induction l with
  | nil => simp
  | cons x l ih =>
    have := ih (fun y hy => h y (List.mem_cons_of_mem _ hy))
    obtain ⟨h1, h2⟩ := h x (List.mem_cons_self ..)
    rw [List.sum_cons, List.length_cons]
    omega

theorem fit_sum {v : Int} {n : Nat} (hn : n ≤ 1000000) (h0 : -(9223372036854775808 * n) ≤ v) (h1 : v ≤ 9223372036854775808 * n) : Fit v 3 := by
  unfold Fit
  rw [show (4294967296 : Nat) ^ 3 = 79228162514264337593543950336 from by decide]
  omega

theorem sum_take_succ (l : List Int) {i : Nat} (h : i < l.length) : (l.take (i + 1)).sum = (l.take i).sum + l.getD i 0 := by
  rw [take_snoc' l h]; simp

theorem bigN_zero : bigN 0 = (false, ([], ())) := by unfold bigN; rw [show (0 : Int).natAbs = 0 from rfl, dig_zero]; rfl

theorem or_split {a b : Int} (ha : 0 ≤ a) (ha1 : a < 4294967296) (hb : 0 ≤ b) (hb1 : b < 4294967296) : bitw .or .u64 a (b * 4294967296) = a + b * 4294967296 := by
  rw [bitw_or ha (by omega) (by omega) (by omega)]
  have h := Nat.two_pow_add_eq_or_of_lt (i := 32) (b := a.toNat) (by omega) b.toNat
  have e : (b * 4294967296).toNat = 2 ^ 32 * b.toNat := by omega
  rw [e, Nat.or_comm, ← h]; omega

theorem or_split' {a b : Int} (ha : 0 ≤ a) (ha1 : a < 4294967296) (hb : 0 ≤ b) (hb1 : b < 4294967296) : bitw .or .u64 (b * 4294967296) a = a + b * 4294967296 := by
  rw [bitw_or (by omega) (by omega) ha (by omega)]
  have h := Nat.two_pow_add_eq_or_of_lt (i := 32) (b := a.toNat) (by omega) b.toNat
  have e : (b * 4294967296).toNat = 2 ^ 32 * b.toNat := by omega
  rw [e, ← h]; omega

theorem shl32 {x : Int} (h0 : 0 ≤ x) : shl .u64 x 32 = x * 4294967296 := by rw [shl_u64 (by omega) (by omega)]; rfl

/-- As an int64. -/
def toI (v : Int) : Int × Bool := if -9223372036854775808 ≤ v ∧ v < 9223372036854775808 then (v, true) else (0, false)

theorem dig_two {n : Nat} (h : (dig n).length ≤ 2) : (dig n).getD 0 0 + 4294967296 * (dig n).getD 1 0 = n := by
  have h1 := valD_drop (dig n) 0
  have h2 := valD_drop (dig n) 1
  rw [List.drop_zero, dig_val] at h1
  rw [List.drop_of_length_le (l := dig n) (i := 1 + 1) h] at h2
  simp only [valD, Nat.zero_add] at h1 h2
  omega

theorem Int_eq (N : Nat) (v : Int) : F91 N (bigN v) = some (toI v) := by
  unfold F91
  simp only [bigN]
  by_cases hl : 2 < (dig v.natAbs).length
  · rw [ltB_t (by omega), cond_true, toI, if_neg]
    intro hh
    have := dig_len 2 v.natAbs (by rw [show (4294967296 : Nat) ^ 2 = 18446744073709551616 from by decide]; omega)
    omega
  · have h2 := dig_two (n := v.natAbs) (by omega)
    obtain ⟨a0, a1⟩ := (dig_vd v.natAbs).getD 0
    obtain ⟨b0, b1⟩ := (dig_vd v.natAbs).getD 1
    have e0 := digit_eq N (dig v.natAbs) 0
    have e1 := digit_eq N (dig v.natAbs) 1
    simp only [Int.natCast_zero, Int.natCast_one] at e0 e1
    rw [ltB_f (by omega), cond_false, e0, e1]
    generalize (dig v.natAbs).getD 0 0 = a at *
    generalize (dig v.natAbs).getD 1 0 = b at *
    simp only [Option.bind_some]
    rw [ltB_f (show (0 : Int) ≤ 32 by omega), cond_false, shl32 b0, W_u64 (x := b * 4294967296) (by omega) (by omega), or_split a0 a1 b0 b1]
    have ev : a + b * 4294967296 = v.natAbs := by omega
    rw [ev]
    by_cases hn : v < 0
    · rw [decide_eq_true hn, cond_true]
      by_cases hbig : 9223372036854775808 < (v.natAbs : Int)
      · rw [ltB_t hbig, cond_true, toI, if_neg (by omega)]
      · rw [ltB_f (by omega), cond_false, toI, if_pos (by omega), W_mod, W_i64_def]
        congr 2
        split <;> omega
    · rw [decide_eq_false hn, cond_false]
      by_cases hbig : 9223372036854775807 < (v.natAbs : Int)
      · rw [ltB_t hbig, cond_true, toI, if_neg (by omega)]
      · rw [ltB_f (by omega), cond_false, toI, if_pos (by omega), W_i64 (by omega) (by omega)]
        congr 2; omega
end VM
end

section
/- Plain laws: products and quotients of whole numbers. -/
set_option linter.unusedSimpArgs false
set_option linter.unusedVariables false
namespace VM
open Go VM.F

theorem valD_set : ∀ (l : List Int) (k : Nat) (x : Int), k < l.length → valD (l.set k x) = valD l + 4294967296 ^ k * (x - l.getD k 0)
  | d :: r, 0, x, _ => by simp [valD]; omega
  | d :: r, k + 1, x, h => by
    have ih := valD_set r k x (by simpa using h)
    rw [List.set_cons_succ, valD, valD, ih, List.getD_cons_succ, Int.pow_succ, Int.mul_comm (4294967296 ^ k) 4294967296, Int.mul_assoc, Int.mul_add]; omega

theorem getD_set_ne (l : List Int) {j k : Nat} (x : Int) (h : j ≠ k) : (l.set j x).getD k 0 = l.getD k 0 := by
  simp [List.getD_eq_getElem?_getD, List.getElem?_set_ne h]
theorem getD_set_eq (l : List Int) {k : Nat} (x : Int) (h : k < l.length) : (l.set k x).getD k 0 = x := by
  simp [List.getD_eq_getElem?_getD, List.getElem?_set, h]

theorem getD_ge (l : List Int) {k : Nat} (h : l.length ≤ k) : l.getD k 0 = 0 := by
  rw [List.getD_eq_getElem?_getD, List.getElem?_eq_none h]; rfl

theorem times_inner (N : Nat) (K : vtBig → vtBig → vtBig → List Int → Int → Option vtBig) {a b : List Int} (na nb : Bool) (z : vtBig) (ha : VD a) (hb : VD b) (i : Nat) (hi : i < a.length) (hla : a.length ≤ 100000) (hlb : b.length ≤ 100000) :
    ∀ (m n j : Nat) (out : List Int) (c : Int), b.length + 1 - j ≤ m → m < n → VD out → out.length = a.length + b.length + 1 → 0 ≤ c → c < 4294967296 → (j ≤ b.length → ∀ k, i + b.length ≤ k → out.getD k 0 = 0) → (b.length < j → c = 0 ∧ j = b.length + 1 ∧ ∀ k, i + b.length + 1 ≤ k → out.getD k 0 = 0) →
    ∃ out', F150.l7 N K n (na, (a, ())) (nb, (b, ())) z out (i : Int) c (j : Int) = K (na, (a, ())) (nb, (b, ())) z out' ((i + 1 : Nat) : Int) ∧ VD out' ∧ out'.length = out.length ∧
      valD out' = valD out + 4294967296 ^ i * (4294967296 ^ j * (a.getD i 0 * valD (b.drop j) + c)) ∧ ∀ k, i + 1 + b.length ≤ k → out'.getD k 0 = 0
  | m, 0, j, out, c, _, hn, _, _, _, _, _, _ => by omega
  | m, n + 1, j, out, c, hm, hn, ho, hol, hc0, hc1, hz, hz2 => by
    unfold F150.l7 F150.l7b
    by_cases hstop : b.length ≤ j ∧ c = 0
    · obtain ⟨h1, rfl⟩ := hstop
      simp (disch := omega) only [ltB_t, ltB_f, leB_t, leB_f, eqB_t, eqB_f, inb_t, small_t, okMake_t, okCut_t, W_i64, W_u64, cond_true, cond_false, Bool.not_true, Bool.not_false, Option.bind_some, Int.toNat_natCast, Int.toNat_zero, natCast_succ', List.length_append, List.length_singleton, List.length_set, List.length_replicate, List.length_cons, List.length_nil]
      refine ⟨out, rfl, ho, rfl, by rw [List.drop_of_length_le h1]; simp [valD], fun k hk => ?_⟩
      by_cases hj : j ≤ b.length
      · exact hz hj k (by omega)
      · exact (hz2 (by omega)).2.2 k (by omega)
    · have hjl : j ≤ b.length := by
        by_cases hj : j ≤ b.length
        · exact hj
        · exact absurd ⟨by omega, (hz2 (by omega)).1⟩ hstop
      obtain ⟨ga0, ga1⟩ := ha.getD i
      obtain ⟨gb0, gb1⟩ := hb.getD j
      obtain ⟨go0, go1⟩ := ho.getD (i + j)
      have step : ∃ out', F150.j9 N K (F150.l7 N K n) (na, (a, ())) (nb, (b, ())) z out (i : Int) c (j : Int) = K (na, (a, ())) (nb, (b, ())) z out' ((i + 1 : Nat) : Int) ∧ VD out' ∧ out'.length = out.length ∧
          valD out' = valD out + 4294967296 ^ i * (4294967296 ^ j * (a.getD i 0 * valD (b.drop j) + c)) ∧ ∀ k, i + 1 + b.length ≤ k → out'.getD k 0 = 0 := by
        unfold F150.j9 F150.j9b
        have eij : (i : Int) + (j : Int) = ((i + j : Nat) : Int) := rfl
        have hp := mul_lt (m := 4294967295) (n := 4294967295) ga0 gb0 (by omega) (by omega)
        simp only [digit_eq, Option.bind_some, eij, Int.toNat_natCast]
        simp (disch := omega) only [ltB_t, ltB_f, leB_t, leB_f, eqB_t, eqB_f, inb_t, small_t, okMake_t, okCut_t, W_i64, W_u64, cond_true, cond_false, Bool.not_true, Bool.not_false, Option.bind_some, Int.toNat_natCast, Int.toNat_zero, natCast_succ', List.length_append, List.length_singleton, List.length_set, List.length_replicate, List.length_cons, List.length_nil]
        generalize hx : out.getD (i + j) 0 = x at *
        generalize ha' : a.getD i 0 = ai at *
        generalize hb' : b.getD j 0 = bj at *
        generalize hpe : ai * bj = p at *
        have hpz : b.length ≤ j → p = 0 ∧ x = 0 := fun h => by
          rw [getD_ge b h] at hb'
          refine ⟨by rw [← hpe, ← hb', Int.mul_zero], ?_⟩
          rw [← hx]; exact hz hjl _ (by omega)
        rw [and_mask32 (by omega) (by omega), shr32]
        have hol' : (out.set (i + j) ((c + (x + p)) % 4294967296)).length = a.length + b.length + 1 := by rw [List.length_set]; exact hol
        obtain ⟨out', h1, h2, h3, h4, h5⟩ := times_inner N K na nb z ha hb i hi hla hlb (m - 1) n (j + 1) (out.set (i + j) ((c + (x + p)) % 4294967296)) ((c + (x + p)) / 4294967296) (by omega) (by omega) (ho.set _ (by omega) (by omega)) hol' (by omega) (by omega)
          (fun h k hk => by rw [getD_set_ne _ _ (by omega)]; exact hz hjl k hk)
          (fun h => by
            obtain ⟨hp0, hx0⟩ := hpz (by omega)
            refine ⟨by omega, by omega, fun k hk => ?_⟩
            rw [getD_set_ne _ _ (by omega)]; exact hz hjl k (by omega))
        refine ⟨out', h1, h2, by rw [h3, List.length_set], ?_, h5⟩
        rw [h4, valD_set _ _ _ (by omega), hx, ha', valD_drop b j, hb', Int.mul_add ai, hpe, Int.pow_add, Int.pow_succ]
        have e1 : ai * (4294967296 * valD (b.drop (j + 1))) = 4294967296 * (ai * valD (b.drop (j + 1))) := Int.mul_left_comm _ _ _
        rw [e1]
        generalize ai * valD (b.drop (j + 1)) = y
        generalize (4294967296 : Int) ^ i = P
        generalize (4294967296 : Int) ^ j = R
        rw [Int.mul_assoc R, Int.mul_assoc P, Int.add_assoc, ← Int.mul_add, ← Int.mul_add]
        congr 3
        omega
      by_cases h1 : j < b.length
      · simp (disch := omega) only [ltB_t, cond_true]; exact step
      · have : 0 < c := by omega
        simp (disch := omega) only [ltB_t, ltB_f, cond_true, cond_false]; exact step

theorem times_outer (N : Nat) (hN : 4000000 ≤ N) {a b : List Int} (na nb : Bool) (z : vtBig) (ha : VD a) (hb : VD b) (hla : a.length ≤ 100000) (hlb : b.length ≤ 100000) :
    ∀ (m n i : Nat) (out : List Int), a.length - i ≤ m → m < n → i ≤ a.length → VD out → out.length = a.length + b.length + 1 → (∀ k, i + b.length ≤ k → out.getD k 0 = 0) → valD out = valD (a.take i) * valD b →
    F150.l3 N n (na, (a, ())) (nb, (b, ())) z out (i : Int) = some (bigN (if na = nb then valD a * valD b else -(valD a * valD b)))
  | m, 0, i, out, _, hn, _, _, _, _, _ => by omega
  | m, n + 1, i, out, hm, hn, hi, ho, hol, hz, hv => by
    unfold F150.l3 F150.l3b
    by_cases h1 : i < a.length
    · simp only
      rw [ltB_t (by omega), cond_true]
      obtain ⟨out', e1, e2, e3, e4, e5⟩ := times_inner N (F150.l3 N n) na nb z ha hb i h1 hla hlb (b.length + 1) N 0 out 0 (by omega) (by omega) ho hol (by omega) (by omega) (fun _ k hk => hz k hk) (fun h => by omega)
      rw [show ((0 : Nat) : Int) = 0 from rfl] at e1
      rw [e1]
      refine times_outer N hN na nb z ha hb hla hlb (m - 1) n (i + 1) out' (by omega) (by omega) (by omega) e2 (by rw [e3]; exact hol) (fun k hk => e5 k (by omega)) ?_
      rw [e4, hv, take_snoc' a h1, valD_snoc, List.length_take, Nat.min_eq_left (by omega), List.drop_zero, Int.pow_zero, Int.one_mul, Int.add_zero, Int.add_mul, Int.mul_assoc]
    · simp only
      rw [ltB_f (by omega), cond_false]
      simp only [made_eq N _ ho (by omega) (by omega), Option.bind_some]
      rw [hv, List.take_of_length_le (by omega), teq_bool]
      congr 2
      cases na <;> cases nb <;> simp

theorem Times_eq (N : Nat) (hN : 4000000 ≤ N) {u v : Int} (hu : Fit u 90000) (hv : Fit v 90000) : F150 N (bigN u) (bigN v) = some (bigN (u * v)) := by
  have lu := hu.len
  have lv := hv.len
  unfold F150 F150.b
  simp only [bigN]
  simp (disch := omega) only [ltB_t, ltB_f, leB_t, leB_f, eqB_t, eqB_f, inb_t, small_t, okMake_t, okCut_t, W_i64, W_u64, cond_true, cond_false, Bool.not_true, Bool.not_false, Option.bind_some, Int.toNat_natCast, Int.toNat_zero, natCast_succ', List.length_append, List.length_singleton, List.length_set, List.length_replicate, List.length_cons, List.length_nil]
  have e : (((dig u.natAbs).length : Int) + ((dig v.natAbs).length : Int) + 1).toNat = (dig u.natAbs).length + (dig v.natAbs).length + 1 := by omega
  have := times_outer N hN (decide (u < 0)) (decide (v < 0)) (false, ([], ())) (dig_vd u.natAbs) (dig_vd v.natAbs) (by omega) (by omega) (dig u.natAbs).length N 0 (List.replicate ((dig u.natAbs).length + (dig v.natAbs).length + 1) 0) (by omega) (by omega) (by omega) (VD.zeros _) (by simp)
    (fun k _ => by rw [List.getD_eq_getElem?_getD, List.getElem?_replicate]; split <;> rfl) (by
      have : ∀ n, valD (List.replicate n 0) = 0 := fun n => by
        induction n with
        | zero => rfl
        | succ n ih => rw [List.replicate_succ, valD, ih]; rfl
      rw [this]; simp [valD])
  rw [dig_val, dig_val] at this
  have e2 : (((dig u.natAbs).length + (dig v.natAbs).length : Nat) : Int) + 1 = (dig u.natAbs).length + (dig v.natAbs).length + 1 := by omega
  first
  | (rw [e]; refine this.trans ?_)
  | (refine (this).trans ?_)
  show some (bigN _) = some (bigN _)
  congr 2
  have key : (u.natAbs : Int) * v.natAbs = if decide (u < 0) = decide (v < 0) then u * v else -(u * v) := by
    by_cases h1 : u < 0 <;> by_cases h2 : v < 0
    · rw [if_pos (by simp [h1, h2]), show (u.natAbs : Int) = -u from by omega, show (v.natAbs : Int) = -v from by omega, Int.neg_mul_neg]
    · rw [if_neg (by simp [h1, h2]), show (u.natAbs : Int) = -u from by omega, show (v.natAbs : Int) = v from by omega, Int.neg_mul]
    · rw [if_neg (by simp [h1, h2]), show (u.natAbs : Int) = u from by omega, show (v.natAbs : Int) = -v from by omega, Int.mul_neg]
    · rw [if_pos (by simp [h1, h2]), show (u.natAbs : Int) = u from by omega, show (v.natAbs : Int) = v from by omega]
  rw [key]
  split <;> simp
end VM
end

