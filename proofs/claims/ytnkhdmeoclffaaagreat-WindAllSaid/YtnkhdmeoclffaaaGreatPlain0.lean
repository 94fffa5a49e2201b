/- A part of the proof of WindAll, of layer 21: what the functions compute, in plain words. -/
import Derived.Test.YtnkhdmeoclffaaaGreatVm0
import GoSem.Claim
import Derived.Test.YtnkhdmeoclffaaaGreatText
set_option linter.all false
section
/- Plain laws on numbers. -/
namespace VM
open Go

theorem W_mod (x : Int) : W .u64 x = x % 18446744073709551616 := by rw [W_eq]; simp [IntKind.wrap, IntKind.bits, IntKind.signed]
theorem W_u64 {x : Int} (h0 : 0 ≤ x) (h1 : x < 18446744073709551616) : W .u64 x = x := by rw [W_mod]; omega
theorem W_i64_def (x : Int) : W .i64 x = if 9223372036854775808 ≤ x % 18446744073709551616 then x % 18446744073709551616 - 18446744073709551616 else x % 18446744073709551616 := by
  rw [W_eq]; simp [IntKind.wrap, IntKind.bits, IntKind.signed]
theorem W_i64 {x : Int} (h0 : -9223372036854775808 ≤ x) (h1 : x < 9223372036854775808) : W .i64 x = x := by
  rw [W_i64_def]; split <;> omega
theorem wf_i64 {x : Int} : (Lit.int .i64 x).wf = true ↔ -9223372036854775808 ≤ x ∧ x ≤ 9223372036854775807 := by simp [Lit.wf, IntKind.min, IntKind.max, IntKind.bits, IntKind.signed]
theorem ltB_t {x y : Int} (h : x < y) : ltB x y = true := by rw [ltB_eq]; exact decide_eq_true h
theorem ltB_f {x y : Int} (h : y ≤ x) : ltB x y = false := by rw [ltB_eq]; exact decide_eq_false (by omega)
theorem leB_t {x y : Int} (h : x ≤ y) : leB x y = true := by rw [leB_eq]; exact decide_eq_true h
theorem leB_f {x y : Int} (h : y < x) : leB x y = false := by rw [leB_eq]; exact decide_eq_false (by omega)
theorem eqB_t {x y : Int} (h : x = y) : eqB x y = true := by rw [eqB_eq]; exact decide_eq_true h
theorem eqB_f {x y : Int} (h : x ≠ y) : eqB x y = false := by rw [eqB_eq]; exact decide_eq_false h
theorem inb_t {i : Int} {n : Nat} (h0 : 0 ≤ i) (h1 : i < n) : inb i n = true := by rw [inb_eq]; exact decide_eq_true ⟨h0, h1⟩
theorem small_t {n : Nat} (h : n < 68719476736) : small n = true := by rw [small_eq]; exact decide_eq_true (by simpa [big] using h)

theorem okMake_t {l c : Int} (h0 : 0 ≤ l) (h1 : l ≤ c) (h2 : c < 68719476736) : okMake l c = true := by rw [okMake_eq]; exact decide_eq_true (by simp only [big]; omega)
theorem okCut_t {l h m n : Int} (h0 : 0 ≤ l) (h1 : l ≤ h) (h2 : h ≤ m) (h3 : m ≤ n) : okCut l h m n = true := by rw [okCut_eq]; exact decide_eq_true ⟨h0, h1, h2, h3⟩
theorem natCast_succ' (n : Nat) : (n : Int) + 1 = ((n + 1 : Nat) : Int) := rfl

/-! ### Bits -/
theorem ofInt_toNat (x : Int) (h0 : 0 ≤ x) (h1 : x < 18446744073709551616) : (BitVec.ofInt 64 x).toNat = x.toNat := by
  rw [BitVec.toNat_ofInt]; congr 1; omega

theorem bitw_and {x y : Int} (hx : 0 ≤ x) (hx1 : x < 18446744073709551616) (hy : 0 ≤ y) (hy1 : y < 18446744073709551616) : bitw .and .u64 x y = ((x.toNat &&& y.toNat : Nat) : Int) := by
  rw [bitw_eq]
  have h : ((BitVec.ofInt 64 x &&& BitVec.ofInt 64 y).toNat) = x.toNat &&& y.toNat := by rw [BitVec.toNat_and, ofInt_toNat x hx hx1, ofInt_toNat y hy hy1]
  show IntKind.u64.wrap (((BitVec.ofInt 64 x &&& BitVec.ofInt 64 y).toNat : Nat) : Int) = _
  rw [h, ← W_eq]
  have : x.toNat &&& y.toNat ≤ x.toNat := Nat.and_le_left
  exact W_u64 (by omega) (by omega)

theorem bitw_or {x y : Int} (hx : 0 ≤ x) (hx1 : x < 18446744073709551616) (hy : 0 ≤ y) (hy1 : y < 18446744073709551616) : bitw .or .u64 x y = ((x.toNat ||| y.toNat : Nat) : Int) := by
  rw [bitw_eq]
  have h : ((BitVec.ofInt 64 x ||| BitVec.ofInt 64 y).toNat) = x.toNat ||| y.toNat := by rw [BitVec.toNat_or, ofInt_toNat x hx hx1, ofInt_toNat y hy hy1]
  show IntKind.u64.wrap (((BitVec.ofInt 64 x ||| BitVec.ofInt 64 y).toNat : Nat) : Int) = _
  rw [h, ← W_eq]
  have : x.toNat ||| y.toNat < 2 ^ 64 := Nat.or_lt_two_pow (by omega) (by omega)
  exact W_u64 (by omega) (by omega)

theorem and_mask32 {x : Int} (h0 : 0 ≤ x) (h1 : x < 18446744073709551616) : bitw .and .u64 x 4294967295 = x % 4294967296 := by
  rw [bitw_and h0 h1 (by omega) (by omega)]
  have := Nat.and_two_pow_sub_one_eq_mod x.toNat 32
  rw [show ((4294967295 : Int).toNat) = 2 ^ 32 - 1 from rfl, this]
  omega

theorem shr_u64 {x y : Int} (h0 : 0 ≤ y) (h1 : y ≤ 64) : shr .u64 x y = x / 2 ^ y.toNat := by
  rw [shr_eq]
  have : min y.toNat IntKind.u64.bits = y.toNat := by simp [IntKind.bits]; omega
  rw [this, Int.fdiv_eq_ediv_of_nonneg]
  exact_mod_cast Nat.zero_le _
theorem shr32 (x : Int) : shr .u64 x 32 = x / 4294967296 := by rw [shr_u64 (by omega) (by omega)]; rfl
theorem shr_i64_63 {x : Int} (h0 : -9223372036854775808 ≤ x) (h1 : x < 9223372036854775808) : shr .i64 x 63 = if x < 0 then -1 else 0 := by
  rw [shr_eq]
  have : (2 : Int) ^ (min (63 : Int).toNat IntKind.i64.bits) = 9223372036854775808 := by rfl
  rw [this, Int.fdiv_eq_ediv_of_nonneg _ (by omega)]
  split <;> omega
theorem shl_u64 {x y : Int} (h0 : 0 ≤ y) (h1 : y ≤ 64) : shl .u64 x y = x * 2 ^ y.toNat := by
  rw [shl_eq]
  have : min y.toNat IntKind.u64.bits = y.toNat := by simp [IntKind.bits]; omega
  rw [this]

theorem mul_lt {a b m n : Int} (ha : 0 ≤ a) (hb : 0 ≤ b) (ham : a ≤ m) (hbn : b ≤ n) : 0 ≤ a * b ∧ a * b ≤ m * n :=
  ⟨Int.mul_nonneg ha hb, Int.le_trans (Int.mul_le_mul_of_nonneg_right ham hb) (Int.mul_le_mul_of_nonneg_left hbn (by omega))⟩

end VM
end

section
/- Plain laws: numbers of two words. -/
namespace VM
open Go VM.F

theorem mul_split (a b : Int) : a * b = (a / 4294967296) * (b / 4294967296) * 18446744073709551616 + ((a / 4294967296) * (b % 4294967296) + (a % 4294967296) * (b / 4294967296)) * 4294967296 + (a % 4294967296) * (b % 4294967296) := by
  have ha : a = (a / 4294967296) * 4294967296 + a % 4294967296 := by omega
  have hb : b = (b / 4294967296) * 4294967296 + b % 4294967296 := by omega
  generalize a / 4294967296 = a1 at *
  generalize a % 4294967296 = a0 at *
  generalize b / 4294967296 = b1 at *
  generalize b % 4294967296 = b0 at *
  subst ha; subst hb
  simp only [Int.add_mul, Int.mul_add]
  have e1 : a1 * 4294967296 * (b1 * 4294967296) = a1 * b1 * 18446744073709551616 := by
    rw [Int.mul_assoc, Int.mul_left_comm 4294967296, ← Int.mul_assoc]; rfl
  have e2 : a1 * 4294967296 * b0 = a1 * b0 * 4294967296 := by rw [Int.mul_assoc, Int.mul_comm 4294967296, ← Int.mul_assoc]
  have e3 : a0 * (b1 * 4294967296) = a0 * b1 * 4294967296 := by rw [← Int.mul_assoc]
  rw [e1, e2, e3]; omega

theorem Mul64_eq (N : Nat) {a b : Int} (ha : 0 ≤ a) (ha1 : a < 18446744073709551616) (hb : 0 ≤ b) (hb1 : b < 18446744073709551616) :
    bits_Mul64 N a b = some (a * b / 18446744073709551616, a * b % 18446744073709551616) := by
  unfold bits_Mul64
  have hm := mul_split a b
  have h1 := mul_lt (m := 4294967295) (n := 4294967295) (show 0 ≤ a / 4294967296 by omega) (show 0 ≤ b / 4294967296 by omega) (by omega) (by omega)
  have h2 := mul_lt (m := 4294967295) (n := 4294967295) (show 0 ≤ a / 4294967296 by omega) (show 0 ≤ b % 4294967296 by omega) (by omega) (by omega)
  have h3 := mul_lt (m := 4294967295) (n := 4294967295) (show 0 ≤ a % 4294967296 by omega) (show 0 ≤ b / 4294967296 by omega) (by omega) (by omega)
  have h4 := mul_lt (m := 4294967295) (n := 4294967295) (show 0 ≤ a % 4294967296 by omega) (show 0 ≤ b % 4294967296 by omega) (by omega) (by omega)
  simp only [ltB_f (show (0 : Int) ≤ 32 by omega), cond_false, and_mask32 ha ha1, and_mask32 hb hb1, shr32]
  generalize a / 4294967296 = a1 at *
  generalize a % 4294967296 = a0 at *
  generalize b / 4294967296 = b1 at *
  generalize b % 4294967296 = b0 at *
  generalize a * b = ab at *
  generalize a1 * b1 = p at *
  generalize a1 * b0 = q at *
  generalize a0 * b1 = r at *
  generalize a0 * b0 = s at *
  rw [W_u64 (x := q) (by omega) (by omega), W_u64 (x := s) (by omega) (by omega), W_u64 (x := r) (by omega) (by omega), W_u64 (x := p) (by omega) (by omega), W_u64 (x := q + s / 4294967296) (by omega) (by omega),
    and_mask32 (by omega) (by omega), W_u64 (x := (q + s / 4294967296) % 4294967296 + r) (by omega) (by omega), W_u64 (x := p + (q + s / 4294967296) / 4294967296) (by omega) (by omega), W_u64 (x := p + (q + s / 4294967296) / 4294967296 + _) (by omega) (by omega), W_mod]
  congr 2
  omega

end VM
end

section
/- Plain laws: the program's numbers of two words. -/
set_option linter.unusedSimpArgs false
set_option linter.unusedVariables false
namespace VM
open Go VM.F

theorem Size_eq (N : Nat) {x : Int} (h0 : -9223372036854775808 ≤ x) (h1 : x < 9223372036854775808) : amount_Size N x = some (x.natAbs : Int) := by
  unfold amount_Size
  by_cases h : x < 0
  · rw [ltB_t h, cond_true, W_mod, W_mod]; congr 1; omega
  · rw [ltB_f (by omega), cond_false, W_mod]; congr 1; omega

theorem add64_eq (N : Nat) {x y c : Int} (hx : 0 ≤ x) (hy : 0 ≤ y) (hc : 0 ≤ c) (hc1 : c ≤ 1) : add64 N x y c = some ((x + y + c) % 18446744073709551616, (x + y + c) / 18446744073709551616) := by
  unfold add64; rw [if_pos ⟨hx, hy, hc, hc1⟩]
theorem sub64_eq (N : Nat) {x y c : Int} (hx : 0 ≤ x) (hx1 : x < 18446744073709551616) (hy : 0 ≤ y) (hy1 : y < 18446744073709551616) (hc : 0 ≤ c) (hc1 : c ≤ 1) :
    sub64 N x y c = some ((x - y - c) % 18446744073709551616, if x < y + c then 1 else 0) := by
  unfold sub64; rw [if_pos ⟨hx, hx1, hy, hy1, hc, hc1⟩]; congr 2; omega

end VM
end

section
/- Plain laws: bits.Div64. -/
set_option linter.unusedSimpArgs false
set_option linter.unusedVariables false
namespace VM
open Go VM.F

/-- What a guessed digit keeps. -/
structure Guess (Y yn1 yn0 un32 un1 q rh : Int) : Prop where
  hY : Y = yn1 * 4294967296 + yn0
  y1 : 2147483648 ≤ yn1
  y1' : yn1 < 4294967296
  y0 : 0 ≤ yn0
  y0' : yn0 < 4294967296
  u1 : 0 ≤ un1
  u1' : un1 < 4294967296
  lt : un32 < Y
  q0 : 0 ≤ q
  eq : q * yn1 + rh = un32
  r0 : 0 ≤ rh
  q1 : q ≤ 4294967297
  ge : (un32 * 4294967296 + un1) / Y ≤ q

/-- The first guess. -/
theorem Guess.first {Y yn1 yn0 un32 un1 : Int} (hY : Y = yn1 * 4294967296 + yn0) (y1 : 2147483648 ≤ yn1) (y1' : yn1 < 4294967296) (y0 : 0 ≤ yn0) (y0' : yn0 < 4294967296) (u1 : 0 ≤ un1) (u1' : un1 < 4294967296) (hu : 0 ≤ un32) (lt : un32 < Y) :
    Guess Y yn1 yn0 un32 un1 (un32 / yn1) (un32 - un32 / yn1 * yn1) ∧ un32 - un32 / yn1 * yn1 < 4294967296 ∧ 0 ≤ un32 / yn1 * yn1 ∧ un32 / yn1 * yn1 ≤ un32 := by
  have h1 := Int.mul_ediv_add_emod un32 yn1
  have h2 := Int.emod_lt_of_pos un32 (show 0 < yn1 by omega)
  have h3 := Int.emod_nonneg un32 (show yn1 ≠ 0 by omega)
  have hq0 : 0 ≤ un32 / yn1 := Int.ediv_nonneg hu (by omega)
  rw [Int.mul_comm] at h1
  have hq1 : un32 / yn1 ≤ 4294967297 := by
    have : un32 / yn1 < 4294967298 := by rw [Int.ediv_lt_iff_lt_mul (by omega)]; omega
    omega
  have hge : (un32 * 4294967296 + un1) / Y ≤ un32 / yn1 := by
    have hlt : un32 * 4294967296 + un1 < (un32 / yn1 + 1) * Y := by
      have e : un32 + 1 ≤ (un32 / yn1 + 1) * yn1 := by rw [Int.add_mul, Int.one_mul]; omega
      have e2 : (un32 / yn1 + 1) * Y = (un32 / yn1 + 1) * yn1 * 4294967296 + (un32 / yn1 + 1) * yn0 := by rw [hY, Int.mul_add, Int.mul_assoc]
      have e3 : 0 ≤ (un32 / yn1 + 1) * yn0 := Int.mul_nonneg (by omega) y0
      omega
    have : (un32 * 4294967296 + un1) / Y < un32 / yn1 + 1 := by rw [Int.ediv_lt_iff_lt_mul (by omega)]; exact hlt
    omega
  exact ⟨⟨hY, y1, y1', y0, y0', u1, u1', lt, hq0, by omega, by omega, hq1, hge⟩, by omega, Int.mul_nonneg hq0 (by omega), by omega⟩

end VM
end

section
/- Plain laws: numbers by digits of 32 bits. -/
set_option linter.unusedSimpArgs false
set_option linter.unusedVariables false
namespace VM
open Go VM.F

def valD : List Int → Int
  | [] => 0
  | d :: r => d + 4294967296 * valD r
def VD (l : List Int) : Prop := ∀ d ∈ l, 0 ≤ d ∧ d < 4294967296

def dig (n : Nat) : List Int := if n = 0 then [] else ((n % 4294967296 : Nat) : Int) :: dig (n / 4294967296)
termination_by n
decreasing_by omega

theorem dig_zero : dig 0 = [] := by rw [dig]; rfl
theorem dig_pos {n : Nat} (h : n ≠ 0) : dig n = ((n % 4294967296 : Nat) : Int) :: dig (n / 4294967296) := by rw [dig]; simp [h]

theorem VD.nil : VD [] := fun d h => by cases h
theorem VD.cons {d : Int} {l : List Int} (h0 : 0 ≤ d) (h1 : d < 4294967296) (h : VD l) : VD (d :: l) := fun x hx => by
  rcases List.mem_cons.1 hx with rfl | hx
  · exact ⟨h0, h1⟩
  · exact h x hx
theorem VD.tail {d : Int} {l : List Int} (h : VD (d :: l)) : VD l := fun x hx => h x (List.mem_cons_of_mem _ hx)
theorem VD.drop {l : List Int} (h : VD l) (n : Nat) : VD (l.drop n) := fun x hx => h x (List.mem_of_mem_drop hx)
theorem VD.take {l : List Int} (h : VD l) (n : Nat) : VD (l.take n) := fun x hx => h x (List.mem_of_mem_take hx)
theorem VD.getD {l : List Int} (h : VD l) (n : Nat) : 0 ≤ l.getD n 0 ∧ l.getD n 0 < 4294967296 := by
  rw [List.getD_eq_getElem?_getD]
  cases hn : l[n]? with
  | none => exact ⟨Int.le_refl _, by decide⟩
  | some x => exact h x (List.mem_of_getElem? hn)
theorem VD.set {l : List Int} (h : VD l) (n : Nat) {x : Int} (h0 : 0 ≤ x) (h1 : x < 4294967296) : VD (l.set n x) := fun y hy => by
  rcases List.mem_or_eq_of_mem_set hy with hy | rfl
  · exact h y hy
  · exact ⟨h0, h1⟩
theorem VD.zeros (n : Nat) : VD (List.replicate n 0) := fun x hx => by rw [List.eq_of_mem_replicate hx]; exact ⟨Int.le_refl _, by decide⟩

theorem valD_nonneg : ∀ {l : List Int}, VD l → 0 ≤ valD l
  | [], _ => Int.le_refl _
  | d :: r, h => by
    have := valD_nonneg h.tail
    have := (h d (List.mem_cons_self ..)).1
    simp only [valD]; omega

theorem dig_val (n : Nat) : valD (dig n) = n := by
  induction n using Nat.strongRecOn with
  | _ n ih =>
    by_cases h : n = 0
    · subst h; rw [dig_zero]; rfl
    · rw [dig_pos h, valD, ih _ (by omega)]; omega

theorem dig_vd (n : Nat) : VD (dig n) := by
  induction n using Nat.strongRecOn with
  | _ n ih =>
    by_cases h : n = 0
    · subst h; rw [dig_zero]; exact VD.nil
    · rw [dig_pos h]; exact VD.cons (by omega) (by omega) (ih _ (by omega))

theorem dig_nil {n : Nat} : dig n = [] ↔ n = 0 := by
  constructor
  · intro h
    by_cases hn : n = 0
    · exact hn
    · rw [dig_pos hn] at h; cases h
  · rintro rfl; exact dig_zero

theorem dig_len (k : Nat) : ∀ n, n < 4294967296 ^ k → (dig n).length ≤ k := by
  induction k with
  | zero => intro n h; have : n = 0 := by simpa using h
            subst this; rw [dig_zero]; simp
  | succ k ih =>
    intro n h
    by_cases hn : n = 0
    · subst hn; rw [dig_zero]; simp
    · rw [dig_pos hn, List.length_cons]
      have := ih (n / 4294967296) (by rw [Nat.div_lt_iff_lt_mul (by omega)]; rw [Nat.pow_succ] at h; exact h)
      omega

theorem len_dig (k : Nat) : ∀ n, (dig n).length ≤ k → n < 4294967296 ^ k := by
  induction k with
  | zero =>
    intro n h
    have : dig n = [] := List.eq_nil_of_length_eq_zero (by omega)
    rw [dig_nil] at this; subst this; decide
  | succ k ih =>
    intro n h
    by_cases hn : n = 0
    · subst hn; exact Nat.pow_pos (by decide)
    · rw [dig_pos hn, List.length_cons] at h
      have := ih (n / 4294967296) (by omega)
      rw [Nat.div_lt_iff_lt_mul (by omega)] at this
      rw [Nat.pow_succ]; exact this

/-- Without the noughts at the end. -/
def strip : List Int → List Int
  | [] => []
  | d :: r => if strip r = [] ∧ d = 0 then [] else d :: strip r

theorem strip_eq : ∀ {l : List Int}, VD l → strip l = dig (valD l).toNat
  | [], _ => by rw [show (valD []).toNat = 0 from rfl, dig_zero]; rfl
  | d :: r, h => by
    have ih := strip_eq h.tail
    have h0 := valD_nonneg h.tail
    obtain ⟨h1, h2⟩ := h d (List.mem_cons_self ..)
    simp only [strip, valD, ih, dig_nil]
    split
    · rename_i hc
      obtain ⟨hc, rfl⟩ := hc
      have : valD r = 0 := by omega
      rw [this]; exact dig_zero.symm
    · rename_i hc
      have hne : (d + 4294967296 * valD r).toNat ≠ 0 := fun he => hc ⟨by omega, by omega⟩
      rw [dig_pos hne]
      congr 1
      · omega
      · congr 1; omega

theorem strip_snoc : ∀ (l : List Int) (x : Int), strip (l ++ [x]) = if x = 0 then strip l else l ++ [x]
  | [], x => by simp [strip]
  | d :: r, x => by
    simp only [List.cons_append, strip, strip_snoc r x]
    split
    · rfl
    · simp

theorem take_snoc' (l : List Int) {k : Nat} (h : k < l.length) : l.take (k + 1) = l.take k ++ [l.getD k 0] := by
  rw [List.take_succ_eq_append_getElem h, List.getD_eq_getElem?_getD, List.getElem?_eq_getElem h]; rfl

theorem trim_loop (N : Nat) (l : List Int) (hl : l.length < 68719476736) : ∀ (k n : Nat), k ≤ l.length → k < n → novationref1_trim.l2 N n l (k : Int) = some (strip (l.take k))
  | 0, n + 1, _, _ => by
    unfold novationref1_trim.l2 novationref1_trim.l2b
    simp (disch := omega) only [ltB_t, ltB_f, leB_t, leB_f, eqB_t, eqB_f, inb_t, small_t, okMake_t, okCut_t, W_i64, W_u64, cond_true, cond_false, Bool.not_true, Bool.not_false, Option.bind_some, Int.toNat_natCast, Int.toNat_zero, natCast_succ', List.length_append, List.length_singleton, List.length_set, List.length_replicate, List.length_cons, List.length_nil]
    simp [strip]
  | k + 1, n + 1, hk, hn => by
    unfold novationref1_trim.l2 novationref1_trim.l2b
    have e : ((k + 1 : Nat) : Int) - 1 = (k : Int) := by omega
    simp (disch := omega) only [ltB_t, ltB_f, leB_t, leB_f, eqB_t, eqB_f, inb_t, small_t, okMake_t, okCut_t, W_i64, W_u64, cond_true, cond_false, Bool.not_true, Bool.not_false, Option.bind_some, Int.toNat_natCast, Int.toNat_zero, natCast_succ', List.length_append, List.length_singleton, List.length_set, List.length_replicate, List.length_cons, List.length_nil, e]
    have ih := trim_loop N l hl k n (by omega) (by omega)
    rw [take_snoc' l (by omega), strip_snoc]
    by_cases h : l.getD k 0 = 0
    · rw [eqB_t h, cond_true, ih, if_pos h]
    · rw [eqB_f h, cond_false, if_neg h]
      simp only [Int.toNat_zero, List.drop_zero]

theorem trim_eq (N : Nat) {l : List Int} (h : VD l) (hN : l.length < N) (hl : l.length < 68719476736) : novationref1_trim N l = some (dig (valD l).toNat) := by
  unfold novationref1_trim novationref1_trim.b
  rw [trim_loop N l hl l.length N (Nat.le_refl _) hN, List.take_length, strip_eq h]

/-- A whole number. -/
def bigN (v : Int) : Ty.den tBig := (decide (v < 0), (dig v.natAbs, ()))

theorem made_eq (N : Nat) (neg : Bool) {l : List Int} (h : VD l) (hN : l.length < N) (hl : l.length < 68719476736) : novationref1_made N neg l = some (bigN (if neg then -valD l else valD l)) := by
  unfold novationref1_made
  rw [trim_eq N h hN hl, Option.bind_some]
  have h0 := valD_nonneg h
  cases neg
  · simp only [cond_false, bigN, Bool.false_eq_true, if_false]
    rw [decide_eq_false (by omega)]
    congr 4; omega
  · simp only [cond_true, bigN, if_true]
    have e : (-valD l).natAbs = (valD l).toNat := by omega
    rw [e]
    congr 2
    by_cases hz : valD l = 0
    · rw [hz, Int.toNat_zero, dig_zero, ltB_f (by simp), decide_eq_false (by omega)]
    · have : 0 < (dig (valD l).toNat).length := by
        apply List.length_pos_iff.2
        intro hd; rw [dig_nil] at hd; omega
      rw [ltB_t (by omega), decide_eq_true (by omega)]

theorem size_eq (N : Nat) (hN : 1000 ≤ N) {u : Int} (h0 : 0 ≤ u) (h1 : u < 18446744073709551616) : novationref1_size N u = some (dig u.toNat) := by
  unfold novationref1_size
  rw [and_mask32 h0 h1, shr32]
  have hv : VD [u % 4294967296, u / 4294967296] := VD.cons (by omega) (by omega) (VD.cons (by omega) (by omega) VD.nil)
  simp (disch := omega) only [ltB_t, ltB_f, leB_t, leB_f, eqB_t, eqB_f, inb_t, small_t, okMake_t, okCut_t, W_i64, W_u64, cond_true, cond_false, Bool.not_true, Bool.not_false, Option.bind_some, Int.toNat_natCast, Int.toNat_zero, natCast_succ', List.length_append, List.length_singleton, List.length_set, List.length_replicate, List.length_cons, List.length_nil, trim_eq N hv (by simp; omega) (by simp)]
  congr 2
  simp only [valD]; omega

theorem Whole_eq (N : Nat) (hN : 1000 ≤ N) {x : Int} (h0 : -9223372036854775808 ≤ x) (h1 : x < 9223372036854775808) : novationref1_Whole N x = some (bigN x) := by
  unfold novationref1_Whole
  have hd : ∀ n : Nat, n < 18446744073709551616 → (dig n).length ≤ 2 := fun n h => dig_len 2 n (by simpa using h)
  by_cases h : x < 0
  · have e : W .u64 (0 - W .u64 x) = -x := by rw [W_mod, W_mod]; omega
    simp only [ltB_t h, cond_true, e, size_eq N hN (show 0 ≤ -x by omega) (by omega), Option.bind_some]
    have := hd (-x).toNat (by omega)
    rw [made_eq N true (dig_vd _) (by omega) (by omega), dig_val, if_pos rfl, show -(((-x).toNat : Nat) : Int) = x from by omega]; rfl
  · have e : W .u64 x = x := W_u64 (by omega) (by omega)
    simp only [ltB_f (show 0 ≤ x by omega), cond_false, e, size_eq N hN (show 0 ≤ x by omega) (by omega), Option.bind_some]
    have := hd x.toNat (by omega)
    rw [made_eq N false (dig_vd _) (by omega) (by omega), dig_val, if_neg Bool.false_ne_true, Int.toNat_of_nonneg (by omega)]; rfl

theorem digit_eq (N : Nat) (l : List Int) (i : Nat) : novationref1_digit N l (i : Int) = some (l.getD i 0) := by
  unfold novationref1_digit
  by_cases h : i < l.length
  · simp (disch := omega) only [ltB_t, ltB_f, leB_t, leB_f, eqB_t, eqB_f, inb_t, small_t, okMake_t, okCut_t, W_i64, W_u64, cond_true, cond_false, Bool.not_true, Bool.not_false, Option.bind_some, Int.toNat_natCast, Int.toNat_zero, natCast_succ', List.length_append, List.length_singleton, List.length_set, List.length_replicate, List.length_cons, List.length_nil]
  · simp (disch := omega) only [ltB_t, ltB_f, leB_t, leB_f, eqB_t, eqB_f, inb_t, small_t, okMake_t, okCut_t, W_i64, W_u64, cond_true, cond_false, Bool.not_true, Bool.not_false, Option.bind_some, Int.toNat_natCast, Int.toNat_zero, natCast_succ', List.length_append, List.length_singleton, List.length_set, List.length_replicate, List.length_cons, List.length_nil]
    rw [List.getD_eq_getElem?_getD, List.getElem?_eq_none (by omega)]; rfl

theorem valD_drop (l : List Int) (i : Nat) : valD (l.drop i) = l.getD i 0 + 4294967296 * valD (l.drop (i + 1)) := by
  by_cases h : i < l.length
  · rw [List.drop_eq_getElem_cons h, valD, List.getD_eq_getElem?_getD, List.getElem?_eq_getElem h]; rfl
  · rw [List.drop_of_length_le (by omega), List.drop_of_length_le (by omega), List.getD_eq_getElem?_getD, List.getElem?_eq_none (by omega)]; rfl

theorem add_loop (N : Nat) {a b : List Int} (ha : VD a) (hb : VD b) (hla : a.length ≤ 1000000) (hlb : b.length ≤ 1000000) : ∀ (m n i : Nat) (out : List Int) (c : Int), a.length + b.length + 2 - i ≤ m → m < n → out.length = i → i ≤ a.length + b.length + 1 → 0 ≤ c → c ≤ 1 → (a.length ≤ i → b.length ≤ i → i = max a.length b.length ∨ c = 0) →
    ∃ r, novationref1_addSizes.l4 N n a b out c (i : Int) = some (out ++ r) ∧ VD r ∧ valD r = valD (a.drop i) + valD (b.drop i) + c ∧ r.length ≤ m
  | m, 0, i, out, c, _, hn, _, _, _, _, _ => by omega
  | m, n + 1, i, out, c, hm, hn, ho, hi, hc0, hc1, hz => by
    unfold novationref1_addSizes.l4 novationref1_addSizes.l4b
    by_cases hstop : a.length ≤ i ∧ b.length ≤ i ∧ c = 0
    · obtain ⟨h1, h2, rfl⟩ := hstop
      simp (disch := omega) only [ltB_t, ltB_f, leB_t, leB_f, eqB_t, eqB_f, inb_t, small_t, okMake_t, okCut_t, W_i64, W_u64, cond_true, cond_false, Bool.not_true, Bool.not_false, Option.bind_some, Int.toNat_natCast, Int.toNat_zero, natCast_succ', List.length_append, List.length_singleton, List.length_set, List.length_replicate, List.length_cons, List.length_nil]
      exact ⟨[], by simp, VD.nil, by rw [List.drop_of_length_le h1, List.drop_of_length_le h2]; rfl, Nat.zero_le _⟩
    · obtain ⟨ga0, ga1⟩ := ha.getD i
      obtain ⟨gb0, gb1⟩ := hb.getD i
      have step : ∃ r, novationref1_addSizes.j6 N (novationref1_addSizes.l4 N n) a b out c (i : Int) = some (out ++ r) ∧ VD r ∧ valD r = valD (a.drop i) + valD (b.drop i) + c ∧ r.length ≤ m := by
        unfold novationref1_addSizes.j6 novationref1_addSizes.j6b
        have hil : i ≤ a.length + b.length := by
          by_cases h1 : a.length ≤ i ∧ b.length ≤ i
          · rcases hz h1.1 h1.2 with h | h
            · omega
            · exact absurd ⟨h1.1, h1.2, h⟩ hstop
          · omega
        simp only [digit_eq, Option.bind_some]
        generalize hga : a.getD i 0 = x at *
        generalize hgb : b.getD i 0 = y at *
        rw [W_u64 (x := x + y) (by omega) (by omega), W_u64 (x := c + (x + y)) (by omega) (by omega), and_mask32 (by omega) (by omega), shr32]
        simp (disch := omega) only [ltB_t, ltB_f, leB_t, leB_f, eqB_t, eqB_f, inb_t, small_t, okMake_t, okCut_t, W_i64, W_u64, cond_true, cond_false, Bool.not_true, Bool.not_false, Option.bind_some, Int.toNat_natCast, Int.toNat_zero, natCast_succ', List.length_append, List.length_singleton, List.length_set, List.length_replicate, List.length_cons, List.length_nil]
        obtain ⟨r, hr, hv, hs, hrl⟩ := add_loop N ha hb hla hlb (m - 1) n (i + 1) (out ++ [(c + (x + y)) % 4294967296]) ((c + (x + y)) / 4294967296) (by omega) (by omega) (by simp [ho]) (by omega) (by omega) (by omega) (fun h1 h2 => by
          by_cases h3 : a.length ≤ i ∧ b.length ≤ i
          · right
            rw [← hga, ← hgb, List.getD_eq_getElem?_getD, List.getElem?_eq_none h3.1, List.getD_eq_getElem?_getD, List.getElem?_eq_none h3.2]
            simp only [Option.getD_none]; omega
          · left; omega)
        refine ⟨(c + (x + y)) % 4294967296 :: r, by rw [hr]; simp, VD.cons (by omega) (by omega) hv, ?_, by rw [List.length_cons]; omega⟩
        rw [valD, hs, valD_drop a i, valD_drop b i, hga, hgb]; omega
      by_cases h1 : i < a.length
      · simp (disch := omega) only [ltB_t, cond_true]; exact step
      · by_cases h2 : i < b.length
        · simp (disch := omega) only [ltB_t, ltB_f, cond_true, cond_false]; exact step
        · have : 0 < c := by omega
          simp (disch := omega) only [ltB_t, ltB_f, cond_true, cond_false]; exact step

theorem valD_lt : ∀ {l : List Int}, VD l → valD l < 4294967296 ^ l.length
  | [], _ => by simp [valD]
  | d :: r, h => by
    have ih := valD_lt h.tail
    obtain ⟨h1, h2⟩ := h d (List.mem_cons_self ..)
    rw [valD, List.length_cons, Int.pow_succ]
    generalize (4294967296 : Int) ^ r.length = p at *
    omega

theorem addSizes_eq (N : Nat) (hN : 4000000 ≤ N) {a b : List Int} (ha : VD a) (hb : VD b) (hla : a.length ≤ 1000000) (hlb : b.length ≤ 1000000) : ∃ r, novationref1_addSizes N a b = some r ∧ VD r ∧ valD r = valD a + valD b ∧ r.length ≤ 2000002 := by
  unfold novationref1_addSizes novationref1_addSizes.b
  obtain ⟨r, hr, hv, hs, hl⟩ := add_loop N ha hb hla hlb (a.length + b.length + 2) N 0 [] 0 (by omega) (by omega) rfl (by omega) (by omega) (by omega) (fun _ _ => .inr rfl)
  exact ⟨r, hr, hv, by simpa using hs, by omega⟩

theorem sub_loop (N : Nat) {a b : List Int} (ha : VD a) (hb : VD b) (hla : a.length ≤ 1000000) : ∀ (m n i : Nat) (out : List Int) (c : Int), a.length - i ≤ m → m < n → out.length = i → i ≤ a.length → 0 ≤ c → c ≤ 1 → 0 ≤ valD (a.drop i) - valD (b.drop i) - c →
    ∃ r, novationref1_subSizes.l4 N n a b out c (i : Int) = some (out ++ r) ∧ VD r ∧ valD r = valD (a.drop i) - valD (b.drop i) - c ∧ r.length ≤ m
  | m, 0, i, out, c, _, hn, _, _, _, _, _ => by omega
  | m, n + 1, i, out, c, hm, hn, ho, hi, hc0, hc1, hz => by
    unfold novationref1_subSizes.l4 novationref1_subSizes.l4b
    by_cases h1 : i < a.length
    · obtain ⟨ga0, ga1⟩ := ha.getD i
      obtain ⟨gb0, gb1⟩ := hb.getD i
      rw [valD_drop a i, valD_drop b i] at *
      simp only [digit_eq, Option.bind_some, Int.toNat_natCast]
      generalize hga : a.getD i 0 = x at *
      generalize hgb : b.getD i 0 = y at *
      rw [W_u64 (x := y + c) (by omega) (by omega), W_u64 (x := x + 4294967296) (by omega) (by omega)]
      by_cases hlt : x < y + c
      · rw [W_u64 (x := x + 4294967296 - (y + c)) (by omega) (by omega)]
        simp (disch := omega) only [ltB_t, ltB_f, leB_t, leB_f, eqB_t, eqB_f, inb_t, small_t, okMake_t, okCut_t, W_i64, W_u64, cond_true, cond_false, Bool.not_true, Bool.not_false, Option.bind_some, Int.toNat_natCast, Int.toNat_zero, natCast_succ', List.length_append, List.length_singleton, List.length_set, List.length_replicate, List.length_cons, List.length_nil, hga, hgb]
        obtain ⟨r, hr, hv, hs, hrl⟩ := sub_loop N ha hb hla (m - 1) n (i + 1) (out ++ [x + 4294967296 - (y + c)]) 1 (by omega) (by omega) (by simp [ho]) (by omega) (by omega) (by omega) (by omega)
        refine ⟨(x + 4294967296 - (y + c)) :: r, by rw [hr]; simp, VD.cons (by omega) (by omega) hv, by rw [valD, hs]; omega, by rw [List.length_cons]; omega⟩
      · rw [W_u64 (x := x - (y + c)) (by omega) (by omega)]
        simp (disch := omega) only [ltB_t, ltB_f, leB_t, leB_f, eqB_t, eqB_f, inb_t, small_t, okMake_t, okCut_t, W_i64, W_u64, cond_true, cond_false, Bool.not_true, Bool.not_false, Option.bind_some, Int.toNat_natCast, Int.toNat_zero, natCast_succ', List.length_append, List.length_singleton, List.length_set, List.length_replicate, List.length_cons, List.length_nil, hga, hgb]
        obtain ⟨r, hr, hv, hs, hrl⟩ := sub_loop N ha hb hla (m - 1) n (i + 1) (out ++ [x - (y + c)]) 0 (by omega) (by omega) (by simp [ho]) (by omega) (by omega) (by omega) (by omega)
        refine ⟨(x - (y + c)) :: r, by rw [hr]; simp, VD.cons (by omega) (by omega) hv, by rw [valD, hs]; omega, by rw [List.length_cons]; omega⟩
    · simp (disch := omega) only [ltB_t, ltB_f, leB_t, leB_f, eqB_t, eqB_f, inb_t, small_t, okMake_t, okCut_t, W_i64, W_u64, cond_true, cond_false, Bool.not_true, Bool.not_false, Option.bind_some, Int.toNat_natCast, Int.toNat_zero, natCast_succ', List.length_append, List.length_singleton, List.length_set, List.length_replicate, List.length_cons, List.length_nil]
      have h0 := valD_nonneg (hb.drop i)
      rw [List.drop_of_length_le (l := a) (by omega)] at hz ⊢
      simp only [valD] at hz ⊢
      exact ⟨[], by simp, VD.nil, by simp only [valD]; omega, Nat.zero_le _⟩

theorem subSizes_eq (N : Nat) (hN : 4000000 ≤ N) {a b : List Int} (ha : VD a) (hb : VD b) (hla : a.length ≤ 1000000) (h : valD b ≤ valD a) : ∃ r, novationref1_subSizes N a b = some r ∧ VD r ∧ valD r = valD a - valD b ∧ r.length ≤ 1000000 := by
  unfold novationref1_subSizes novationref1_subSizes.b
  obtain ⟨r, hr, hv, hs, hl⟩ := sub_loop N ha hb hla a.length N 0 [] 0 (by omega) (by omega) rfl (by omega) (by omega) (by omega) (by simp; omega)
  exact ⟨r, hr, hv, by simpa using hs, by omega⟩

theorem valD_snoc : ∀ (l : List Int) (x : Int), valD (l ++ [x]) = valD l + 4294967296 ^ l.length * x
  | [], x => by simp [valD]
  | d :: r, x => by
    rw [List.cons_append, valD, valD_snoc r x, valD, List.length_cons, Int.pow_succ, Int.mul_comm _ 4294967296, Int.mul_assoc, Int.mul_add]; omega

theorem cmp_take {a b : List Int} (ha : VD a) (hb : VD b) {k : Nat} (h1 : k < a.length) (h2 : k < b.length) (hlt : a.getD k 0 < b.getD k 0) : valD (a.take (k + 1)) < valD (b.take (k + 1)) := by
  rw [take_snoc' a h1, take_snoc' b h2, valD_snoc, valD_snoc]
  have l1 : (a.take k).length = k := by rw [List.length_take]; omega
  have l2 : (b.take k).length = k := by rw [List.length_take]; omega
  have v1 := valD_lt (ha.take k)
  have v2 := valD_nonneg (hb.take k)
  rw [l1] at *
  rw [l2]
  generalize (4294967296 : Int) ^ k = p at *
  have hp : 0 < p := by have := valD_nonneg (ha.take k); omega
  have := Int.mul_le_mul_of_nonneg_left (show a.getD k 0 + 1 ≤ b.getD k 0 by omega) (Int.le_of_lt hp)
  rw [Int.mul_add, Int.mul_one] at this
  omega

def sgn (x : Int) : Int := if x < 0 then -1 else if 0 < x then 1 else 0

theorem cmp_loop (N : Nat) {a b : List Int} (ha : VD a) (hb : VD b) (hl : a.length = b.length) (hla : a.length ≤ 1000000) : ∀ (k n : Nat), k ≤ a.length → k < n → novationref1_cmpSizes.l6 N n a b ((k : Int) - 1) = some (sgn (valD (a.take k) - valD (b.take k)))
  | k, 0, _, hn => by omega
  | 0, n + 1, _, _ => by
    unfold novationref1_cmpSizes.l6 novationref1_cmpSizes.l6b
    simp (disch := omega) only [ltB_t, ltB_f, leB_t, leB_f, eqB_t, eqB_f, inb_t, small_t, okMake_t, okCut_t, W_i64, W_u64, cond_true, cond_false, Bool.not_true, Bool.not_false, Option.bind_some, Int.toNat_natCast, Int.toNat_zero, natCast_succ', List.length_append, List.length_singleton, List.length_set, List.length_replicate, List.length_cons, List.length_nil]
    simp [sgn, valD]
  | k + 1, n + 1, hk, hn => by
    unfold novationref1_cmpSizes.l6 novationref1_cmpSizes.l6b
    have e : ((k + 1 : Nat) : Int) - 1 = (k : Int) := by omega
    rw [e]
    simp (disch := omega) only [ltB_t, ltB_f, leB_t, leB_f, eqB_t, eqB_f, inb_t, small_t, okMake_t, okCut_t, W_i64, W_u64, cond_true, cond_false, Bool.not_true, Bool.not_false, Option.bind_some, Int.toNat_natCast, Int.toNat_zero, natCast_succ', List.length_append, List.length_singleton, List.length_set, List.length_replicate, List.length_cons, List.length_nil]
    by_cases h1 : a.getD k 0 < b.getD k 0
    · rw [ltB_t h1, cond_true]
      have := cmp_take ha hb (k := k) (by omega) (by omega) h1
      rw [sgn, if_pos (by omega)]
    · rw [ltB_f (by omega), cond_false]
      by_cases h2 : b.getD k 0 < a.getD k 0
      · rw [ltB_t h2, cond_true]
        have := cmp_take hb ha (k := k) (by omega) (by omega) h2
        rw [sgn, if_neg (by omega), if_pos (by omega)]
      · rw [ltB_f (by omega), cond_false, cmp_loop N ha hb hl hla k n (by omega) (by omega)]
        congr 2
        rw [take_snoc' a (by omega), take_snoc' b (by omega), valD_snoc, valD_snoc, show a.getD k 0 = b.getD k 0 from by omega, List.length_take, List.length_take, hl]
        omega

theorem cmpSizes_eq (N : Nat) (hN : 4000000 ≤ N) (m k : Nat) (hm : (dig m).length ≤ 1000000) (hk : (dig k).length ≤ 1000000) : novationref1_cmpSizes N (dig m) (dig k) = some (sgn ((m : Int) - k)) := by
  unfold novationref1_cmpSizes novationref1_cmpSizes.b
  by_cases h : (dig m).length = (dig k).length
  · simp (disch := omega) only [ltB_t, ltB_f, leB_t, leB_f, eqB_t, eqB_f, inb_t, small_t, okMake_t, okCut_t, W_i64, W_u64, cond_true, cond_false, Bool.not_true, Bool.not_false, Option.bind_some, Int.toNat_natCast, Int.toNat_zero, natCast_succ', List.length_append, List.length_singleton, List.length_set, List.length_replicate, List.length_cons, List.length_nil]
    rw [cmp_loop N (dig_vd m) (dig_vd k) h hm (dig m).length N (Nat.le_refl _) (by omega), List.take_length, h, List.take_length, dig_val, dig_val]
  · rw [eqB_f (by omega), Bool.not_false, cond_true]
    by_cases hlt : (dig m).length < (dig k).length
    · rw [ltB_t (by omega), cond_true]
      have h1 := len_dig ((dig k).length - 1) m (by omega)
      have h2 : ¬ (k < 4294967296 ^ ((dig k).length - 1)) := fun h => by have := dig_len _ _ h; omega
      rw [sgn, if_pos (by omega)]
    · rw [ltB_f (by omega), cond_false]
      have h1 := len_dig ((dig m).length - 1) k (by omega)
      have h2 : ¬ (m < 4294967296 ^ ((dig m).length - 1)) := fun h => by have := dig_len _ _ h; omega
      rw [sgn, if_neg (by omega), if_pos (by omega)]
end VM
end

section
/- Plain laws: whole numbers of any size. -/
set_option linter.unusedSimpArgs false
set_option linter.unusedVariables false
namespace VM
open Go VM.F

/-- Not too many digits. -/
def Fit (v : Int) (k : Nat) : Prop := v.natAbs < 4294967296 ^ k
theorem Fit.len {v : Int} {k : Nat} (h : Fit v k) : (dig v.natAbs).length ≤ k := dig_len k _ h
theorem Fit.mono {v : Int} {j k : Nat} (h : Fit v j) (hjk : j ≤ k) : Fit v k := Nat.lt_of_lt_of_le h (Nat.pow_le_pow_right (by decide) hjk)
theorem Fit.neg {v : Int} {k : Nat} (h : Fit v k) : Fit (-v) k := by unfold Fit at *; rwa [Int.natAbs_neg]
theorem Fit.i64 {v : Int} (h0 : -9223372036854775808 ≤ v) (h1 : v < 9223372036854775808) : Fit v 2 := by 
  unfold Fit
  rw [show (4294967296 : Nat) ^ 2 = 18446744073709551616 from by decide]; omega
theorem teq_bool (a b : Bool) : teq .bool a b = (a == b) := by simp [teq]

theorem Plus_eq (N : Nat) (hN : 4000000 ≤ N) {u v : Int} (hu : Fit u 900000) (hv : Fit v 900000) : novationref1_Plus N (bigN u) (bigN v) = some (bigN (u + v)) := by
  have lu := hu.len
  have lv := hv.len
  unfold novationref1_Plus
  simp only [bigN, teq_bool]
  by_cases hs : decide (u < 0) = decide (v < 0)
  · rw [hs, beq_self_eq_true, cond_true]
    obtain ⟨r, hr, hvd, hval, hl⟩ := addSizes_eq N hN (dig_vd u.natAbs) (dig_vd v.natAbs) (by omega) (by omega)
    simp only [hr, Option.bind_some, made_eq N _ hvd (by omega) (by omega), hval, dig_val]
    congr 1
    show bigN _ = bigN _
    congr 1
    by_cases h : v < 0
    · have : u < 0 := by simpa [h] using hs
      rw [if_pos (decide_eq_true h)]; omega
    · have : ¬ u < 0 := by simpa [h] using hs
      rw [if_neg (by simpa using h)]; omega
  · have hb : (decide (u < 0) == decide (v < 0)) = false := by simpa using hs
    rw [hb, cond_false, cmpSizes_eq N hN _ _ (by omega) (by omega), Option.bind_some]
    by_cases hc : v.natAbs ≤ u.natAbs
    · have h1 : leB 0 (sgn ((u.natAbs : Int) - v.natAbs)) = true := leB_t (by unfold sgn; split <;> (try split) <;> omega)
      obtain ⟨r, hr, hvd, hval, hl⟩ := subSizes_eq N hN (dig_vd u.natAbs) (dig_vd v.natAbs) (by omega) (by rw [dig_val, dig_val]; omega)
      simp only [h1, cond_true, hr, Option.bind_some, made_eq N _ hvd (by omega) (by omega), hval, dig_val]
      congr 1
      show bigN _ = bigN _
      congr 1
      by_cases h : u < 0
      · have : ¬ v < 0 := fun hv => hs (by simp [h, hv])
        rw [if_pos (decide_eq_true h)]; omega
      · have : v < 0 := Classical.byContradiction fun hv => hs (by simp [h, hv])
        rw [if_neg (by simpa using h)]; omega
    · have h1 : leB 0 (sgn ((u.natAbs : Int) - v.natAbs)) = false := leB_f (by unfold sgn; rw [if_pos (by omega)]; omega)
      obtain ⟨r, hr, hvd, hval, hl⟩ := subSizes_eq N hN (dig_vd v.natAbs) (dig_vd u.natAbs) (by omega) (by rw [dig_val, dig_val]; omega)
      simp only [h1, cond_false, hr, Option.bind_some, made_eq N _ hvd (by omega) (by omega), hval, dig_val]
      congr 1
      show bigN _ = bigN _
      congr 1
      by_cases h : v < 0
      · have : ¬ u < 0 := fun hu => hs (by simp [h, hu])
        rw [if_pos (decide_eq_true h)]; omega
      · have : u < 0 := Classical.byContradiction fun hu => hs (by simp [h, hu])
        rw [if_neg (by simpa using h)]; omega

theorem Turned_eq (N : Nat) (hN : 4000000 ≤ N) {u : Int} (hu : Fit u 900000) : novationref1_Turned N (bigN u) = some (bigN (-u)) := by
  have lu := hu.len
  unfold novationref1_Turned
  simp only [bigN]
  simp only [made_eq N _ (dig_vd u.natAbs) (by omega) (by omega), Option.bind_some, dig_val]
  congr 1
  show bigN _ = bigN _
  congr 1
  by_cases h : u < 0
  · rw [decide_eq_true h, Bool.not_true, if_neg Bool.false_ne_true]; omega
  · rw [decide_eq_false h, Bool.not_false, if_pos rfl]; omega

theorem Sized_eq (N : Nat) (hN : 4000000 ≤ N) {u : Int} (hu : Fit u 900000) : novationref1_Sized N (bigN u) = some (bigN u.natAbs) := by
  have lu := hu.len
  unfold novationref1_Sized
  simp only [bigN]
  simp only [made_eq N _ (dig_vd u.natAbs) (by omega) (by omega), Option.bind_some, dig_val, Bool.false_eq_true, if_false]
  rfl

theorem Sign_eq (N : Nat) (u : Int) : novationref1_Sign N (bigN u) = some (sgn u) := by
  unfold novationref1_Sign
  simp only [bigN]
  by_cases h : u = 0
  · subst h
    rw [show (0 : Int).natAbs = 0 from rfl, dig_zero]
    simp (disch := omega) only [ltB_t, ltB_f, leB_t, leB_f, eqB_t, eqB_f, inb_t, small_t, okMake_t, okCut_t, W_i64, W_u64, cond_true, cond_false, Bool.not_true, Bool.not_false, Option.bind_some, Int.toNat_natCast, Int.toNat_zero, natCast_succ', List.length_append, List.length_singleton, List.length_set, List.length_replicate, List.length_cons, List.length_nil]
    rfl
  · have : 0 < (dig u.natAbs).length := by
      apply List.length_pos_iff.2
      intro hd; rw [dig_nil] at hd; omega
    rw [eqB_f (by omega), cond_false]
    by_cases hn : u < 0
    · rw [decide_eq_true hn, cond_true, sgn, if_pos hn]
    · rw [decide_eq_false hn, cond_false, sgn, if_neg hn, if_pos (by omega)]

/-- A sum of numbers. -/
theorem sum_fit (l : List Int) (h : ∀ x ∈ l, -9223372036854775808 ≤ x ∧ x < 9223372036854775808) : -(9223372036854775808 * l.length) ≤ l.sum ∧ l.sum ≤ 9223372036854775808 * l.length := by
  induction l with
  | nil => simp
  | cons x l ih =>
    have := ih (fun y hy => h y (List.mem_cons_of_mem _ hy))
    obtain ⟨h1, h2⟩ := h x (List.mem_cons_self ..)
    rw [List.sum_cons, List.length_cons]
    omega

theorem fit_sum {v : Int} {n : Nat} (hn : n ≤ 1000000) (h0 : -(9223372036854775808 * n) ≤ v) (h1 : v ≤ 9223372036854775808 * n) : Fit v 3 := by
  unfold Fit
  rw [show (4294967296 : Nat) ^ 3 = 79228162514264337593543950336 from by decide]
  omega

theorem sum_take_succ (l : List Int) {i : Nat} (h : i < l.length) : (l.take (i + 1)).sum = (l.take i).sum + l.getD i 0 := by
  rw [take_snoc' l h]; simp

theorem bigN_zero : bigN 0 = (false, ([], ())) := by unfold bigN; rw [show (0 : Int).natAbs = 0 from rfl, dig_zero]; rfl

theorem or_split {a b : Int} (ha : 0 ≤ a) (ha1 : a < 4294967296) (hb : 0 ≤ b) (hb1 : b < 4294967296) : bitw .or .u64 a (b * 4294967296) = a + b * 4294967296 := by
  rw [bitw_or ha (by omega) (by omega) (by omega)]
  have h := Nat.two_pow_add_eq_or_of_lt (i := 32) (b := a.toNat) (by omega) b.toNat
  have e : (b * 4294967296).toNat = 2 ^ 32 * b.toNat := by omega
  rw [e, Nat.or_comm, ← h]; omega

theorem shl32 {x : Int} (h0 : 0 ≤ x) : shl .u64 x 32 = x * 4294967296 := by rw [shl_u64 (by omega) (by omega)]; rfl

/-- As an int64. -/
def toI (v : Int) : Int × Bool := if -9223372036854775808 ≤ v ∧ v < 9223372036854775808 then (v, true) else (0, false)

theorem dig_two {n : Nat} (h : (dig n).length ≤ 2) : (dig n).getD 0 0 + 4294967296 * (dig n).getD 1 0 = n := by
  have h1 := valD_drop (dig n) 0
  have h2 := valD_drop (dig n) 1
  rw [List.drop_zero, dig_val] at h1
  rw [List.drop_of_length_le (l := dig n) (i := 1 + 1) h] at h2
  simp only [valD, Nat.zero_add] at h1 h2
  omega

theorem Int_eq (N : Nat) (v : Int) : novationref1_Int N (bigN v) = some (toI v) := by
  unfold novationref1_Int
  simp only [bigN]
  by_cases hl : 2 < (dig v.natAbs).length
  · rw [ltB_t (by omega), cond_true, toI, if_neg]
    intro hh
    have := dig_len 2 v.natAbs (by rw [show (4294967296 : Nat) ^ 2 = 18446744073709551616 from by decide]; omega)
    omega
  · have h2 := dig_two (n := v.natAbs) (by omega)
    obtain ⟨a0, a1⟩ := (dig_vd v.natAbs).getD 0
    obtain ⟨b0, b1⟩ := (dig_vd v.natAbs).getD 1
    have e0 := digit_eq N (dig v.natAbs) 0
    have e1 := digit_eq N (dig v.natAbs) 1
    simp only [Int.natCast_zero, Int.natCast_one] at e0 e1
    rw [ltB_f (by omega), cond_false, e0, e1]
    generalize (dig v.natAbs).getD 0 0 = a at *
    generalize (dig v.natAbs).getD 1 0 = b at *
    simp only [Option.bind_some]
    rw [ltB_f (show (0 : Int) ≤ 32 by omega), cond_false, shl32 b0, W_u64 (x := b * 4294967296) (by omega) (by omega), or_split a0 a1 b0 b1]
    have ev : a + b * 4294967296 = v.natAbs := by omega
    rw [ev]
    by_cases hn : v < 0
    · rw [decide_eq_true hn, cond_true]
      by_cases hbig : 9223372036854775808 < (v.natAbs : Int)
      · rw [ltB_t hbig, cond_true, toI, if_neg (by omega)]
      · rw [ltB_f (by omega), cond_false, toI, if_pos (by omega), W_mod, W_i64_def]
        congr 2
        split <;> omega
    · rw [decide_eq_false hn, cond_false]
      by_cases hbig : 9223372036854775807 < (v.natAbs : Int)
      · rw [ltB_t hbig, cond_true, toI, if_neg (by omega)]
      · rw [ltB_f (by omega), cond_false, toI, if_pos (by omega), W_i64 (by omega) (by omega)]
        congr 2; omega
end VM
end

section
/- Plain laws: products and quotients of whole numbers. -/
set_option linter.unusedSimpArgs false
set_option linter.unusedVariables false
namespace VM
open Go VM.F

theorem valD_set : ∀ (l : List Int) (k : Nat) (x : Int), k < l.length → valD (l.set k x) = valD l + 4294967296 ^ k * (x - l.getD k 0)
  | d :: r, 0, x, _ => by simp [valD]; omega
  | d :: r, k + 1, x, h => by
    have ih := valD_set r k x (by simpa using h)
    rw [List.set_cons_succ, valD, valD, ih, List.getD_cons_succ, Int.pow_succ, Int.mul_comm (4294967296 ^ k) 4294967296, Int.mul_assoc, Int.mul_add]; omega

theorem getD_set_ne (l : List Int) {j k : Nat} (x : Int) (h : j ≠ k) : (l.set j x).getD k 0 = l.getD k 0 := by
  simp [List.getD_eq_getElem?_getD, List.getElem?_set_ne h]
theorem getD_ge (l : List Int) {k : Nat} (h : l.length ≤ k) : l.getD k 0 = 0 := by
  rw [List.getD_eq_getElem?_getD, List.getElem?_eq_none h]; rfl

theorem times_inner (N : Nat) (K : Ty.den tBig → Ty.den tBig → Ty.den tBig → List Int → Int → Option (Ty.den tBig)) {a b : List Int} (na nb : Bool) (z : Ty.den tBig) (ha : VD a) (hb : VD b) (i : Nat) (hi : i < a.length) (hla : a.length ≤ 100000) (hlb : b.length ≤ 100000) :
    ∀ (m n j : Nat) (out : List Int) (c : Int), b.length + 1 - j ≤ m → m < n → VD out → out.length = a.length + b.length + 1 → 0 ≤ c → c < 4294967296 → (j ≤ b.length → ∀ k, i + b.length ≤ k → out.getD k 0 = 0) → (b.length < j → c = 0 ∧ j = b.length + 1 ∧ ∀ k, i + b.length + 1 ≤ k → out.getD k 0 = 0) →
    ∃ out', novationref1_Times.l7 N K n (na, (a, ())) (nb, (b, ())) z out (i : Int) c (j : Int) = K (na, (a, ())) (nb, (b, ())) z out' ((i + 1 : Nat) : Int) ∧ VD out' ∧ out'.length = out.length ∧
      valD out' = valD out + 4294967296 ^ i * (4294967296 ^ j * (a.getD i 0 * valD (b.drop j) + c)) ∧ ∀ k, i + 1 + b.length ≤ k → out'.getD k 0 = 0
  | m, 0, j, out, c, _, hn, _, _, _, _, _, _ => by omega
  | m, n + 1, j, out, c, hm, hn, ho, hol, hc0, hc1, hz, hz2 => by
    unfold novationref1_Times.l7 novationref1_Times.l7b
    by_cases hstop : b.length ≤ j ∧ c = 0
    · obtain ⟨h1, rfl⟩ := hstop
      simp (disch := omega) only [ltB_t, ltB_f, leB_t, leB_f, eqB_t, eqB_f, inb_t, small_t, okMake_t, okCut_t, W_i64, W_u64, cond_true, cond_false, Bool.not_true, Bool.not_false, Option.bind_some, Int.toNat_natCast, Int.toNat_zero, natCast_succ', List.length_append, List.length_singleton, List.length_set, List.length_replicate, List.length_cons, List.length_nil]
      refine ⟨out, rfl, ho, rfl, by rw [List.drop_of_length_le h1]; simp [valD], fun k hk => ?_⟩
      by_cases hj : j ≤ b.length
      · exact hz hj k (by omega)
      · exact (hz2 (by omega)).2.2 k (by omega)
    · have hjl : j ≤ b.length := by
        by_cases hj : j ≤ b.length
        · exact hj
        · exact absurd ⟨by omega, (hz2 (by omega)).1⟩ hstop
      obtain ⟨ga0, ga1⟩ := ha.getD i
      obtain ⟨gb0, gb1⟩ := hb.getD j
      obtain ⟨go0, go1⟩ := ho.getD (i + j)
      have step : ∃ out', novationref1_Times.j9 N K (novationref1_Times.l7 N K n) (na, (a, ())) (nb, (b, ())) z out (i : Int) c (j : Int) = K (na, (a, ())) (nb, (b, ())) z out' ((i + 1 : Nat) : Int) ∧ VD out' ∧ out'.length = out.length ∧
          valD out' = valD out + 4294967296 ^ i * (4294967296 ^ j * (a.getD i 0 * valD (b.drop j) + c)) ∧ ∀ k, i + 1 + b.length ≤ k → out'.getD k 0 = 0 := by
        unfold novationref1_Times.j9 novationref1_Times.j9b
        have eij : (i : Int) + (j : Int) = ((i + j : Nat) : Int) := rfl
        have hp := mul_lt (m := 4294967295) (n := 4294967295) ga0 gb0 (by omega) (by omega)
        simp only [digit_eq, Option.bind_some, eij, Int.toNat_natCast]
        simp (disch := omega) only [ltB_t, ltB_f, leB_t, leB_f, eqB_t, eqB_f, inb_t, small_t, okMake_t, okCut_t, W_i64, W_u64, cond_true, cond_false, Bool.not_true, Bool.not_false, Option.bind_some, Int.toNat_natCast, Int.toNat_zero, natCast_succ', List.length_append, List.length_singleton, List.length_set, List.length_replicate, List.length_cons, List.length_nil]
        generalize hx : out.getD (i + j) 0 = x at *
        generalize ha' : a.getD i 0 = ai at *
        generalize hb' : b.getD j 0 = bj at *
        generalize hpe : ai * bj = p at *
        have hpz : b.length ≤ j → p = 0 ∧ x = 0 := fun h => by
          rw [getD_ge b h] at hb'
          refine ⟨by rw [← hpe, ← hb', Int.mul_zero], ?_⟩
          rw [← hx]; exact hz hjl _ (by omega)
        rw [and_mask32 (by omega) (by omega), shr32]
        have hol' : (out.set (i + j) ((c + (x + p)) % 4294967296)).length = a.length + b.length + 1 := by rw [List.length_set]; exact hol
        obtain ⟨out', h1, h2, h3, h4, h5⟩ := times_inner N K na nb z ha hb i hi hla hlb (m - 1) n (j + 1) (out.set (i + j) ((c + (x + p)) % 4294967296)) ((c + (x + p)) / 4294967296) (by omega) (by omega) (ho.set _ (by omega) (by omega)) hol' (by omega) (by omega)
          (fun h k hk => by rw [getD_set_ne _ _ (by omega)]; exact hz hjl k hk)
          (fun h => by
            obtain ⟨hp0, hx0⟩ := hpz (by omega)
            refine ⟨by omega, by omega, fun k hk => ?_⟩
            rw [getD_set_ne _ _ (by omega)]; exact hz hjl k (by omega))
        refine ⟨out', h1, h2, by rw [h3, List.length_set], ?_, h5⟩
        rw [h4, valD_set _ _ _ (by omega), hx, ha', valD_drop b j, hb', Int.mul_add ai, hpe, Int.pow_add, Int.pow_succ]
        have e1 : ai * (4294967296 * valD (b.drop (j + 1))) = 4294967296 * (ai * valD (b.drop (j + 1))) := Int.mul_left_comm _ _ _
        rw [e1]
        generalize ai * valD (b.drop (j + 1)) = y
        generalize (4294967296 : Int) ^ i = P
        generalize (4294967296 : Int) ^ j = R
        rw [Int.mul_assoc R, Int.mul_assoc P, Int.add_assoc, ← Int.mul_add, ← Int.mul_add]
        congr 3
        omega
      by_cases h1 : j < b.length
      · simp (disch := omega) only [ltB_t, cond_true]; exact step
      · have : 0 < c := by omega
        simp (disch := omega) only [ltB_t, ltB_f, cond_true, cond_false]; exact step

theorem times_outer (N : Nat) (hN : 4000000 ≤ N) {a b : List Int} (na nb : Bool) (z : Ty.den tBig) (ha : VD a) (hb : VD b) (hla : a.length ≤ 100000) (hlb : b.length ≤ 100000) :
    ∀ (m n i : Nat) (out : List Int), a.length - i ≤ m → m < n → i ≤ a.length → VD out → out.length = a.length + b.length + 1 → (∀ k, i + b.length ≤ k → out.getD k 0 = 0) → valD out = valD (a.take i) * valD b →
    novationref1_Times.l3 N n (na, (a, ())) (nb, (b, ())) z out (i : Int) = some (bigN (if na = nb then valD a * valD b else -(valD a * valD b)))
  | m, 0, i, out, _, hn, _, _, _, _, _ => by omega
  | m, n + 1, i, out, hm, hn, hi, ho, hol, hz, hv => by
    unfold novationref1_Times.l3 novationref1_Times.l3b
    by_cases h1 : i < a.length
    · simp only
      rw [ltB_t (by omega), cond_true]
      obtain ⟨out', e1, e2, e3, e4, e5⟩ := times_inner N (novationref1_Times.l3 N n) na nb z ha hb i h1 hla hlb (b.length + 1) N 0 out 0 (by omega) (by omega) ho hol (by omega) (by omega) (fun _ k hk => hz k hk) (fun h => by omega)
      rw [show ((0 : Nat) : Int) = 0 from rfl] at e1
      rw [e1]
      refine times_outer N hN na nb z ha hb hla hlb (m - 1) n (i + 1) out' (by omega) (by omega) (by omega) e2 (by rw [e3]; exact hol) (fun k hk => e5 k (by omega)) ?_
      rw [e4, hv, take_snoc' a h1, valD_snoc, List.length_take, Nat.min_eq_left (by omega), List.drop_zero, Int.pow_zero, Int.one_mul, Int.add_zero, Int.add_mul, Int.mul_assoc]
    · simp only
      rw [ltB_f (by omega), cond_false]
      simp only [made_eq N _ ho (by omega) (by omega), Option.bind_some]
      rw [hv, List.take_of_length_le (by omega), teq_bool]
      congr 2
      cases na <;> cases nb <;> simp

theorem Times_eq (N : Nat) (hN : 4000000 ≤ N) {u v : Int} (hu : Fit u 90000) (hv : Fit v 90000) : novationref1_Times N (bigN u) (bigN v) = some (bigN (u * v)) := by
  have lu := hu.len
  have lv := hv.len
  unfold novationref1_Times novationref1_Times.b
  simp only [bigN]
  simp (disch := omega) only [ltB_t, ltB_f, leB_t, leB_f, eqB_t, eqB_f, inb_t, small_t, okMake_t, okCut_t, W_i64, W_u64, cond_true, cond_false, Bool.not_true, Bool.not_false, Option.bind_some, Int.toNat_natCast, Int.toNat_zero, natCast_succ', List.length_append, List.length_singleton, List.length_set, List.length_replicate, List.length_cons, List.length_nil]
  have e : (((dig u.natAbs).length : Int) + ((dig v.natAbs).length : Int) + 1).toNat = (dig u.natAbs).length + (dig v.natAbs).length + 1 := by omega
  have := times_outer N hN (decide (u < 0)) (decide (v < 0)) (false, ([], ())) (dig_vd u.natAbs) (dig_vd v.natAbs) (by omega) (by omega) (dig u.natAbs).length N 0 (List.replicate ((dig u.natAbs).length + (dig v.natAbs).length + 1) 0) (by omega) (by omega) (by omega) (VD.zeros _) (by simp)
    (fun k _ => by rw [List.getD_eq_getElem?_getD, List.getElem?_replicate]; split <;> rfl) (by
      have : ∀ n, valD (List.replicate n 0) = 0 := fun n => by
        induction n with
        | zero => rfl
        | succ n ih => rw [List.replicate_succ, valD, ih]; rfl
      rw [this]; simp [valD])
  rw [dig_val, dig_val] at this
  have e2 : (((dig u.natAbs).length + (dig v.natAbs).length : Nat) : Int) + 1 = (dig u.natAbs).length + (dig v.natAbs).length + 1 := by omega
  first
  | (rw [e]; refine this.trans ?_)
  | (refine (this).trans ?_)
  show some (bigN _) = some (bigN _)
  congr 2
  have key : (u.natAbs : Int) * v.natAbs = if decide (u < 0) = decide (v < 0) then u * v else -(u * v) := by
    by_cases h1 : u < 0 <;> by_cases h2 : v < 0
    · rw [if_pos (by simp [h1, h2]), show (u.natAbs : Int) = -u from by omega, show (v.natAbs : Int) = -v from by omega, Int.neg_mul_neg]
    · rw [if_neg (by simp [h1, h2]), show (u.natAbs : Int) = -u from by omega, show (v.natAbs : Int) = v from by omega, Int.neg_mul]
    · rw [if_neg (by simp [h1, h2]), show (u.natAbs : Int) = u from by omega, show (v.natAbs : Int) = -v from by omega, Int.mul_neg]
    · rw [if_pos (by simp [h1, h2]), show (u.natAbs : Int) = u from by omega, show (v.natAbs : Int) = v from by omega]
  rw [key]
  split <;> simp
end VM
end

section
/- Plain laws: quotients of whole numbers. -/
set_option linter.unusedSimpArgs false
set_option linter.unusedVariables false
namespace VM
open Go VM.F
end VM
end

section
/- Plain laws: Wide. -/
set_option linter.unusedSimpArgs false
set_option linter.unusedVariables false
namespace VM
open Go VM.F

def wideN (v : Int) : Ty.den tWide := (v / 18446744073709551616, (v % 18446744073709551616, ()))

theorem wmk {a b v : Int} (h1 : a = v / 18446744073709551616) (h2 : b = v % 18446744073709551616) : ((a, (b, ())) : Ty.den tWide) = wideN v := by
  unfold wideN; rw [h1, h2]
theorem wsome {a b v : Int} {α : Type} {c : α} (h1 : a = v / 18446744073709551616) (h2 : b = v % 18446744073709551616) : (some (((a, (b, ())) : Ty.den tWide), c) : Option (Ty.den tWide × α)) = some (wideN v, c) := by
  rw [wmk h1 h2]
theorem signed_pos (N : Nat) {hi lo : Int} (h0 : 0 ≤ hi) (h1 : hi < 9223372036854775808) (l0 : 0 ≤ lo) (l1 : lo < 18446744073709551616) : wide_signed N false hi lo = some (wideN (hi * 18446744073709551616 + lo), true) := by
  unfold wide_signed wide_signed.b
  rw [Bool.not_false, cond_true, leB_f (by omega), cond_false, W_i64 (by omega) (by omega)]
  exact wsome (by omega) (by omega)

theorem signed_neg (N : Nat) {hi lo : Int} (h0 : 0 ≤ hi) (l0 : 0 ≤ lo) (l1 : lo < 18446744073709551616) (hm : hi * 18446744073709551616 + lo ≤ 170141183460469231731687303715884105728) : wide_signed N true hi lo = some (wideN (-(hi * 18446744073709551616 + lo)), true) := by
  unfold wide_signed wide_signed.b
  have hj : wide_signed.j7 N hi lo ((0 : Int), ((0 : Int), ())) = some (wideN (-(hi * 18446744073709551616 + lo)), true) := by
    unfold wide_signed.j7 wide_signed.j7b
    rw [sub64_eq N (by omega) (by omega) l0 l1 (by omega) (by omega), Option.bind_some]
    by_cases hl : lo = 0
    · subst hl
      rw [if_neg (by omega)]
      rw [sub64_eq N (by omega) (by omega) h0 (by omega) (by omega) (by omega), Option.bind_some, W_i64_def]
      exact wsome (by split <;> omega) (by omega)
    · rw [if_pos (by omega)]
      rw [sub64_eq N (by omega) (by omega) h0 (by omega) (by omega) (by omega), Option.bind_some, W_i64_def]
      exact wsome (by split <;> omega) (by omega)
  rw [Bool.not_true, cond_false, ltB_f (by omega), cond_false]
  by_cases he : hi = 9223372036854775808
  · rw [eqB_t he, cond_true, ltB_f (by omega), cond_false]; exact hj
  · rw [eqB_f he, cond_false]; exact hj

theorem natAbs_mul_le {a b : Int} (a0 : -9223372036854775808 ≤ a) (a1 : a < 9223372036854775808) (b0 : -9223372036854775808 ≤ b) (b1 : b < 9223372036854775808) :
    0 ≤ (a.natAbs : Int) * b.natAbs ∧ (a.natAbs : Int) * b.natAbs ≤ 85070591730234615865843651857942052864 := by
  have := mul_lt (m := 9223372036854775808) (n := 9223372036854775808) (show 0 ≤ (a.natAbs : Int) by omega) (show 0 ≤ (b.natAbs : Int) by omega) (by omega) (by omega)
  omega

theorem wMul_eq (N : Nat) {a b : Int} (a0 : -9223372036854775808 ≤ a) (a1 : a < 9223372036854775808) (b0 : -9223372036854775808 ≤ b) (b1 : b < 9223372036854775808) : wide_Mul N a b = some (wideN (a * b)) := by
  unfold wide_Mul
  have hm := natAbs_mul_le a0 a1 b0 b1
  simp only [Size_eq N a0 a1, Size_eq N b0 b1, Option.bind_some, Mul64_eq N (show 0 ≤ (a.natAbs : Int) by omega) (by omega) (show 0 ≤ (b.natAbs : Int) by omega) (by omega), teq_bool]
  obtain ⟨m, hme⟩ : ∃ m, m = (a.natAbs : Int) * b.natAbs := ⟨_, rfl⟩
  rw [← hme] at hm ⊢
  have hd : m / 18446744073709551616 * 18446744073709551616 + m % 18446744073709551616 = m := by omega
  by_cases h1 : a < 0 <;> by_cases h2 : b < 0
  · rw [ltB_t h1, ltB_t h2, beq_self_eq_true, Bool.not_true, signed_pos N (by omega) (by omega) (by omega) (by omega), Option.bind_some, hd]
    have : m = a * b := by rw [hme, show (a.natAbs : Int) = -a from by omega, show (b.natAbs : Int) = -b from by omega, Int.neg_mul_neg]
    rw [this]
  · rw [ltB_t h1, ltB_f (x := b) (by omega), show (!(true == false)) = true from rfl, signed_neg N (by omega) (by omega) (by omega) (by omega), Option.bind_some, hd]
    have : m = -(a * b) := by rw [hme, show (a.natAbs : Int) = -a from by omega, show (b.natAbs : Int) = b from by omega, Int.neg_mul]
    rw [this, Int.neg_neg]
  · rw [ltB_f (x := a) (by omega), ltB_t h2, show (!(false == true)) = true from rfl, signed_neg N (by omega) (by omega) (by omega) (by omega), Option.bind_some, hd]
    have : m = -(a * b) := by rw [hme, show (a.natAbs : Int) = a from by omega, show (b.natAbs : Int) = -b from by omega, Int.mul_neg]
    rw [this, Int.neg_neg]
  · rw [ltB_f (x := a) (by omega), ltB_f (x := b) (by omega), beq_self_eq_true, Bool.not_true, signed_pos N (by omega) (by omega) (by omega) (by omega), Option.bind_some, hd]
    have : m = a * b := by rw [hme, show (a.natAbs : Int) = a from by omega, show (b.natAbs : Int) = b from by omega]
    rw [this]

theorem wInt_eq (N : Nat) {v : Int} (v0 : -170141183460469231731687303715884105728 ≤ v) (v1 : v < 170141183460469231731687303715884105728) : wide_Int N (wideN v) = some (toI v) := by
  unfold wide_Int wideN
  rw [ltB_f (by omega), cond_false]
  dsimp only
  have hw0 : -9223372036854775808 ≤ W .i64 (v % 18446744073709551616) ∧ W .i64 (v % 18446744073709551616) < 9223372036854775808 := by rw [W_i64_def]; split <;> omega
  rw [shr_i64_63 hw0.1 hw0.2]
  have hwv : W .i64 (v % 18446744073709551616) = if 9223372036854775808 ≤ v % 18446744073709551616 then v % 18446744073709551616 - 18446744073709551616 else v % 18446744073709551616 := by rw [W_i64_def]; split <;> split <;> omega
  rw [hwv]
  unfold toI
  by_cases h : -9223372036854775808 ≤ v ∧ v < 9223372036854775808
  · rw [if_pos h]
    by_cases hn : v < 0
    · rw [if_pos (show 9223372036854775808 ≤ v % 18446744073709551616 by omega), if_pos (by omega), eqB_t (by omega), Bool.not_true, cond_false]
      congr 2; omega
    · rw [if_neg (show ¬ 9223372036854775808 ≤ v % 18446744073709551616 by omega), if_neg (by omega), eqB_t (by omega), Bool.not_true, cond_false]
      congr 2; omega
  · rw [if_neg h]
    by_cases hm : 9223372036854775808 ≤ v % 18446744073709551616
    · rw [if_pos hm, if_pos (by omega), eqB_f (by omega), Bool.not_false, cond_true]
    · rw [if_neg hm, if_neg (by omega), eqB_f (by omega), Bool.not_false, cond_true]

end VM
end

section
/- Plain laws: loops, whatever they are about. -/
set_option linter.unusedVariables false
namespace VM
open Go

theorem cond_not {α : Type} (b : Bool) (x y : α) : cond (!b) x y = cond b y x := by cases b <;> rfl
theorem cond_ltB {α : Type} (a b : Int) (x y : α) : cond (ltB a b) x y = if a < b then x else y := by
  by_cases h : a < b
  · rw [ltB_t h, if_pos h]; rfl
  · rw [ltB_f (by omega), if_neg h]; rfl
theorem cond_leB {α : Type} (a b : Int) (x y : α) : cond (leB a b) x y = if a ≤ b then x else y := by
  by_cases h : a ≤ b
  · rw [leB_t h, if_pos h]; rfl
  · rw [leB_f (by omega), if_neg h]; rfl
theorem cond_eqB {α : Type} (a b : Int) (x y : α) : cond (eqB a b) x y = if a = b then x else y := by
  by_cases h : a = b
  · rw [eqB_t h, if_pos h]; rfl
  · rw [eqB_f h, if_neg h]; rfl
theorem cond_dec {α : Type} (p : Prop) [Decidable p] (x y : α) : cond (decide p) x y = if p then x else y := by
  by_cases h : p
  · rw [decide_eq_true h, if_pos h]; rfl
  · rw [decide_eq_false h, if_neg h]; rfl

theorem drop_cons {α : Type} {l : List α} {i : Nat} (h : i < l.length) (d : α) : l.drop i = l.getD i d :: l.drop (i + 1) := by
  rw [List.drop_eq_getElem_cons h, List.getD_eq_getElem?_getD, List.getElem?_eq_getElem h]; rfl

/-- A loop over a list, with what it carries. -/
theorem lrec {α σ β : Type} (l : List α) (d : α) (F : Nat → Int → σ → Option β) (g : List α → σ → Option β) (I : Nat → σ → Prop)
    (hs : ∀ n i s, i < l.length → I i s → (∀ s', I (i + 1) s' → F n ((i + 1 : Nat) : Int) s' = g (l.drop (i + 1)) s') → F (n + 1) (i : Int) s = g (l.getD i d :: l.drop (i + 1)) s)
    (he : ∀ n s, I l.length s → F (n + 1) (l.length : Int) s = g [] s) : ∀ m n i s, l.length - i ≤ m → m < n → i ≤ l.length → I i s → F n (i : Int) s = g (l.drop i) s
  | m, 0, i, s, _, hn, _, _ => by omega
  | m, n + 1, i, s, hm, hn, hi, hI => by
    by_cases h : i < l.length
    · rw [drop_cons h d]
      exact hs n i s h hI fun s' hI' => lrec l d F g I hs he (m - 1) n (i + 1) s' (by omega) (by omega) (by omega) hI'
    · have : i = l.length := by omega
      subst this
      rw [List.drop_length]; exact he n s hI

/-- A loop over a list, that carries nothing. -/
theorem lrec0 {α β : Type} (l : List α) (d : α) (F : Nat → Int → Option β) (g : List α → Option β)
    (hs : ∀ n i, i < l.length → F n ((i + 1 : Nat) : Int) = g (l.drop (i + 1)) → F (n + 1) (i : Int) = g (l.getD i d :: l.drop (i + 1)))
    (he : ∀ n, F (n + 1) (l.length : Int) = g []) (n : Nat) (hn : l.length < n) : F n 0 = g l := by
  have := lrec (σ := Unit) l d (fun n i _ => F n i) (fun l _ => g l) (fun _ _ => True) (fun n i _ h _ hr => hs n i h (hr () trivial)) (fun n _ _ => he n) l.length n 0 () (by omega) hn (by omega) trivial
  simpa using this

/-- A loop that looks at each place, and goes on while all is well. -/
theorem scan {F : Nat → Int → Option Bool} {len : Nat} (P : Nat → Prop) [DecidablePred P]
    (hs : ∀ n i r, i < len → (∀ j, j < i → P j) → F n ((i + 1 : Nat) : Int) = r → F (n + 1) (i : Int) = if P i then r else some false) {e : Bool} (he : ∀ n, F (n + 1) (len : Int) = some e) :
    ∀ m n i, len - i ≤ m → m < n → i ≤ len → (∀ j, j < i → P j) → F n (i : Int) = some (decide (∀ j, j < len → i ≤ j → P j) && e)
  | m, 0, i, _, hn, _, _ => by omega
  | m, n + 1, i, hm, hn, hi, hp => by
    by_cases h : i < len
    · rw [hs n i _ h hp rfl]
      by_cases hP : P i
      · rw [if_pos hP, scan P hs he (m - 1) n (i + 1) (by omega) (by omega) (by omega) (fun j hj => by
          by_cases hji : j = i
          · subst hji; exact hP
          · exact hp j (by omega))]
        congr 2
        rw [decide_eq_decide]
        refine ⟨fun hj j h2 h1 => ?_, fun hj j h2 h1 => hj j h2 (by omega)⟩
        by_cases hji : j = i
        · subst hji; exact hP
        · exact hj j h2 (by omega)
      · rw [if_neg hP, decide_eq_false (fun hj => hP (hj i h (Nat.le_refl i)))]; rfl
    · have : i = len := by omega
      subst this
      rw [he n, decide_eq_true (fun j h2 h1 => absurd h2 (by omega))]; rfl

theorem scan0 {F : Nat → Int → Option Bool} {len : Nat} (P : Nat → Prop) [DecidablePred P] {e : Bool}
    (hs : ∀ n i r, i < len → (∀ j, j < i → P j) → F n ((i + 1 : Nat) : Int) = r → F (n + 1) (i : Int) = if P i then r else some false) (he : ∀ n, F (n + 1) (len : Int) = some e) (n : Nat) (hn : len < n) :
    F n 0 = some (decide (∀ j, j < len → P j) && e) := by
  have := scan P hs he len n 0 (by omega) hn (by omega) (fun j hj => absurd hj (by omega))
  rw [show ((0 : Nat) : Int) = 0 from rfl] at this
  rw [this]
  congr 2
  rw [decide_eq_decide]
  exact ⟨fun h j hj => h j hj (by omega), fun h j hj _ => h j hj⟩
end VM
end

section
/- Plain laws: sums of Wides. -/
set_option linter.unusedSimpArgs false
set_option linter.unusedVariables false
namespace VM
open Go VM.F

def In128 (x : Int) : Prop := -170141183460469231731687303715884105728 ≤ x ∧ x < 170141183460469231731687303715884105728
instance (x : Int) : Decidable (In128 x) := by unfold In128; infer_instance
theorem wOf_eq (N : Nat) {x : Int} (h0 : -9223372036854775808 ≤ x) (h1 : x < 9223372036854775808) : wide_Of N x = some (wideN x) := by
  unfold wide_Of
  rw [ltB_f (by omega), cond_false, shr_i64_63 h0 h1, W_mod]
  congr 1
  exact wmk (by split <;> omega) rfl
theorem wide_at {ws : List Int} (i : Nat) : (ws.map wideN).getD i ((0 : Int), ((0 : Int), ())) = wideN (ws.getD i 0) := by
  by_cases h : i < ws.length
  · rw [List.getD_eq_getElem?_getD, List.getElem?_map, List.getElem?_eq_getElem h, List.getD_eq_getElem?_getD, List.getElem?_eq_getElem h]; rfl
  · rw [List.getD_eq_getElem?_getD, List.getElem?_eq_none (by rw [List.length_map]; omega), List.getD_eq_getElem?_getD, List.getElem?_eq_none (by omega)]; rfl
theorem sum128 {ws : List Int} (h : ∀ x ∈ ws, In128 x) : -(170141183460469231731687303715884105728 * (ws.length : Int)) ≤ ws.sum ∧ ws.sum ≤ 170141183460469231731687303715884105728 * (ws.length : Int) := by
  induction ws with
  | nil => simp
  | cons x ws ih =>
    have h0 := h x (List.mem_cons_self ..)
    have ih := ih (fun y hy => h y (List.mem_cons_of_mem _ hy))
    unfold In128 at h0
    rw [List.sum_cons, List.length_cons]; omega

theorem sum_step {t w : Int} {lo hi top : Int} (hw : In128 w) (hlo : lo = t % 18446744073709551616) (hhi : hi = t / 18446744073709551616 % 18446744073709551616) (htop : top = t / 340282366920938463463374607431768211456) :
    (lo + w % 18446744073709551616 + 0) % 18446744073709551616 = (t + w) % 18446744073709551616 ∧
    (hi + (w / 18446744073709551616) % 18446744073709551616 + (lo + w % 18446744073709551616 + 0) / 18446744073709551616) % 18446744073709551616 = (t + w) / 18446744073709551616 % 18446744073709551616 ∧
    top + (if w / 18446744073709551616 < 0 then -1 else 0) + (hi + (w / 18446744073709551616) % 18446744073709551616 + (lo + w % 18446744073709551616 + 0) / 18446744073709551616) / 18446744073709551616 = (t + w) / 340282366920938463463374607431768211456 := by
  unfold In128 at hw
  subst hlo hhi htop
  refine ⟨by omega, by omega, ?_⟩
  split <;> omega

def sumW (t : Int) : Ty.den tWide × Bool := if In128 t then (wideN t, true) else (((0 : Int), ((0 : Int), ())), false)
theorem W64 (x : Int) : W .u64 x = x % 18446744073709551616 := W_mod x

theorem wSum_loop (N : Nat) {ws : List Int} (h : ∀ x ∈ ws, In128 x) (hl : ws.length ≤ 1000000) : ∀ (m n i : Nat) (t : Int), ws.length - i ≤ m → m < n → i ≤ ws.length → t = (ws.take i).sum →
    wide_Sum.l3 N n ((0 : Int), ((0 : Int), ())) (t / 340282366920938463463374607431768211456) (t / 18446744073709551616 % 18446744073709551616) (t % 18446744073709551616) (ws.map wideN) (ws.length : Int) (i : Int) = some (sumW ws.sum)
  | m, 0, i, t, _, hn, _, _ => by omega
  | m, n + 1, i, t, hm, hn, hi, ht => by
    unfold wide_Sum.l3 wide_Sum.l3b
    have f1 := sum128 (ws := ws.take i) (fun x hx => h x (List.mem_of_mem_take hx))
    rw [List.length_take, Nat.min_eq_left (by omega), ← ht] at f1
    by_cases h1 : i < ws.length
    · have hw : In128 (ws.getD i 0) := by
        rw [List.getD_eq_getElem?_getD, List.getElem?_eq_getElem h1]; exact h _ (List.getElem_mem h1)
      have hs := sum_take_succ ws h1
      rw [← ht] at hs
      have st := sum_step (t := t) (w := ws.getD i 0) hw rfl rfl rfl
      have hrec := wSum_loop N h hl (m - 1) n (i + 1) (t + ws.getD i 0) (by omega) (by omega) (by omega) hs.symm
      rw [ltB_t (by omega), cond_true, inb_t (by omega) (by rw [List.length_map]; omega), cond_true, Int.toNat_natCast, wide_at]
      unfold wideN
      dsimp only
      have hw' := hw
      unfold In128 at hw'
      generalize ws.getD i 0 = w at *
      have hq : 0 ≤ (t % 18446744073709551616 + w % 18446744073709551616 + 0) / 18446744073709551616 ∧ (t % 18446744073709551616 + w % 18446744073709551616 + 0) / 18446744073709551616 ≤ 1 := by omega
      rw [add64_eq N (by omega) (by omega) (by omega) (by omega), Option.bind_some, W64, add64_eq N (by omega) (by omega) hq.1 hq.2, Option.bind_some, ltB_f (x := 63) (by omega), cond_false, st.1, st.2.1]
      rw [shr_i64_63 (by omega) (by omega)]
      have hc : 0 ≤ (t / 18446744073709551616 % 18446744073709551616 + w / 18446744073709551616 % 18446744073709551616 + (t % 18446744073709551616 + w % 18446744073709551616 + 0) / 18446744073709551616) / 18446744073709551616 ∧ (t / 18446744073709551616 % 18446744073709551616 + w / 18446744073709551616 % 18446744073709551616 + (t % 18446744073709551616 + w % 18446744073709551616 + 0) / 18446744073709551616) / 18446744073709551616 ≤ 1 := by omega
      have hif : -1 ≤ (if w / 18446744073709551616 < 0 then (-1 : Int) else 0) ∧ (if w / 18446744073709551616 < 0 then (-1 : Int) else 0) ≤ 0 := by split <;> omega
      rw [W_i64 (x := t / 340282366920938463463374607431768211456 + _) (by omega) (by omega), W_i64 (x := (_ : Int) / 18446744073709551616) (by omega) (by omega), st.2.2, W_i64 (by omega) (by omega), W_i64 (x := (i : Int) + 1) (by omega) (by omega)]
      exact hrec
    · have e : (ws.take i).sum = ws.sum := by rw [List.take_of_length_le (by omega)]
      rw [e] at ht
      rw [ltB_f (by omega), cond_false, ltB_f (x := 63) (by omega), cond_false, ← ht]
      have hh : -9223372036854775808 ≤ W .i64 (t / 18446744073709551616 % 18446744073709551616) ∧ W .i64 (t / 18446744073709551616 % 18446744073709551616) < 9223372036854775808 := by rw [W_i64_def]; split <;> omega
      have hwv : W .i64 (t / 18446744073709551616 % 18446744073709551616) = if 9223372036854775808 ≤ t / 18446744073709551616 % 18446744073709551616 then t / 18446744073709551616 % 18446744073709551616 - 18446744073709551616 else t / 18446744073709551616 % 18446744073709551616 := by rw [W_i64_def]; split <;> split <;> omega
      rw [shr_i64_63 hh.1 hh.2, hwv]
      unfold sumW
      by_cases hI : In128 t
      · rw [if_pos hI]
        unfold In128 at hI
        rw [eqB_t (by split <;> split <;> omega), Bool.not_true, cond_false]
        exact wsome (by split <;> omega) rfl
      · rw [if_neg hI]
        unfold In128 at hI
        rw [eqB_f (by split <;> split <;> omega), Bool.not_false, cond_true]

theorem wSum_eq (N : Nat) {ws : List Int} (h : ∀ x ∈ ws, In128 x) (hl : ws.length ≤ 1000000) (hN : 1000000 < N) : wide_Sum N (ws.map wideN) = some (sumW ws.sum) := by
  unfold wide_Sum wide_Sum.b
  rw [List.length_map]
  exact wSum_loop N h hl ws.length N 0 0 (by omega) (by omega) (by omega) (by simp)
end VM
end

section
/- Plain laws: configs, members, accounts. -/
set_option linter.unusedSimpArgs false
set_option linter.unusedVariables false
namespace VM
open Go VM.F

theorem plan_in_eq (N : Nat) (a lo hi : Int) : plan_in N a lo hi = some (decide (lo ≤ a ∧ a ≤ hi)) := by
  unfold plan_in
  rw [cond_leB, leB_eq]
  by_cases h : lo ≤ a
  · rw [if_pos h]; congr 1; rw [decide_eq_decide]; omega
  · rw [if_neg h, decide_eq_false (by omega)]
theorem within_eq (N : Nat) (a lo hi : Int) : novationref4_within N a lo hi = some (decide (lo ≤ a ∧ a ≤ hi)) := plan_in_eq N a lo hi

def okInst4 (a b c d : Int) : Prop := (0 ≤ a ∧ a ≤ 3) ∧ (1 ≤ b ∧ b ≤ 1000000000000) ∧ (0 ≤ c ∧ c ≤ 1000000000) ∧ (0 ≤ d ∧ d ≤ 1000000000)
instance (a b c d : Int) : Decidable (okInst4 a b c d) := by unfold okInst4; infer_instance
def okInst (l : List (Ty.den tI4)) (i : Nat) : Prop := okInst4 (l.getD i ((0 : Int), ((0 : Int), ((0 : Int), ((0 : Int), ()))))).1 (l.getD i ((0 : Int), ((0 : Int), ((0 : Int), ((0 : Int), ()))))).2.1 (l.getD i ((0 : Int), ((0 : Int), ((0 : Int), ((0 : Int), ()))))).2.2.1 (l.getD i ((0 : Int), ((0 : Int), ((0 : Int), ((0 : Int), ()))))).2.2.2.1
instance (l : List (Ty.den tI4)) : DecidablePred (okInst l) := fun i => by unfold okInst; infer_instance
def okRest6 (a b c d e f : Int) : Prop := 0 ≤ a ∧ (0 ≤ b ∧ b ≤ 4) ∧ (0 ≤ c ∧ c ≤ 1000000) ∧ (0 ≤ d ∧ d ≤ 1000000) ∧ (1 ≤ e ∧ e ≤ 4611686018427387904) ∧ 0 ≤ f
instance (a b c d e f : Int) : Decidable (okRest6 a b c d e f) := by unfold okRest6; infer_instance
def okRest (c : Ty.den tConfig) : Prop := okRest6 c.2.1 c.2.2.1 c.2.2.2.1 c.2.2.2.2.1 c.2.2.2.2.2.1 c.2.2.2.2.2.2.1
instance (c : Ty.den tConfig) : Decidable (okRest c) := by unfold okRest; infer_instance
/-- A config that may be. -/
def okPlan (c : Ty.den tConfig) : Bool := decide (1 ≤ c.1.length ∧ c.1.length ≤ 6) && (decide (∀ j, j < c.1.length → okInst c.1 j) && decide (okRest c))

theorem Plan_eq (N : Nat) (hN : 100 ≤ N) (c : Ty.den tConfig) : plan_Right N c = some (okPlan c) := by
  unfold plan_Right plan_Right.b okPlan
  rw [plan_in_eq, Option.bind_some, cond_not, cond_dec]
  by_cases hl : 1 ≤ c.1.length ∧ c.1.length ≤ 6
  · rw [if_pos (by omega), decide_eq_true hl, Bool.true_and]
    refine scan0 (F := fun n i => plan_Right.l4 N n c c.1 (c.1.length : Int) i) (okInst c.1) (fun n i r hi hp hr => ?_) (fun n => ?_) N (by omega)
    · unfold plan_Right.l4 plan_Right.l4b
      rw [ltB_t (by omega), cond_true, inb_t (by omega) (by omega), cond_true, Int.toNat_natCast, W_i64 (by omega) (by omega), natCast_succ']
      simp only [plan_in_eq, Option.bind_some, cond_not, cond_dec]
      by_cases hP : okInst c.1 i
      · rw [if_pos hP]; unfold okInst okInst4 at hP
        repeat' split
        all_goals first | rfl | exact hr | omega
      · rw [if_neg hP]; unfold okInst okInst4 at hP
        repeat' split
        all_goals first | rfl | exact hr | omega
    · unfold plan_Right.l4 plan_Right.l4b
      rw [ltB_f (by omega), cond_false]
      simp only [plan_in_eq, Option.bind_some, cond_not, cond_dec, cond_leB, leB_eq]
      by_cases hP : okRest c
      · rw [decide_eq_true hP]; unfold okRest okRest6 at hP
        repeat' split
        all_goals first | rfl | omega | (rw [decide_eq_true (by omega)])
      · rw [decide_eq_false hP]; unfold okRest okRest6 at hP
        repeat' split
        all_goals first | rfl | omega | (rw [decide_eq_false (by omega)])
  · rw [if_neg (by omega), decide_eq_false hl, Bool.false_and]

theorem rPlan_eq (N : Nat) (hN : 100 ≤ N) (c : Ty.den tConfig) : novationref4_RightPlan N c = some (okPlan c) := by
  unfold novationref4_RightPlan novationref4_RightPlan.b okPlan
  rw [cond_ltB, cond_ltB]
  by_cases hl : 1 ≤ c.1.length ∧ c.1.length ≤ 6
  · rw [if_neg (by omega), if_neg (by omega), decide_eq_true hl, Bool.true_and]
    refine scan0 (F := fun n i => novationref4_RightPlan.l4 N n c i) (okInst c.1) (fun n i r hi hp hr => ?_) (fun n => ?_) N (by omega)
    · unfold novationref4_RightPlan.l4 novationref4_RightPlan.l4b
      rw [ltB_t (by omega), cond_true, inb_t (by omega) (by omega), cond_true, Int.toNat_natCast, W_i64 (by omega) (by omega), natCast_succ']
      simp only [within_eq, Option.bind_some, cond_not, cond_dec]
      by_cases hP : okInst c.1 i
      · rw [if_pos hP]; unfold okInst okInst4 at hP
        repeat' split
        all_goals first | rfl | exact hr | omega
      · rw [if_neg hP]; unfold okInst okInst4 at hP
        repeat' split
        all_goals first | rfl | exact hr | omega
    · unfold novationref4_RightPlan.l4 novationref4_RightPlan.l4b
      rw [ltB_f (by omega), cond_false]
      simp only [within_eq, Option.bind_some, cond_not, cond_dec, cond_leB, leB_eq]
      by_cases hP : okRest c
      · rw [decide_eq_true hP]; unfold okRest okRest6 at hP
        repeat' split
        all_goals first | rfl | omega | (rw [decide_eq_true (by omega)])
      · rw [decide_eq_false hP]; unfold okRest okRest6 at hP
        repeat' split
        all_goals first | rfl | omega | (rw [decide_eq_false (by omega)])
  · rw [decide_eq_false hl, Bool.false_and]
    by_cases h : (c.1.length : Int) < 1
    · rw [if_pos h]
    · rw [if_neg h, if_pos (by omega)]

/-! ### Members -/
def okMember4 (a b : Int) (i : Nat) (c : Int) : Prop := 1 ≤ a ∧ a ≤ 12 ∧ 1 ≤ b ∧ b ≤ 4 ∧ (0 < i → c < a)
instance (a b : Int) (i : Nat) (c : Int) : Decidable (okMember4 a b i c) := by unfold okMember4; infer_instance
def okMember (m : List (Ty.den tI2)) (i : Nat) : Prop := okMember4 (m.getD i ((0 : Int), ((0 : Int), ()))).1 (m.getD i ((0 : Int), ((0 : Int), ()))).2.1 i (m.getD (i - 1) ((0 : Int), ((0 : Int), ()))).1
instance (m : List (Ty.den tI2)) : DecidablePred (okMember m) := fun i => by unfold okMember; infer_instance
def okMembers (m : List (Ty.den tI2)) : Bool := decide (∀ j, j < m.length → okMember m j) && true

theorem Members_eq (N : Nat) {m : List (Ty.den tI2)} (hl : m.length ≤ 100000) (hN : 200000 ≤ N) : roll_Members N m = some (okMembers m) := by
  unfold roll_Members roll_Members.b
  refine scan0 (F := fun n i => roll_Members.l2 N n m m (m.length : Int) i) (okMember m) (fun n i r hi hp hr => ?_) (fun n => ?_) N (by omega)
  · unfold roll_Members.l2 roll_Members.l2b
    rw [ltB_t (by omega), cond_true, inb_t (by omega) (by omega), cond_true, Int.toNat_natCast, W_i64 (x := (i : Int) + 1) (by omega) (by omega), natCast_succ']
    by_cases h0 : 0 < i
    · have e : W .i64 ((i : Int) - 1) = ((i - 1 : Nat) : Int) := by rw [W_i64 (by omega) (by omega)]; omega
      dsimp only
      rw [ltB_t (x := 0) (by omega), cond_true, e, Int.toNat_natCast, inb_t (by omega) (by omega), cond_true]
      simp only [cond_ltB, cond_leB]
      by_cases hP : okMember m i
      · rw [if_pos hP]; unfold okMember okMember4 at hP
        repeat' split
        all_goals first | rfl | exact hr | omega
      · rw [if_neg hP]; unfold okMember okMember4 at hP
        repeat' split
        all_goals first | rfl | exact hr | omega
    · rw [ltB_f (x := 0) (by omega), cond_false]
      simp only [cond_ltB, cond_leB]
      by_cases hP : okMember m i
      · rw [if_pos hP]; unfold okMember okMember4 at hP
        repeat' split
        all_goals first | rfl | exact hr | omega
      · rw [if_neg hP]; unfold okMember okMember4 at hP
        repeat' split
        all_goals first | rfl | exact hr | omega
  · unfold roll_Members.l2 roll_Members.l2b
    rw [ltB_f (by omega), cond_false]

theorem rMembers_eq (N : Nat) {m : List (Ty.den tI2)} (hl : m.length ≤ 100000) (hN : 200000 ≤ N) : novationref10_Members N m = some (okMembers m) := by
  unfold novationref10_Members novationref10_Members.b
  refine scan0 (F := fun n i => novationref10_Members.l2 N n m i) (okMember m) (fun n i r hi hp hr => ?_) (fun n => ?_) N (by omega)
  · unfold novationref10_Members.l2 novationref10_Members.l2b
    rw [ltB_t (by omega), cond_true, inb_t (by omega) (by omega), cond_true, Int.toNat_natCast, W_i64 (x := (i : Int) + 1) (by omega) (by omega), natCast_succ']
    by_cases h0 : 0 < i
    · have e : W .i64 ((i : Int) - 1) = ((i - 1 : Nat) : Int) := by rw [W_i64 (by omega) (by omega)]; omega
      dsimp only
      rw [ltB_t (x := 0) (by omega), e, Int.toNat_natCast, inb_t (i := ((i - 1 : Nat) : Int)) (by omega) (by omega)]
      simp only [cond_ltB, cond_leB, cond_true]
      by_cases hP : okMember m i
      · rw [if_pos hP]; unfold okMember okMember4 at hP
        repeat' split
        all_goals first | rfl | exact hr | omega
      · rw [if_neg hP]; unfold okMember okMember4 at hP
        repeat' split
        all_goals first | rfl | exact hr | omega
    · rw [ltB_f (x := 0) (by omega)]
      simp only [cond_ltB, cond_leB, cond_true, cond_false]
      by_cases hP : okMember m i
      · rw [if_pos hP]; unfold okMember okMember4 at hP
        repeat' split
        all_goals first | rfl | exact hr | omega
      · rw [if_neg hP]; unfold okMember okMember4 at hP
        repeat' split
        all_goals first | rfl | exact hr | omega
  · unfold novationref10_Members.l2 novationref10_Members.l2b
    rw [ltB_f (by omega), cond_false]
end VM
end

section
/- Plain laws: the ledger's rows, positions, orders. -/
set_option linter.unusedSimpArgs false
set_option linter.unusedVariables false
namespace VM
open Go VM.F

def okKey (k n : Int) : Prop := (1 ≤ k ∧ k ≤ 4 ∧ n = 0) ∨ (k = 5 ∧ 1 ≤ n ∧ n ≤ 24) ∨ (6 ≤ k ∧ k ≤ 7 ∧ 1 ≤ n ∧ n ≤ 12)
instance (k n : Int) : Decidable (okKey k n) := by unfold okKey; infer_instance
theorem Key_eq (N : Nat) (k n : Int) : ledger_Key N k n = some (decide (okKey k n)) := by
  unfold ledger_Key
  simp only [cond_eqB, cond_leB]
  simp only [leB_eq, eqB_eq]
  by_cases hP : okKey k n
  · rw [decide_eq_true hP]; unfold okKey at hP
    repeat' split
    all_goals first | rfl | omega | (rw [decide_eq_true (by omega)])
  · rw [decide_eq_false hP]; unfold okKey at hP
    repeat' split
    all_goals first | rfl | omega | (rw [decide_eq_false (by omega)])
theorem rKey_eq (N : Nat) (k n : Int) : novationref10_Key N k n = some (decide (okKey k n)) := by
  have := Key_eq N k n
  unfold ledger_Key at this
  unfold novationref10_Key
  exact this

/-- One key ahead of another. -/
def keyLt (a b c d : Int) : Prop := a < c ∨ (a = c ∧ b < d)
instance (a b c d : Int) : Decidable (keyLt a b c d) := by unfold keyLt; infer_instance
def ordI (k n a b : Int) : Int := if k = a then n - b else k - a
def few (x : Int) : Prop := -1000000 ≤ x ∧ x ≤ 1000000
theorem order_eq (N : Nat) {k n : Int} {r : Ty.den tI3} (h1 : few k) (h2 : few n) (h3 : few r.1) (h4 : few r.2.1) : ledger_order N k n r = some (ordI k n r.1 r.2.1) := by
  unfold ledger_order ordI
  unfold few at *
  rw [cond_not, cond_eqB]
  split
  · rw [W_i64 (by omega) (by omega)]
  · rw [W_i64 (by omega) (by omega)]
theorem sorder_eq (N : Nat) {k n : Int} {r : Ty.den tI3} (h1 : few k) (h2 : few n) (h3 : few r.1) (h4 : few r.2.1) : stock_order N k n r = some (ordI k n r.1 r.2.1) := order_eq N h1 h2 h3 h4

def okRow6 (a b c : Int) (i : Nat) (d e : Int) : Prop := okKey a b ∧ c ≠ 0 ∧ (0 < i → keyLt d e a b)
instance (a b c : Int) (i : Nat) (d e : Int) : Decidable (okRow6 a b c i d e) := by unfold okRow6; infer_instance
def okRow (l : List (Ty.den tI3)) (i : Nat) : Prop := okRow6 (l.getD i ((0 : Int), ((0 : Int), ((0 : Int), ())))).1 (l.getD i ((0 : Int), ((0 : Int), ((0 : Int), ())))).2.1 (l.getD i ((0 : Int), ((0 : Int), ((0 : Int), ())))).2.2.1 i (l.getD (i - 1) ((0 : Int), ((0 : Int), ((0 : Int), ())))).1 (l.getD (i - 1) ((0 : Int), ((0 : Int), ((0 : Int), ())))).2.1
instance (l : List (Ty.den tI3)) : DecidablePred (okRow l) := fun i => by unfold okRow; infer_instance
def okRows (l : List (Ty.den tI3)) : Bool := decide (∀ j, j < l.length → okRow l j) && true

theorem Rows_eq (N : Nat) {l : List (Ty.den tI3)} (hl : l.length ≤ 100000) (hN : 200000 ≤ N) : ledger_Right N l = some (okRows l) := by
  unfold ledger_Right ledger_Right.b
  refine scan0 (F := fun n i => ledger_Right.l2 N n l l (l.length : Int) i) (okRow l) (fun n i r hi hp hr => ?_) (fun n => ?_) N (by omega)
  · unfold ledger_Right.l2 ledger_Right.l2b
    rw [ltB_t (by omega), cond_true, inb_t (by omega) (by omega), cond_true, Int.toNat_natCast, W_i64 (x := (i : Int) + 1) (by omega) (by omega), natCast_succ', Key_eq, Option.bind_some, cond_not, cond_dec]
    by_cases hK : okKey (l.getD i ((0 : Int), ((0 : Int), ((0 : Int), ())))).1 (l.getD i ((0 : Int), ((0 : Int), ((0 : Int), ())))).2.1
    · rw [if_pos hK]
      by_cases h0 : 0 < i
      · have hq := hp (i - 1) (by omega)
        have e : W .i64 ((i : Int) - 1) = ((i - 1 : Nat) : Int) := by rw [W_i64 (by omega) (by omega)]; omega
        dsimp only
        rw [ltB_t (x := 0) (by omega), cond_true, e, Int.toNat_natCast, inb_t (by omega) (by omega), cond_true]
        unfold okRow okRow6 at hq
        have hq := hq.1
        rw [order_eq N (by unfold okKey at hK; unfold few; omega) (by unfold okKey at hK; unfold few; omega) (by unfold okKey at hq; unfold few; omega) (by unfold okKey at hq; unfold few; omega), Option.bind_some, cond_eqB, cond_leB]
        by_cases hP : okRow l i
        · rw [if_pos hP]; unfold okRow okRow6 keyLt at hP; unfold ordI
          have hP2 := hP.2
          repeat' split
          all_goals first | rfl | exact hr | omega
        · rw [if_neg hP]; unfold okRow okRow6 keyLt at hP; unfold ordI
          have hP2 := fun h => hP ⟨hK, h⟩
          repeat' split
          all_goals first | rfl | exact hr | omega | (exfalso; exact hP2 (by omega))
      · rw [ltB_f (x := 0) (by omega), cond_false, cond_eqB]
        by_cases hP : okRow l i
        · rw [if_pos hP]; unfold okRow okRow6 at hP
          rw [if_neg hP.2.1]; exact hr
        · rw [if_neg hP]; unfold okRow okRow6 at hP
          have hP2 := fun h => hP ⟨hK, h, fun h => absurd h h0⟩
          split
          · rfl
          · exact absurd (by assumption) hP2
    · rw [if_neg hK, if_neg (fun h => hK (by unfold okRow okRow6 at h; exact h.1))]
  · unfold ledger_Right.l2 ledger_Right.l2b
    rw [ltB_f (by omega), cond_false]

theorem rRows_eq (N : Nat) {l : List (Ty.den tI3)} (hl : l.length ≤ 100000) (hN : 200000 ≤ N) : novationref10_Rows N l = some (okRows l) := by
  unfold novationref10_Rows novationref10_Rows.b
  refine scan0 (F := fun n i => novationref10_Rows.l2 N n l i) (okRow l) (fun n i r hi hp hr => ?_) (fun n => ?_) N (by omega)
  · unfold novationref10_Rows.l2 novationref10_Rows.l2b
    rw [ltB_t (by omega), cond_true, inb_t (by omega) (by omega), cond_true, Int.toNat_natCast, W_i64 (x := (i : Int) + 1) (by omega) (by omega), natCast_succ', rKey_eq, Option.bind_some, cond_not, cond_dec]
    by_cases hK : okKey (l.getD i ((0 : Int), ((0 : Int), ((0 : Int), ())))).1 (l.getD i ((0 : Int), ((0 : Int), ((0 : Int), ())))).2.1
    · rw [if_pos hK]
      by_cases h0 : 0 < i
      · have e : W .i64 ((i : Int) - 1) = ((i - 1 : Nat) : Int) := by rw [W_i64 (by omega) (by omega)]; omega
        dsimp only
        rw [ltB_t (x := 0) (by omega), e, Int.toNat_natCast, inb_t (i := ((i - 1 : Nat) : Int)) (by omega) (by omega)]
        simp only [cond_ltB, cond_leB, cond_eqB, cond_true]
        by_cases hP : okRow l i
        · rw [if_pos hP]; unfold okRow okRow6 keyLt at hP
          have hP2 := hP.2
          repeat' split
          all_goals first | rfl | exact hr | omega
        · rw [if_neg hP]; unfold okRow okRow6 keyLt at hP
          have hP2 := fun h => hP ⟨hK, h⟩
          repeat' split
          all_goals first | rfl | exact hr | omega | (exfalso; exact hP2 (by omega))
      · rw [ltB_f (x := 0) (by omega)]
        simp only [cond_ltB, cond_leB, cond_eqB, cond_true, cond_false]
        by_cases hP : okRow l i
        · rw [if_pos hP]; unfold okRow okRow6 at hP
          rw [if_neg hP.2.1]; exact hr
        · rw [if_neg hP]; unfold okRow okRow6 at hP
          have hP2 := fun h => hP ⟨hK, h, fun h => absurd h h0⟩
          split
          · rfl
          · exact absurd (by assumption) hP2
    · rw [if_neg hK, if_neg (fun h => hK (by unfold okRow okRow6 at h; exact h.1))]; rfl
  · unfold novationref10_Rows.l2 novationref10_Rows.l2b
    rw [ltB_f (by omega), cond_false]
end VM
end

