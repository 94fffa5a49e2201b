/- A part of the proof of the six laws of layer 3: what the functions compute, in plain words. -/
import Derived.Test.YtmapbngbgfdpfaaPlain0
set_option linter.all false
section
/- Plain laws: bits.Div64. -/
set_option linter.unusedSimpArgs false
set_option linter.unusedVariables false
namespace VM
open Go VM.F

/-- What a guessed digit keeps. -/
structure Guess (Y yn1 yn0 un32 un1 q rh : Int) : Prop where
  hY : Y = yn1 * 4294967296 + yn0
  y1 : 2147483648 ≤ yn1
  y1' : yn1 < 4294967296
  y0 : 0 ≤ yn0
  y0' : yn0 < 4294967296
  u1 : 0 ≤ un1
  u1' : un1 < 4294967296
  lt : un32 < Y
  q0 : 0 ≤ q
  eq : q * yn1 + rh = un32
  r0 : 0 ≤ rh
  q1 : q ≤ 4294967297
  ge : (un32 * 4294967296 + un1) / Y ≤ q

theorem Guess.prod {Y yn1 yn0 un32 un1 q rh : Int} (g : Guess Y yn1 yn0 un32 un1 q rh) : q * Y = (un32 - rh) * 4294967296 + q * yn0 ∧ 0 ≤ q * yn0 ∧ q * yn0 ≤ 18446744073709551615 := by
  have h := mul_lt (m := 4294967297) (n := 4294967295) g.q0 g.y0 g.q1 (by have := g.y0'; omega)
  refine ⟨?_, h.1, by omega⟩
  rw [g.hY, Int.mul_add, ← Int.mul_assoc, show q * yn1 = un32 - rh from by have := g.eq; omega]

theorem Guess.pos {Y yn1 yn0 un32 un1 q rh : Int} (g : Guess Y yn1 yn0 un32 un1 q rh) : 0 < Y := by have := g.hY; have := g.y1; have := g.y0; omega

theorem Guess.digit {Y yn1 yn0 un32 un1 q rh : Int} (g : Guess Y yn1 yn0 un32 un1 q rh) (h : 0 ≤ un32) : 0 ≤ (un32 * 4294967296 + un1) / Y ∧ (un32 * 4294967296 + un1) / Y < 4294967296 := by
  have hp := g.pos
  have := g.u1; have := g.u1'; have := g.lt
  refine ⟨Int.ediv_nonneg (by omega) (by omega), ?_⟩
  rw [Int.ediv_lt_iff_lt_mul hp]; omega

/-- The digit is right, if it is not too great. -/
theorem Guess.done {Y yn1 yn0 un32 un1 q rh : Int} (g : Guess Y yn1 yn0 un32 un1 q rh) (h : q * yn0 ≤ 4294967296 * rh + un1) : q = (un32 * 4294967296 + un1) / Y := by
  have hp := g.pos
  have h1 := g.prod.1
  have h2 : q ≤ (un32 * 4294967296 + un1) / Y := by
    rw [Int.le_ediv_iff_mul_le hp]; omega
  have := g.ge
  omega

theorem Guess.next {Y yn1 yn0 un32 un1 q rh : Int} (g : Guess Y yn1 yn0 un32 un1 q rh) (hu : 0 ≤ un32) (h : 4294967296 ≤ q ∨ 4294967296 * rh + un1 < q * yn0) : Guess Y yn1 yn0 un32 un1 (q - 1) (rh + yn1) ∧ 1 ≤ q := by
  have hp := g.pos
  have h1 := g.prod.1
  have hd := g.digit hu
  have hlt : (un32 * 4294967296 + un1) / Y < q := by
    rcases h with h | h
    · omega
    · rw [Int.ediv_lt_iff_lt_mul hp]; omega
  have := g.q1; have := g.r0; have := g.y1
  exact ⟨⟨g.hY, g.y1, g.y1', g.y0, g.y0', g.u1, g.u1', g.lt, by omega, by rw [Int.sub_mul, Int.one_mul]; have := g.eq; omega, by omega, by omega, by omega⟩, by omega⟩

theorem div_l17 (N : Nat) {Y s yn1 yn0 un32 un1 un0 : Int} (hu : 0 ≤ un32) (hu' : un32 < 18446744073709551616) : ∀ (m n : Nat) (q rh : Int), Guess Y yn1 yn0 un32 un1 q rh → rh < 4294967296 → 4294967296 - rh ≤ 2147483648 * m → m < n →
    bits_Div64.l17 N n Y s yn1 yn0 un32 un1 un0 q rh = bits_Div64.j21 N Y s yn1 yn0 un32 un1 un0 ((un32 * 4294967296 + un1) / Y)
  | m, 0, q, rh, _, _, _, hn => by omega
  | m, n + 1, q, rh, g, hr, hm, hn => by
    unfold bits_Div64.l17 bits_Div64.l17b
    have hpr := g.prod
    have hd := g.digit hu
    obtain ⟨hY, y1, y1', y0, y0', u1, u1', lt, q0, eq, r0, q1, ge⟩ := id g
    have go : (4294967296 ≤ q ∨ 4294967296 * rh + un1 < q * yn0) →
        (cond (leB (4294967296 : Int) (W .u64 (rh + yn1))) (bits_Div64.j21 N Y s yn1 yn0 un32 un1 un0 (W .u64 (q - 1))) (bits_Div64.l17 N n Y s yn1 yn0 un32 un1 un0 (W .u64 (q - 1)) (W .u64 (rh + yn1)))) = bits_Div64.j21 N Y s yn1 yn0 un32 un1 un0 ((un32 * 4294967296 + un1) / Y) := fun h => by
      obtain ⟨g', hq⟩ := g.next hu h
      rw [W_u64 (x := rh + yn1) (by omega) (by omega), W_u64 (x := q - 1) (by omega) (by omega)]
      by_cases hb : 4294967296 ≤ rh + yn1
      · rw [leB_t hb, cond_true]
        have hp' := g'.prod
        rw [g'.done (by omega)]
      · rw [leB_f (by omega), cond_false]
        exact div_l17 N hu hu' (m - 1) n (q - 1) (rh + yn1) g' (by omega) (by omega) (by omega)
    by_cases h1 : 4294967296 ≤ q
    · rw [leB_t h1, cond_true]
      exact go (.inl h1)
    · rw [leB_f (by omega), cond_false, W_u64 (x := 4294967296 * rh) (by omega) (by omega), W_u64 (x := 4294967296 * rh + un1) (by omega) (by omega), W_u64 (x := q * yn0) (by omega) (by omega)]
      by_cases h2 : 4294967296 * rh + un1 < q * yn0
      · rw [ltB_t h2, cond_true]
        exact go (.inr h2)
      · rw [ltB_f (by omega), cond_false, g.done (by omega)]

theorem div_l24 (N : Nat) {Y s yn1 yn0 un32 un1 a b : Int} (hu : 0 ≤ un32) (hu' : un32 < 18446744073709551616) : ∀ (m n : Nat) (q rh : Int), Guess Y yn1 yn0 un32 un1 q rh → rh < 4294967296 → 4294967296 - rh ≤ 2147483648 * m → m < n →
    bits_Div64.l24 N n Y s yn1 yn0 un1 a rh un32 q = bits_Div64.j28 N Y s un1 a un32 ((un32 * 4294967296 + un1) / Y)
  | m, 0, q, rh, _, _, _, hn => by omega
  | m, n + 1, q, rh, g, hr, hm, hn => by
    unfold bits_Div64.l24 bits_Div64.l24b
    have hpr := g.prod
    have hd := g.digit hu
    obtain ⟨hY, y1, y1', y0, y0', u1, u1', lt, q0, eq, r0, q1, ge⟩ := id g
    have go : (4294967296 ≤ q ∨ 4294967296 * rh + un1 < q * yn0) →
        (cond (leB (4294967296 : Int) (W .u64 (rh + yn1))) (bits_Div64.j28 N Y s un1 a un32 (W .u64 (q - 1))) (bits_Div64.l24 N n Y s yn1 yn0 un1 a (W .u64 (rh + yn1)) un32 (W .u64 (q - 1)))) = bits_Div64.j28 N Y s un1 a un32 ((un32 * 4294967296 + un1) / Y) := fun h => by
      obtain ⟨g', hq⟩ := g.next hu h
      rw [W_u64 (x := rh + yn1) (by omega) (by omega), W_u64 (x := q - 1) (by omega) (by omega)]
      by_cases hb : 4294967296 ≤ rh + yn1
      · rw [leB_t hb, cond_true]
        have hp' := g'.prod
        rw [g'.done (by omega)]
      · rw [leB_f (by omega), cond_false]
        exact div_l24 N (b := b) hu hu' (m - 1) n (q - 1) (rh + yn1) g' (by omega) (by omega) (by omega)
    by_cases h1 : 4294967296 ≤ q
    · rw [leB_t h1, cond_true]
      exact go (.inl h1)
    · rw [leB_f (by omega), cond_false, W_u64 (x := 4294967296 * rh) (by omega) (by omega), W_u64 (x := 4294967296 * rh + un1) (by omega) (by omega), W_u64 (x := q * yn0) (by omega) (by omega)]
      by_cases h2 : 4294967296 * rh + un1 < q * yn0
      · rw [ltB_t h2, cond_true]
        exact go (.inr h2)
      · rw [ltB_f (by omega), cond_false, g.done (by omega)]

/-- The first guess. -/
theorem Guess.first {Y yn1 yn0 un32 un1 : Int} (hY : Y = yn1 * 4294967296 + yn0) (y1 : 2147483648 ≤ yn1) (y1' : yn1 < 4294967296) (y0 : 0 ≤ yn0) (y0' : yn0 < 4294967296) (u1 : 0 ≤ un1) (u1' : un1 < 4294967296) (hu : 0 ≤ un32) (lt : un32 < Y) :
    Guess Y yn1 yn0 un32 un1 (un32 / yn1) (un32 - un32 / yn1 * yn1) ∧ un32 - un32 / yn1 * yn1 < 4294967296 ∧ 0 ≤ un32 / yn1 * yn1 ∧ un32 / yn1 * yn1 ≤ un32 := by
  have h1 := Int.mul_ediv_add_emod un32 yn1
  have h2 := Int.emod_lt_of_pos un32 (show 0 < yn1 by omega)
  have h3 := Int.emod_nonneg un32 (show yn1 ≠ 0 by omega)
  have hq0 : 0 ≤ un32 / yn1 := Int.ediv_nonneg hu (by omega)
  rw [Int.mul_comm] at h1
  have hq1 : un32 / yn1 ≤ 4294967297 := by
    have : un32 / yn1 < 4294967298 := by rw [Int.ediv_lt_iff_lt_mul (by omega)]; omega
    omega
  have hge : (un32 * 4294967296 + un1) / Y ≤ un32 / yn1 := by
    have hlt : un32 * 4294967296 + un1 < (un32 / yn1 + 1) * Y := by
      have e : un32 + 1 ≤ (un32 / yn1 + 1) * yn1 := by rw [Int.add_mul, Int.one_mul]; omega
      have e2 : (un32 / yn1 + 1) * Y = (un32 / yn1 + 1) * yn1 * 4294967296 + (un32 / yn1 + 1) * yn0 := by rw [hY, Int.mul_add, Int.mul_assoc]
      have e3 : 0 ≤ (un32 / yn1 + 1) * yn0 := Int.mul_nonneg (by omega) y0
      omega
    have : (un32 * 4294967296 + un1) / Y < un32 / yn1 + 1 := by rw [Int.ediv_lt_iff_lt_mul (by omega)]; exact hlt
    omega
  exact ⟨⟨hY, y1, y1', y0, y0', u1, u1', lt, hq0, by omega, by omega, hq1, hge⟩, by omega, Int.mul_nonneg hq0 (by omega), by omega⟩

theorem or_shift {a b : Int} {k : Nat} (ha : 0 ≤ a) (ha1 : a < 2 ^ k) (hb : 0 ≤ b) (h : b * 2 ^ k < 18446744073709551616) (hk : k < 64) : bitw .or .u64 (b * 2 ^ k) a = b * 2 ^ k + a := by
  have hp : (0 : Int) < 2 ^ k := Int.pow_pos (by decide)
  have hpn : ((2 ^ k : Nat) : Int) = 2 ^ k := by rw [Int.natCast_pow]; rfl
  have hp64 : (2 : Int) ^ k ≤ 2 ^ 63 := by
    rw [← hpn, show (2 : Int) ^ 63 = ((2 ^ 63 : Nat) : Int) from by decide]
    exact_mod_cast Nat.pow_le_pow_right (by decide) (by omega)
  have hp64' : (2 : Int) ^ 63 = 9223372036854775808 := by decide
  have hb2 := Int.mul_nonneg hb (Int.le_of_lt hp)
  rw [bitw_or hb2 h ha (by omega)]
  have h1 := Nat.two_pow_add_eq_or_of_lt (i := k) (b := a.toNat) (by
    have : ((a.toNat : Nat) : Int) < ((2 ^ k : Nat) : Int) := by rw [hpn, Int.toNat_of_nonneg ha]; exact ha1
    exact_mod_cast this) b.toNat
  have e : (b * 2 ^ k).toNat = 2 ^ k * b.toNat := by
    have : ((2 ^ k * b.toNat : Nat) : Int) = b * 2 ^ k := by rw [Int.natCast_mul, hpn, Int.toNat_of_nonneg hb, Int.mul_comm]
    omega
  rw [e, ← h1, Int.natCast_add, Int.natCast_mul, hpn, Int.toNat_of_nonneg hb, Int.toNat_of_nonneg ha, Int.mul_comm]

theorem Div64_eq (N : Nat) (hN : 100 ≤ N) {hi lo y : Int} (h0 : 0 ≤ hi) (h1 : hi < y) (l0 : 0 ≤ lo) (l1 : lo < 18446744073709551616) (y1 : y < 18446744073709551616) :
    bits_Div64 N hi lo y = some ((hi * 18446744073709551616 + lo) / y, (hi * 18446744073709551616 + lo) % y) := by
  unfold bits_Div64 bits_Div64.b
  rw [eqB_f (show y ≠ 0 by omega), cond_false, leB_f (by omega), cond_false]
  by_cases hz : hi = 0
  · subst hz
    rw [eqB_t rfl, cond_true, cond_false, cond_false, quo_eq, rem_eq, Int.tdiv_eq_ediv_of_nonneg l0, Int.tmod_eq_emod_of_nonneg l0]
    have e1 : 0 ≤ lo / y := Int.ediv_nonneg l0 (by omega)
    have e2 : lo / y ≤ lo := Int.ediv_le_self _ l0
    rw [W_u64 (by omega) (by omega)]
    simp
  · rw [eqB_f hz, cond_false]
    obtain ⟨b1, b2⟩ := bitLen_spec y.toNat
    have b2 := b2 (by omega)
    obtain ⟨L, hL⟩ : ∃ L, L = bitLen y.toNat := ⟨_, rfl⟩
    rw [← hL] at b1 b2
    have hL1 : 1 ≤ L := by rw [hL, bitLen_pos (by omega)]; omega
    have hL64 : L ≤ 64 := by
      rcases Nat.lt_or_ge 64 L with h | h
      · have h3 : 2 ^ 64 ≤ 2 ^ (L - 1) := Nat.pow_le_pow_right (by decide) (by omega)
        have : (2 : Nat) ^ 64 = 18446744073709551616 := by decide
        omega
      · exact h
    have hl : bits_LeadingZeros64 N y = some (64 - (L : Int)) := by
      unfold bits_LeadingZeros64
      rw [Len64_eq N (by omega) y1, Option.bind_some, ← hL, W_i64 (by omega) (by omega)]
    obtain ⟨s, hs⟩ : ∃ s : Nat, s = 64 - L := ⟨_, rfl⟩
    have hsI : 64 - (L : Int) = (s : Int) := by omega
    rw [hl, Option.bind_some, hsI]
    clear hl
    -- the powers
    have hpn : ∀ k : Nat, ((2 ^ k : Nat) : Int) = 2 ^ k := fun k => by rw [Int.natCast_pow]; rfl
    obtain ⟨p, hp⟩ : ∃ p : Int, p = 2 ^ s := ⟨_, rfl⟩
    obtain ⟨p', hp'⟩ : ∃ p' : Int, p' = 2 ^ (64 - s) := ⟨_, rfl⟩
    have hpp : p' * p = 18446744073709551616 := by
      rw [hp, hp', ← Int.pow_add, show 64 - s + s = 64 from by omega]; decide
    have hp0 : 0 < p := by rw [hp]; exact Int.pow_pos (by decide)
    have hp0' : 0 < p' := by rw [hp']; exact Int.pow_pos (by decide)
    have hy1 : y * p < 18446744073709551616 := by
      have h : y.toNat * 2 ^ s < 2 ^ L * 2 ^ s := Nat.mul_lt_mul_of_pos_right b1 (Nat.pow_pos (by decide))
      rw [← Nat.pow_add, show L + s = 64 from by omega, show (2 : Nat) ^ 64 = 18446744073709551616 from by decide] at h
      have : ((y.toNat * 2 ^ s : Nat) : Int) = y * p := by rw [Int.natCast_mul, hpn, ← hp, Int.toNat_of_nonneg (by omega)]
      omega
    have hy2 : 9223372036854775808 ≤ y * p := by
      have h : 2 ^ (L - 1) * 2 ^ s ≤ y.toNat * 2 ^ s := Nat.mul_le_mul_right _ b2
      rw [← Nat.pow_add, show L - 1 + s = 63 from by omega, show (2 : Nat) ^ 63 = 9223372036854775808 from by decide] at h
      have : ((y.toNat * 2 ^ s : Nat) : Int) = y * p := by rw [Int.natCast_mul, hpn, ← hp, Int.toNat_of_nonneg (by omega)]
      omega
    -- the words, moved
    have hshl : ∀ x : Int, shl .u64 x (s : Int) = x * p := fun x => by rw [shl_u64 (by omega) (by omega), hp]; rfl
    have hshr : shr .u64 lo (64 - (s : Int)) = lo * p / 18446744073709551616 := by
      rw [shr_u64 (by omega) (by omega), show (64 - (s : Int)).toNat = 64 - s from by omega, ← hp', ← hpp, Int.mul_ediv_mul_of_pos_left _ _ hp0]
    have hhp : hi * p + p ≤ y * p := by
      have := Int.mul_le_mul_of_nonneg_right (show hi + 1 ≤ y by omega) (Int.le_of_lt hp0)
      rw [Int.add_mul, Int.one_mul] at this; exact this
    have hhp0 : 0 ≤ hi * p := Int.mul_nonneg h0 (Int.le_of_lt hp0)
    have hlp0 : 0 ≤ lo * p := Int.mul_nonneg l0 (Int.le_of_lt hp0)
    have hlp1 : lo * p < 18446744073709551616 * p := Int.mul_lt_mul_of_pos_right l1 hp0
    have ht1 : lo * p / 18446744073709551616 < p := by rw [Int.ediv_lt_iff_lt_mul (by omega), Int.mul_comm p]; exact hlp1
    have ht0 : 0 ≤ lo * p / 18446744073709551616 := Int.ediv_nonneg hlp0 (by omega)
    have hor : bitw .or .u64 (hi * p) (lo * p / 18446744073709551616) = hi * p + lo * p / 18446744073709551616 := by
      have := or_shift (k := s) (a := lo * p / 18446744073709551616) (b := hi) ht0 (by rw [← hp]; exact ht1) h0 (by rw [← hp]; omega) (by omega)
      rw [← hp] at this; exact this
    obtain ⟨Y, hY⟩ : ∃ Y, Y = y * p := ⟨_, rfl⟩
    have hU : (hi * 18446744073709551616 + lo) * p = (hi * p + lo * p / 18446744073709551616) * 18446744073709551616 + lo * p % 18446744073709551616 := by
      rw [Int.add_mul, Int.mul_assoc, Int.mul_comm 18446744073709551616 p, ← Int.mul_assoc]; omega
    have hws : W .u64 (s : Int) = (s : Int) := W_u64 (by omega) (by omega)
    have hws' : W .u64 (64 - (s : Int)) = 64 - (s : Int) := W_u64 (by omega) (by omega)
    have hwl : W .u64 (lo * p) = lo * p % 18446744073709551616 := W_mod _
    simp only [hws, hws', hshl, hshr, hwl]
    rw [← hY] at hy1 hy2 hhp ⊢
    have hwy : W .u64 Y = Y := W_u64 (by omega) (by omega)
    have hwh : W .u64 (hi * p) = hi * p := W_u64 (by omega) (by omega)
    simp only [hwy, hwh, hor]
    obtain ⟨u, hu⟩ : ∃ u, u = hi * p + lo * p / 18446744073709551616 := ⟨_, rfl⟩
    obtain ⟨v, hv⟩ : ∃ v, v = lo * p % 18446744073709551616 := ⟨_, rfl⟩
    rw [← hu, ← hv] at hU ⊢
    have hv0 : 0 ≤ v := by omega
    have hv1 : v < 18446744073709551616 := by omega
    have hu0 : 0 ≤ u := by omega
    have hu1 : u < Y := by omega
    have hmy : bitw .and .u64 Y 4294967295 = Y % 4294967296 := and_mask32 (by omega) (by omega)
    have hmv : bitw .and .u64 v 4294967295 = v % 4294967296 := and_mask32 hv0 hv1
    obtain ⟨g1, g2, g3, g4⟩ := Guess.first (Y := Y) (yn1 := Y / 4294967296) (yn0 := Y % 4294967296) (un32 := u) (un1 := v / 4294967296) (by omega) (by omega) (by omega) (by omega) (by omega) (by omega) (by omega) hu0 hu1
    have hq : quo u (Y / 4294967296) = u / (Y / 4294967296) := by rw [quo_eq, Int.tdiv_eq_ediv_of_nonneg hu0]
    have hwq : W .u64 (u / (Y / 4294967296)) = u / (Y / 4294967296) := W_u64 g1.q0 (by have := g1.q1; omega)
    have hwm : W .u64 (u / (Y / 4294967296) * (Y / 4294967296)) = u / (Y / 4294967296) * (Y / 4294967296) := W_u64 g3 (by omega)
    have hwr : W .u64 (u - u / (Y / 4294967296) * (Y / 4294967296)) = u - u / (Y / 4294967296) * (Y / 4294967296) := W_u64 (by omega) (by omega)
    rw [ltB_f (show (0 : Int) ≤ s by omega), ltB_f (show (0 : Int) ≤ 32 by omega), ltB_f (show (0 : Int) ≤ 64 - (s : Int) by omega), shr32, shr32, hmy, hmv, eqB_f (show Y / 4294967296 ≠ 0 by omega), hq, hwq, hwm, hwr]
    simp only [cond_false]
    rw [div_l17 N hu0 (by omega) 3 N _ _ g1 g2 (by omega) (by omega)]
    have d1 := g1.digit hu0
    clear hq hwq hwm hwr g1 g2 g3 g4
    -- the second digit
    obtain ⟨q1, hq1⟩ : ∃ q1, q1 = (u * 4294967296 + v / 4294967296) / Y := ⟨_, rfl⟩
    have m1 := Int.mul_ediv_add_emod (u * 4294967296 + v / 4294967296) Y
    have m2 := Int.emod_lt_of_pos (u * 4294967296 + v / 4294967296) (show 0 < Y by omega)
    have m3 := Int.emod_nonneg (u * 4294967296 + v / 4294967296) (show Y ≠ 0 by omega)
    rw [← hq1] at d1 m1 ⊢
    obtain ⟨r1, hr1⟩ : ∃ r1, r1 = (u * 4294967296 + v / 4294967296) % Y := ⟨_, rfl⟩
    rw [← hr1] at m1 m2 m3
    rw [Int.mul_comm] at m1
    unfold bits_Div64.j21 bits_Div64.j21b
    have hwr1 : W .u64 (W .u64 (W .u64 (u * 4294967296) + v / 4294967296) - W .u64 (q1 * Y)) = r1 := by
      simp only [W_mod]
      generalize q1 * Y = z at *
      omega
    simp only [hwr1]
    obtain ⟨g1, g2, g3, g4⟩ := Guess.first (Y := Y) (yn1 := Y / 4294967296) (yn0 := Y % 4294967296) (un32 := r1) (un1 := v % 4294967296) (by omega) (by omega) (by omega) (by omega) (by omega) (by omega) (by omega) m3 m2
    have hq : quo r1 (Y / 4294967296) = r1 / (Y / 4294967296) := by rw [quo_eq, Int.tdiv_eq_ediv_of_nonneg m3]
    have hwq : W .u64 (r1 / (Y / 4294967296)) = r1 / (Y / 4294967296) := W_u64 g1.q0 (by have := g1.q1; omega)
    have hwm : W .u64 (r1 / (Y / 4294967296) * (Y / 4294967296)) = r1 / (Y / 4294967296) * (Y / 4294967296) := W_u64 g3 (by omega)
    have hwr : W .u64 (r1 - r1 / (Y / 4294967296) * (Y / 4294967296)) = r1 - r1 / (Y / 4294967296) * (Y / 4294967296) := W_u64 (by omega) (by omega)
    rw [eqB_f (show Y / 4294967296 ≠ 0 by omega), hq, hwq, hwm, hwr, cond_false, div_l24 N (b := 0) m3 (by omega) 3 N _ _ g1 g2 (by omega) (by omega)]
    have d0 := g1.digit m3
    clear hq hwq hwm hwr g1 g2 g3 g4
    obtain ⟨q0, hq0⟩ : ∃ q0, q0 = (r1 * 4294967296 + v % 4294967296) / Y := ⟨_, rfl⟩
    have n1 := Int.mul_ediv_add_emod (r1 * 4294967296 + v % 4294967296) Y
    have n2 := Int.emod_lt_of_pos (r1 * 4294967296 + v % 4294967296) (show 0 < Y by omega)
    have n3 := Int.emod_nonneg (r1 * 4294967296 + v % 4294967296) (show Y ≠ 0 by omega)
    rw [← hq0] at d0 n1 ⊢
    obtain ⟨r0, hr0⟩ : ∃ r0, r0 = (r1 * 4294967296 + v % 4294967296) % Y := ⟨_, rfl⟩
    rw [← hr0] at n1 n2 n3
    rw [Int.mul_comm] at n1
    unfold bits_Div64.j28 bits_Div64.j28b
    have hwr0 : W .u64 (W .u64 (W .u64 (r1 * 4294967296) + v % 4294967296) - W .u64 (q0 * Y)) = r0 := by
      simp only [W_mod]
      generalize q0 * Y = z at *
      omega
    rw [ltB_f (show (0 : Int) ≤ s by omega), cond_false, hwr0, W_u64 (x := q1 * 4294967296) (by omega) (by omega), W_u64 (x := q1 * 4294967296 + q0) (by omega) (by omega), shr_u64 (by omega) (by omega), Int.toNat_natCast, ← hp]
    -- together
    obtain ⟨V, hV⟩ : ∃ V, V = hi * 18446744073709551616 + lo := ⟨_, rfl⟩
    obtain ⟨Q, hQ⟩ : ∃ Q, Q = q1 * 4294967296 + q0 := ⟨_, rfl⟩
    rw [← hV] at hU ⊢
    rw [← hQ]
    have hQY : Q * Y = q1 * Y * 4294967296 + q0 * Y := by rw [hQ, Int.add_mul, Int.mul_assoc, Int.mul_comm 4294967296 Y, ← Int.mul_assoc]
    have hfin : V * p = Q * Y + r0 := by rw [hU, hQY]; generalize q1 * Y = z1 at *; generalize q0 * Y = z0 at *; omega
    have hr0p : r0 = (V - Q * y) * p := by rw [Int.sub_mul, Int.mul_assoc, ← hY]; omega
    have hd0 : 0 ≤ V - Q * y := by
      by_cases h : V - Q * y < 0
      · have := Int.mul_neg_of_neg_of_pos h hp0; omega
      · omega
    have hd1 : V - Q * y < y := by
      by_cases h : V - Q * y < y
      · exact h
      · have := Int.mul_le_mul_of_nonneg_right (show y ≤ V - Q * y by omega) (Int.le_of_lt hp0); rw [← hr0p, ← hY] at this; omega
    have hVe : V = (V - Q * y) + y * Q := by rw [Int.mul_comm y Q]; omega
    have e1 : V / y = Q := by
      rw [hVe, Int.add_mul_ediv_left _ _ (by omega), Int.ediv_eq_zero_of_lt hd0 hd1]; omega
    have e2 : V % y = V - Q * y := by
      have := Int.mul_ediv_add_emod V y
      rw [e1, Int.mul_comm] at this; omega
    rw [e1, e2, hr0p, Int.mul_ediv_cancel _ (by omega)]
end VM
end

section
/- Plain laws: Wide. -/
set_option linter.unusedSimpArgs false
set_option linter.unusedVariables false
namespace VM
open Go VM.F

def wideN (v : Int) : Ty.den tWide := (v / 18446744073709551616, (v % 18446744073709551616, ()))

theorem wmk {a b v : Int} (h1 : a = v / 18446744073709551616) (h2 : b = v % 18446744073709551616) : ((a, (b, ())) : Ty.den tWide) = wideN v := by
  unfold wideN; rw [h1, h2]
theorem wsome {a b v : Int} {α : Type} {c : α} (h1 : a = v / 18446744073709551616) (h2 : b = v % 18446744073709551616) : (some (((a, (b, ())) : Ty.den tWide), c) : Option (Ty.den tWide × α)) = some (wideN v, c) := by
  rw [wmk h1 h2]
theorem psome {a b c d : Int} (h1 : a = c) (h2 : b = d) : (some (a, b) : Option (Int × Int)) = some (c, d) := by rw [h1, h2]

theorem signed_pos (N : Nat) {hi lo : Int} (h0 : 0 ≤ hi) (h1 : hi < 9223372036854775808) (l0 : 0 ≤ lo) (l1 : lo < 18446744073709551616) : wide_signed N false hi lo = some (wideN (hi * 18446744073709551616 + lo), true) := by
  unfold wide_signed wide_signed.b
  rw [Bool.not_false, cond_true, leB_f (by omega), cond_false, W_i64 (by omega) (by omega)]
  exact wsome (by omega) (by omega)

theorem signed_neg (N : Nat) {hi lo : Int} (h0 : 0 ≤ hi) (l0 : 0 ≤ lo) (l1 : lo < 18446744073709551616) (hm : hi * 18446744073709551616 + lo ≤ 170141183460469231731687303715884105728) : wide_signed N true hi lo = some (wideN (-(hi * 18446744073709551616 + lo)), true) := by
  unfold wide_signed wide_signed.b
  have hj : wide_signed.j7 N hi lo ((0 : Int), ((0 : Int), ())) = some (wideN (-(hi * 18446744073709551616 + lo)), true) := by
    unfold wide_signed.j7 wide_signed.j7b
    rw [sub64_eq N (by omega) (by omega) l0 l1 (by omega) (by omega), Option.bind_some]
    by_cases hl : lo = 0
    · subst hl
      rw [if_neg (by omega)]
      rw [sub64_eq N (by omega) (by omega) h0 (by omega) (by omega) (by omega), Option.bind_some, W_i64_def]
      exact wsome (by split <;> omega) (by omega)
    · rw [if_pos (by omega)]
      rw [sub64_eq N (by omega) (by omega) h0 (by omega) (by omega) (by omega), Option.bind_some, W_i64_def]
      exact wsome (by split <;> omega) (by omega)
  rw [Bool.not_true, cond_false, ltB_f (by omega), cond_false]
  by_cases he : hi = 9223372036854775808
  · rw [eqB_t he, cond_true, ltB_f (by omega), cond_false]; exact hj
  · rw [eqB_f he, cond_false]; exact hj

theorem natAbs_mul_le {a b : Int} (a0 : -9223372036854775808 ≤ a) (a1 : a < 9223372036854775808) (b0 : -9223372036854775808 ≤ b) (b1 : b < 9223372036854775808) :
    0 ≤ (a.natAbs : Int) * b.natAbs ∧ (a.natAbs : Int) * b.natAbs ≤ 85070591730234615865843651857942052864 := by
  have := mul_lt (m := 9223372036854775808) (n := 9223372036854775808) (show 0 ≤ (a.natAbs : Int) by omega) (show 0 ≤ (b.natAbs : Int) by omega) (by omega) (by omega)
  omega

theorem wMul_eq (N : Nat) {a b : Int} (a0 : -9223372036854775808 ≤ a) (a1 : a < 9223372036854775808) (b0 : -9223372036854775808 ≤ b) (b1 : b < 9223372036854775808) : wide_Mul N a b = some (wideN (a * b)) := by
  unfold wide_Mul
  have hm := natAbs_mul_le a0 a1 b0 b1
  simp only [Size_eq N a0 a1, Size_eq N b0 b1, Option.bind_some, Mul64_eq N (show 0 ≤ (a.natAbs : Int) by omega) (by omega) (show 0 ≤ (b.natAbs : Int) by omega) (by omega), teq_bool]
  obtain ⟨m, hme⟩ : ∃ m, m = (a.natAbs : Int) * b.natAbs := ⟨_, rfl⟩
  rw [← hme] at hm ⊢
  have hd : m / 18446744073709551616 * 18446744073709551616 + m % 18446744073709551616 = m := by omega
  by_cases h1 : a < 0 <;> by_cases h2 : b < 0
  · rw [ltB_t h1, ltB_t h2, beq_self_eq_true, Bool.not_true, signed_pos N (by omega) (by omega) (by omega) (by omega), Option.bind_some, hd]
    have : m = a * b := by rw [hme, show (a.natAbs : Int) = -a from by omega, show (b.natAbs : Int) = -b from by omega, Int.neg_mul_neg]
    rw [this]
  · rw [ltB_t h1, ltB_f (x := b) (by omega), show (!(true == false)) = true from rfl, signed_neg N (by omega) (by omega) (by omega) (by omega), Option.bind_some, hd]
    have : m = -(a * b) := by rw [hme, show (a.natAbs : Int) = -a from by omega, show (b.natAbs : Int) = b from by omega, Int.neg_mul]
    rw [this, Int.neg_neg]
  · rw [ltB_f (x := a) (by omega), ltB_t h2, show (!(false == true)) = true from rfl, signed_neg N (by omega) (by omega) (by omega) (by omega), Option.bind_some, hd]
    have : m = -(a * b) := by rw [hme, show (a.natAbs : Int) = a from by omega, show (b.natAbs : Int) = -b from by omega, Int.mul_neg]
    rw [this, Int.neg_neg]
  · rw [ltB_f (x := a) (by omega), ltB_f (x := b) (by omega), beq_self_eq_true, Bool.not_true, signed_pos N (by omega) (by omega) (by omega) (by omega), Option.bind_some, hd]
    have : m = a * b := by rw [hme, show (a.natAbs : Int) = a from by omega, show (b.natAbs : Int) = b from by omega]
    rw [this]

theorem wsize_eq (N : Nat) {v : Int} (v0 : -170141183460469231731687303715884105728 ≤ v) (v1 : v < 170141183460469231731687303715884105728) : wide_size N (wideN v) = some ((v.natAbs : Int) / 18446744073709551616, (v.natAbs : Int) % 18446744073709551616) := by
  unfold wide_size wideN
  dsimp only
  by_cases h : 0 ≤ v
  · rw [leB_t (by omega), cond_true, W_u64 (by omega) (by omega)]
    exact psome (by omega) (by omega)
  · rw [leB_f (by omega), cond_false, sub64_eq N (by omega) (by omega) (by omega) (by omega) (by omega) (by omega), Option.bind_some]
    dsimp only
    rw [W_mod]
    by_cases hl : v % 18446744073709551616 = 0
    · rw [if_neg (by omega), sub64_eq N (by omega) (by omega) (by omega) (by omega) (by omega) (by omega), Option.bind_some]
      exact psome (by omega) (by omega)
    · rw [if_pos (by omega), sub64_eq N (by omega) (by omega) (by omega) (by omega) (by omega) (by omega), Option.bind_some]
      exact psome (by omega) (by omega)

theorem div_two {m d : Int} (hd : 0 < d) (hm : 0 ≤ m) : m / d = m / 18446744073709551616 / d * 18446744073709551616 + (m / 18446744073709551616 % d * 18446744073709551616 + m % 18446744073709551616) / d ∧
    m % d = (m / 18446744073709551616 % d * 18446744073709551616 + m % 18446744073709551616) % d := by
  have e := Int.mul_ediv_add_emod (m / 18446744073709551616) d
  have e0 : m = (m / 18446744073709551616 % d * 18446744073709551616 + m % 18446744073709551616) + d * (m / 18446744073709551616 / d * 18446744073709551616) := by
    rw [← Int.mul_assoc]; omega
  constructor
  · conv => lhs; rw [e0]
    rw [Int.add_mul_ediv_left _ _ (by omega)]; omega
  · conv => lhs; rw [e0]
    rw [Int.add_mul_emod_self_left]

theorem wDiv_eq (N : Nat) (hN : 100 ≤ N) {v d : Int} (v0 : -170141183460469231731687303715884105728 ≤ v) (v1 : v < 170141183460469231731687303715884105728) (d0 : 0 < d) (d1 : d < 9223372036854775808) :
    wide_Div N (wideN v) d = some (wideN (v / d), v % d, true) := by
  unfold wide_Div wide_Div.b
  rw [ltB_f (by omega), cond_false, wsize_eq N v0 v1, Option.bind_some, W_u64 (x := d) (by omega) (by omega)]
  dsimp only
  obtain ⟨m, hm⟩ : ∃ m : Int, m = v.natAbs := ⟨_, rfl⟩
  rw [← hm]
  have hmd := Int.emod_lt_of_pos (m / 18446744073709551616) d0
  have hmd0 := Int.emod_nonneg (m / 18446744073709551616) (show d ≠ 0 by omega)
  rw [Div64_eq N hN (by omega) d0 (by omega) (by omega) (by omega), Option.bind_some, Int.zero_mul, Int.zero_add]
  dsimp only
  rw [Div64_eq N hN hmd0 hmd (by omega) (by omega) (by omega), Option.bind_some]
  dsimp only
  obtain ⟨e1, e2⟩ := div_two d0 (show 0 ≤ m by omega)
  rw [← e2]
  have hq0 : 0 ≤ m / 18446744073709551616 / d := Int.ediv_nonneg (by omega) (by omega)
  have hq1 : m / 18446744073709551616 / d ≤ m / 18446744073709551616 := Int.ediv_le_self _ (by omega)
  have hr1 := Int.emod_lt_of_pos m d0
  have hr0 := Int.emod_nonneg m (show d ≠ 0 by omega)
  have hl0 : 0 ≤ (m / 18446744073709551616 % d * 18446744073709551616 + m % 18446744073709551616) / d := Int.ediv_nonneg (by omega) (by omega)
  have hl1 : (m / 18446744073709551616 % d * 18446744073709551616 + m % 18446744073709551616) / d < 18446744073709551616 := by
    rw [Int.ediv_lt_iff_lt_mul d0]
    have := Int.mul_le_mul_of_nonneg_right (show m / 18446744073709551616 % d + 1 ≤ d by omega) (show (0 : Int) ≤ 18446744073709551616 by omega)
    rw [Int.add_mul, Int.one_mul, Int.mul_comm d] at this; omega
  generalize (m / 18446744073709551616 % d * 18446744073709551616 + m % 18446744073709551616) / d = ql at *
  generalize hqh : m / 18446744073709551616 / d = qh at *
  have hmq := Int.mul_ediv_add_emod m d
  by_cases h : 0 ≤ v
  · have hv : m = v := by omega
    rw [leB_t (show (0 : Int) ≤ (wideN v).1 by show 0 ≤ v / _; omega), cond_true, W_i64 (x := qh) (by omega) (by omega), W_i64 (x := m % d) (by omega) (by omega), ← hv]
    unfold wideN
    exact wsome (by omega) (by omega)
  · have hv : v = -m := by omega
    rw [leB_f (show (wideN v).1 < 0 by show v / _ < 0; omega), cond_false]
    by_cases hr : 0 < m % d
    · rw [ltB_t hr, cond_true, add64_eq N hl0 (by omega) (by omega) (by omega), Option.bind_some]
      unfold wide_Div.j13 wide_Div.j13b
      dsimp only
      rw [W_u64 (x := d - m % d) (by omega) (by omega), W_u64 (x := qh + (ql + 1 + 0) / 18446744073709551616) (by omega) (by omega)]
      rw [signed_neg N (by omega) (by omega) (by omega) (by
        have : m / d * 1 ≤ m / d * d := Int.mul_le_mul_of_nonneg_left (by omega) (Int.ediv_nonneg (by omega) (by omega))
        rw [Int.mul_comm] at hmq; omega), Option.bind_some, W_i64 (x := d - m % d) (by omega) (by omega)]
      have e3 : v = (d - m % d) + d * (-(m / d) - 1) := by rw [hv, Int.mul_sub, Int.mul_neg, Int.mul_one]; omega
      have e4 : v / d = -(m / d) - 1 := by
        rw [e3, Int.add_mul_ediv_left _ _ (by omega), Int.ediv_eq_zero_of_lt (by omega) (by omega)]; omega
      have e5 : v % d = d - m % d := by rw [e3, Int.add_mul_emod_self_left, Int.emod_eq_of_lt (by omega) (by omega)]
      rw [e4, e5]
      dsimp only
      rw [show -((qh + (ql + 1 + 0) / 18446744073709551616) * 18446744073709551616 + (ql + 1 + 0) % 18446744073709551616) = -(m / d) - 1 by omega]
    · have hr' : m % d = 0 := by omega
      rw [ltB_f (by omega), cond_false]
      unfold wide_Div.j13 wide_Div.j13b
      rw [signed_neg N (by omega) (by omega) (by omega) (by
        have : m / d * 1 ≤ m / d * d := Int.mul_le_mul_of_nonneg_left (by omega) (Int.ediv_nonneg (by omega) (by omega))
        rw [Int.mul_comm] at hmq; omega), Option.bind_some, W_i64 (x := m % d) (by omega) (by omega)]
      have e3 : v = d * (-(m / d)) := by rw [hv, Int.mul_neg]; omega
      have e4 : v / d = -(m / d) := by rw [e3, Int.mul_ediv_cancel_left _ (by omega)]
      have e5 : v % d = 0 := by rw [e3, Int.mul_emod_right]
      rw [e4, e5, hr']
      dsimp only
      rw [show -(qh * 18446744073709551616 + ql) = -(m / d) by omega]

theorem wInt_eq (N : Nat) {v : Int} (v0 : -170141183460469231731687303715884105728 ≤ v) (v1 : v < 170141183460469231731687303715884105728) : wide_Int N (wideN v) = some (toI v) := by
  unfold wide_Int wideN
  rw [ltB_f (by omega), cond_false]
  dsimp only
  have hw0 : -9223372036854775808 ≤ W .i64 (v % 18446744073709551616) ∧ W .i64 (v % 18446744073709551616) < 9223372036854775808 := by rw [W_i64_def]; split <;> omega
  rw [shr_i64_63 hw0.1 hw0.2]
  have hwv : W .i64 (v % 18446744073709551616) = if 9223372036854775808 ≤ v % 18446744073709551616 then v % 18446744073709551616 - 18446744073709551616 else v % 18446744073709551616 := by rw [W_i64_def]; split <;> split <;> omega
  rw [hwv]
  unfold toI
  by_cases h : -9223372036854775808 ≤ v ∧ v < 9223372036854775808
  · rw [if_pos h]
    by_cases hn : v < 0
    · rw [if_pos (show 9223372036854775808 ≤ v % 18446744073709551616 by omega), if_pos (by omega), eqB_t (by omega), Bool.not_true, cond_false]
      congr 2; omega
    · rw [if_neg (show ¬ 9223372036854775808 ≤ v % 18446744073709551616 by omega), if_neg (by omega), eqB_t (by omega), Bool.not_true, cond_false]
      congr 2; omega
  · rw [if_neg h]
    by_cases hm : 9223372036854775808 ≤ v % 18446744073709551616
    · rw [if_pos hm, if_pos (by omega), eqB_f (by omega), Bool.not_false, cond_true]
    · rw [if_neg hm, if_neg (by omega), eqB_f (by omega), Bool.not_false, cond_true]

theorem aSum_loop (N : Nat) {l : List Int} (h : ∀ x ∈ l, -9223372036854775808 ≤ x ∧ x < 9223372036854775808) (hl : l.length ≤ 1000000) : ∀ (m n i : Nat), l.length - i ≤ m → m < n → i ≤ l.length →
    amount_Sum.l3 N n ((l.take i).sum / 18446744073709551616) ((l.take i).sum % 18446744073709551616) l (l.length : Int) (i : Int) = some (toI l.sum)
  | m, 0, i, _, hn, _ => by omega
  | m, n + 1, i, hm, hn, hi => by
    unfold amount_Sum.l3 amount_Sum.l3b
    have f1 := sum_fit (l.take i) (fun x hx => h x (List.mem_of_mem_take hx))
    rw [List.length_take, Nat.min_eq_left (by omega)] at f1
    by_cases h1 : i < l.length
    · obtain ⟨g0, g1⟩ := getD_i64 h i
      have hs := sum_take_succ l h1
      simp only [Int.toNat_natCast]
      generalize hx : l.getD i 0 = x at *
      generalize (l.take i).sum = t at *
      rw [W_mod, add64_eq N (by omega) (by omega) (by omega) (by omega)]
      simp only [shr_i64_63 g0 g1]
      have hih := aSum_loop N h hl (m - 1) n (i + 1) (by omega) (by omega) (by omega)
      rw [hs] at hih
      rw [ltB_t (by omega), cond_true, inb_t (by omega) (by omega), cond_true, Option.bind_some, ltB_f (by omega), cond_false]
      by_cases hn : x < 0
      · rw [if_pos hn, W_i64 (x := t / 18446744073709551616 + -1) (by omega) (by omega), W_i64 (x := (_ : Int) / 18446744073709551616) (by omega) (by omega), W_i64 (by omega) (by omega), W_i64 (x := (i : Int) + 1) (by omega) (by omega)]
        refine Eq.trans ?_ hih
        congr 1 <;> omega
      · rw [if_neg hn, W_i64 (x := t / 18446744073709551616 + 0) (by omega) (by omega), W_i64 (x := (_ : Int) / 18446744073709551616) (by omega) (by omega), W_i64 (by omega) (by omega), W_i64 (x := (i : Int) + 1) (by omega) (by omega)]
        refine Eq.trans ?_ hih
        congr 1 <;> omega
    · rw [List.take_of_length_le (by omega)] at f1 ⊢
      rw [ltB_f (by omega), cond_false]
      have := wInt_eq N (v := l.sum) (by omega) (by omega)
      unfold wide_Int wideN at this
      exact this

theorem aSum_eq (N : Nat) {l : List Int} (h : ∀ x ∈ l, -9223372036854775808 ≤ x ∧ x < 9223372036854775808) (hl : l.length ≤ 1000000) (hN : 1000000 < N) : amount_Sum N l = some (toI l.sum) := by
  unfold amount_Sum amount_Sum.b
  have := aSum_loop N h hl l.length N 0 (by omega) (by omega) (by omega)
  rw [List.take_zero, List.sum_nil] at this
  exact this
end VM
end

section
/- Plain laws: orders of places. -/
set_option linter.unusedSimpArgs false
set_option linter.unusedVariables false
namespace VM
open Go VM.F

/-- The number at a place. -/
def at0 (l : List Int) (k : Int) : Int := l.getD k.toNat 0
/-- A place put in ahead of the first one with a smaller number. -/
def ins (l : List Int) : List Int → Int → List Int
  | [], i => [i]
  | k :: t, i => if at0 l i ≤ at0 l k then k :: ins l t i else i :: k :: t
def orderTo (l : List Int) : Nat → List Int
  | 0 => []
  | n + 1 => ins l (orderTo l n) n
def orderL (l : List Int) : List Int := orderTo l l.length
def Ahead (l : List Int) (a b : Int) : Prop := at0 l b < at0 l a ∨ (at0 l b = at0 l a ∧ a < b)

theorem ins_len (l : List Int) : ∀ (o : List Int) (i : Int), (ins l o i).length = o.length + 1
  | [], i => rfl
  | k :: t, i => by unfold ins; split <;> simp [ins_len l t i]
theorem orderTo_len (l : List Int) : ∀ n, (orderTo l n).length = n
  | 0 => rfl
  | n + 1 => by unfold orderTo; rw [ins_len, orderTo_len l n]
theorem orderL_len (l : List Int) : (orderL l).length = l.length := orderTo_len l _
theorem mem_ins (l : List Int) {x : Int} : ∀ {o : List Int} {i : Int}, x ∈ ins l o i ↔ x = i ∨ x ∈ o
  | [], i => by simp [ins]
  | k :: t, i => by
    unfold ins; split
    · rw [List.mem_cons, mem_ins l, List.mem_cons]
      exact ⟨fun h => h.elim (fun h => .inr (.inl h)) (fun h => h.elim .inl (fun h => .inr (.inr h))), fun h => h.elim (fun h => .inr (.inl h)) (fun h => h.elim .inl (fun h => .inr (.inr h)))⟩
    · rw [List.mem_cons]
theorem mem_orderTo (l : List Int) {x : Int} : ∀ {n : Nat}, x ∈ orderTo l n ↔ 0 ≤ x ∧ x < n
  | 0 => ⟨(fun h => nomatch h), fun h => absurd h.1 (by omega)⟩
  | n + 1 => by unfold orderTo; rw [mem_ins, mem_orderTo l]; omega
theorem ins_pairwise (l : List Int) : ∀ {o : List Int} {i : Int}, o.Pairwise (Ahead l) → (∀ x ∈ o, x < i) → (ins l o i).Pairwise (Ahead l)
  | [], i, _, _ => List.pairwise_singleton _ _
  | k :: t, i, h, hi => by
    rw [List.pairwise_cons] at h
    have hk : k < i := hi k (List.mem_cons_self ..)
    unfold ins; split
    · rename_i hle
      rw [List.pairwise_cons]
      refine ⟨fun x hx => ?_, ins_pairwise l h.2 (fun x hx => hi x (List.mem_cons_of_mem _ hx))⟩
      rcases (mem_ins l).1 hx with rfl | hx
      · unfold Ahead; omega
      · exact h.1 x hx
    · rename_i hle
      rw [List.pairwise_cons, List.pairwise_cons]
      refine ⟨fun x hx => ?_, h.1, h.2⟩
      rcases List.mem_cons.1 hx with rfl | hx
      · unfold Ahead; omega
      · have := h.1 x hx; unfold Ahead at *; omega
theorem orderTo_pairwise (l : List Int) : ∀ n, (orderTo l n).Pairwise (Ahead l)
  | 0 => List.Pairwise.nil
  | n + 1 => by unfold orderTo; exact ins_pairwise l (orderTo_pairwise l n) (fun x hx => ((mem_orderTo l).1 hx).2)

theorem ins_at (l : List Int) : ∀ (o : List Int) (i : Int) (p : Nat), p ≤ o.length → (∀ j, j < p → at0 l i ≤ at0 l (o.getD j 0)) → (p < o.length → at0 l (o.getD p 0) < at0 l i) → ins l o i = o.take p ++ i :: o.drop p
  | [], i, p, hp, _, _ => by simp at hp; subst hp; rfl
  | k :: t, i, 0, hp, _, h => by
    unfold ins; rw [if_neg (by have := h (by simp); simp at this; omega)]; rfl
  | k :: t, i, p + 1, hp, h0, h => by
    unfold ins
    have h1 : at0 l i ≤ at0 l k := h0 0 (by omega)
    rw [if_pos h1, ins_at l t i p (by simpa using hp) (fun j hj => by have := h0 (j + 1) (by omega); simpa using this) (fun hp' => by have := h (by simpa using hp'); simpa using this)]
    rfl

theorem ins_sum (l : List Int) (f : Int → Int) : ∀ (o : List Int) (i : Int), ((ins l o i).map f).sum = (o.map f).sum + f i
  | [], i => by simp [ins]
  | k :: t, i => by
    unfold ins; split
    · rw [List.map_cons, List.sum_cons, ins_sum l f t i, List.map_cons, List.sum_cons]; omega
    · simp only [List.map_cons, List.sum_cons]; omega
theorem orderTo_sum (l r : List Int) : ∀ n, n ≤ r.length → ((orderTo l n).map (at0 r)).sum = (r.take n).sum
  | 0, _ => rfl
  | n + 1, h => by
    unfold orderTo; rw [ins_sum, orderTo_sum l r n (by omega), sum_take_succ r (by omega)]
    unfold at0; rw [Int.toNat_natCast]
theorem orderL_sum (l r : List Int) (h : l.length = r.length) : ((orderL l).map (at0 r)).sum = r.sum := by
  unfold orderL; rw [orderTo_sum l r _ (by omega), List.take_of_length_le (by omega)]

theorem mem_getD {o : List Int} {j : Nat} (h : j < o.length) : o.getD j 0 ∈ o := by
  rw [List.getD_eq_getElem?_getD, List.getElem?_eq_getElem h]; exact List.getElem_mem h
theorem ahead_le {l o : List Int} (h : o.Pairwise (Ahead l)) {j k : Nat} (hjk : j < k) (hk : k < o.length) : Ahead l (o.getD j 0) (o.getD k 0) := by
  rw [List.pairwise_iff_getElem] at h
  rw [List.getD_eq_getElem?_getD, List.getElem?_eq_getElem (by omega), List.getD_eq_getElem?_getD, List.getElem?_eq_getElem hk]
  exact h j k (by omega) hk hjk

theorem orderTo_at {l : List Int} {n j : Nat} (h : j < n) : 0 ≤ (orderTo l n).getD j 0 ∧ (orderTo l n).getD j 0 < n := by
  exact (mem_orderTo l).1 (mem_getD (by rw [orderTo_len]; exact h))

theorem insertL_eq {α : Type} (N : Nat) {l : List α} {i : Nat} {x : α} (hi : i ≤ l.length) (hl : l.length < 1000000) : insertL N l (i : Int) [x] = some (l.take i ++ x :: l.drop i) := by
  unfold insertL
  rw [if_pos ⟨by omega, by omega, rfl, by unfold big; omega⟩]
  rfl

theorem Order_in (N : Nat) (K : List Int → List Int → Int → Int → Option (List Int)) {l : List Int} (hl : l.length ≤ 100000) (i : Nat) (hi : i < l.length) : ∀ (p n : Nat), p ≤ i → p < n → (∀ j, p ≤ j → j < i → at0 l ((orderTo l i).getD j 0) < at0 l i) →
    share_Order.l6 N K n l (orderTo l i) (i : Int) (p : Int) (l.length : Int) (i : Int) = K l (orderTo l (i + 1)) (l.length : Int) ((i + 1 : Nat) : Int)
  | p, 0, _, hn, _ => by omega
  | p, n + 1, hp, hn, h => by
    have hlen := orderTo_len l i
    have fin : ∀ h2 : (∀ j, j < p → at0 l i ≤ at0 l ((orderTo l i).getD j 0)), ins l (orderTo l i) i = (orderTo l i).take p ++ (i : Int) :: (orderTo l i).drop p := fun h2 => ins_at l _ _ p (by omega) h2 (fun h3 => h p (by omega) (by omega))
    unfold share_Order.l6 share_Order.l6b
    match p, hp, hn, h, fin with
    | 0, hp, hn, h, fin =>
      have e := fin (fun j hj => by omega)
      rw [ltB_f (by omega), cond_false, insertL_eq N (by omega) (by omega), Option.bind_some, ← e, W_i64 (by omega) (by omega)]
      rfl
    | p + 1, hp, hn, h, fin =>
      have hr := orderTo_at (l := l) (n := i) (j := p) (by omega)
      have e1 : W .i64 (((p + 1 : Nat) : Int) - 1) = (p : Int) := by rw [W_i64 (by omega) (by omega)]; omega
      have hrec := Order_in N K hl i hi p n (by omega) (by omega)
      dsimp only
      rw [e1, Int.toNat_natCast]
      unfold at0 at *
      rw [Int.toNat_natCast] at *
      rw [ltB_t (by omega), cond_true, inb_t (by omega) (by omega), cond_true, inb_t (by omega) (by omega), cond_true, inb_t (by omega) (by omega), cond_true]
      by_cases h3 : l.getD ((orderTo l i).getD p 0).toNat 0 < l.getD i 0
      · rw [ltB_t h3, cond_true]
        exact hrec (fun j h4 h5 => by
          by_cases hjp : j = p
          · rw [hjp]; exact h3
          · exact h j (by omega) h5)
      · rw [ltB_f (by omega), cond_false, insertL_eq N (by omega) (by omega), Option.bind_some, W_i64 (by omega) (by omega)]
        rw [← fin (fun j hj => by
          by_cases hjp : j = p
          · rw [hjp]; omega
          · have := ahead_le (orderTo_pairwise l i) (j := j) (k := p) (by omega) (by omega)
            unfold Ahead at0 at this; omega)]
        rfl

theorem Order_out (N : Nat) {l : List Int} (hl : l.length ≤ 100000) (hN : l.length < N) : ∀ (m n i : Nat), l.length - i ≤ m → m < n → i ≤ l.length →
    share_Order.l3 N n l (orderTo l i) (l.length : Int) (i : Int) = some (orderL l)
  | m, 0, i, _, hn, _ => by omega
  | m, n + 1, i, hm, hn, hi => by
    unfold share_Order.l3 share_Order.l3b
    by_cases h : i < l.length
    · rw [ltB_t (by omega), cond_true, orderTo_len, Order_in N _ hl i h i N (by omega) (by omega) (fun j _ _ => by omega)]
      exact Order_out N hl hN (m - 1) n (i + 1) (by omega) (by omega) (by omega)
    · rw [ltB_f (by omega), cond_false]
      unfold slices_Clip_int_int
      rw [okCut_t (by omega) (by omega) (by omega) (by omega), cond_true, Option.bind_some]
      simp only [Int.toNat_zero, List.drop_zero, Int.toNat_natCast, List.take_length]
      rw [show i = l.length by omega]; rfl

theorem Order_eq (N : Nat) {l : List Int} (hl : l.length ≤ 100000) (hN : l.length < N) : share_Order N l = some (orderL l) := by
  unfold share_Order share_Order.b
  rw [okMake_t (by omega) (by omega) (by omega), cond_true]
  exact Order_out N hl hN l.length N 0 (by omega) (by omega) (by omega)

theorem rOrder_in (N : Nat) (K : List Int → List Int → Int → Option (List Int)) {l : List Int} (hl : l.length ≤ 100000) (i : Nat) (hi : i < l.length) : ∀ (m n p : Nat), i - p ≤ m → m < n → p ≤ i → (∀ j, j < p → at0 l i ≤ at0 l ((orderTo l i).getD j 0)) →
    novationref1_Order.l6 N K n l (orderTo l i) (i : Int) (p : Int) = K l (orderTo l (i + 1)) ((i + 1 : Nat) : Int)
  | m, 0, p, _, hn, _, _ => by omega
  | m, n + 1, p, hm, hn, hp, h => by
    have hlen := orderTo_len l i
    have fin : ∀ h2 : (p < i → at0 l ((orderTo l i).getD p 0) < at0 l i), novationref1_Order.j8 N K l (orderTo l i) (i : Int) (p : Int) = K l (orderTo l (i + 1)) ((i + 1 : Nat) : Int) := fun h2 => by
      have e := ins_at l (orderTo l i) i p (by omega) h (fun h3 => h2 (by omega))
      unfold novationref1_Order.j8 novationref1_Order.j8b
      dsimp only
      rw [okCut_t (by omega) (by omega) (by omega) (by omega), cond_true, Int.toNat_natCast, Int.toNat_natCast, Int.toNat_zero, List.drop_zero]
      rw [small_t (by rw [List.length_take]; omega), cond_true, small_t (by rw [List.length_take]; simp only [List.length_singleton]; omega), cond_true, okCut_t (by omega) (by omega) (by omega) (by omega), cond_true, small_t (by simp only [List.length_append, List.length_take, List.length_drop, List.length_singleton]; omega), cond_true, W_i64 (by omega) (by omega), List.take_length, List.append_assoc, List.singleton_append, ← e]
      rfl
    unfold novationref1_Order.l6 novationref1_Order.l6b
    by_cases hpi : p < i
    · have hr := orderTo_at (l := l) (n := i) (j := p) hpi
      rw [ltB_t (by omega), cond_true, inb_t (by omega) (by omega), cond_true, Int.toNat_natCast, Int.toNat_natCast, inb_t (by omega) (by omega), cond_true, inb_t (by omega) (by omega), cond_true]
      by_cases h3 : l.getD i 0 ≤ l.getD ((orderTo l i).getD p 0).toNat 0
      · rw [leB_t h3, cond_true, W_i64 (by omega) (by omega)]
        refine rOrder_in N K hl i hi (m - 1) n (p + 1) (by omega) (by omega) (by omega) (fun j hj => ?_)
        by_cases hjp : j = p
        · rw [hjp]; unfold at0; rw [Int.toNat_natCast]; exact h3
        · exact h j (by omega)
      · rw [leB_f (by omega), cond_false]
        exact fin (fun _ => by unfold at0; rw [Int.toNat_natCast]; omega)
    · rw [ltB_f (by omega), cond_false]
      exact fin (fun h => absurd h hpi)

theorem rOrder_out (N : Nat) {l : List Int} (hl : l.length ≤ 100000) (hN : l.length < N) : ∀ (m n i : Nat), l.length - i ≤ m → m < n → i ≤ l.length →
    novationref1_Order.l3 N n l (orderTo l i) (i : Int) = some (orderL l)
  | m, 0, i, _, hn, _ => by omega
  | m, n + 1, i, hm, hn, hi => by
    unfold novationref1_Order.l3 novationref1_Order.l3b
    by_cases h : i < l.length
    · have := rOrder_in N (novationref1_Order.l3 N n) hl i h i N 0 (by omega) (by omega) (by omega) (fun j hj => by omega)
      rw [ltB_t (by omega), cond_true]
      refine Eq.trans this ?_
      exact rOrder_out N hl hN (m - 1) n (i + 1) (by omega) (by omega) (by omega)
    · rw [ltB_f (by omega), cond_false, show i = l.length by omega]; rfl

theorem rOrder_eq (N : Nat) {l : List Int} (hl : l.length ≤ 100000) (hN : l.length < N) : novationref1_Order N l = some (orderL l) := by
  unfold novationref1_Order novationref1_Order.b
  exact rOrder_out N hl hN l.length N 0 (by omega) (by omega) (by omega)
end VM
end

section
/- Plain laws: shares by weights. -/
set_option linter.unusedSimpArgs false
set_option linter.unusedVariables false
namespace VM
open Go VM.F

def I64 (l : List Int) : Prop := ∀ x ∈ l, -9223372036854775808 ≤ x ∧ x < 9223372036854775808
def Pos (l : List Int) : Prop := ∀ x ∈ l, 0 ≤ x
/-- Weights that may share. -/
def may (w : List Int) : Bool := decide (w.length ≤ 64) && w.all (fun x => decide (0 ≤ x))
theorem may_iff {w : List Int} : may w = true ↔ w.length ≤ 64 ∧ Pos w := by
  unfold may Pos; rw [Bool.and_eq_true, decide_eq_true_iff, List.all_eq_true]
  simp only [decide_eq_true_iff]

theorem index_loop (N : Nat) {l : List Int} (hl : l.length ≤ 1000000) : ∀ (m n i : Nat), l.length - i ≤ m → m < n → i ≤ l.length → ∃ r, slices_IndexFunc_int64_int64.l2 N n l () (l.length : Int) (i : Int) = some r ∧ (0 ≤ r ↔ ∃ x ∈ l.drop i, x < 0)
  | m, 0, i, _, hn, _ => by omega
  | m, n + 1, i, hm, hn, hi => by
    unfold slices_IndexFunc_int64_int64.l2 slices_IndexFunc_int64_int64.l2b share_may_1
    by_cases h : i < l.length
    · have hd : l.drop i = l.getD i 0 :: l.drop (i + 1) := by
        rw [List.drop_eq_getElem_cons h, List.getD_eq_getElem?_getD, List.getElem?_eq_getElem h]; rfl
      rw [ltB_t (by omega), cond_true, inb_t (by omega) (by omega), cond_true, Option.bind_some, Int.toNat_natCast, hd]
      by_cases hx : l.getD i 0 < 0
      · rw [ltB_t hx, cond_true]
        exact ⟨_, rfl, fun _ => ⟨_, List.mem_cons_self .., hx⟩, fun _ => by omega⟩
      · rw [ltB_f (by omega), cond_false, W_i64 (by omega) (by omega)]
        obtain ⟨r, e, h1⟩ := index_loop N hl (m - 1) n (i + 1) (by omega) (by omega) (by omega)
        refine ⟨r, e, h1.trans ⟨fun ⟨x, hx1, hx2⟩ => ⟨x, List.mem_cons_of_mem _ hx1, hx2⟩, fun ⟨x, hx1, hx2⟩ => ?_⟩⟩
        rcases List.mem_cons.1 hx1 with rfl | hx1
        · exact absurd hx2 hx
        · exact ⟨x, hx1, hx2⟩
    · rw [ltB_f (by omega), cond_false, List.drop_eq_nil_of_le (by omega)]
      exact ⟨_, rfl, fun h => absurd h (by decide), fun ⟨x, hx, _⟩ => nomatch hx⟩

theorem may_eq (N : Nat) {w : List Int} (hN : 100 ≤ N) : share_may N w = some (may w) := by
  unfold share_may
  by_cases h : w.length ≤ 64
  · rw [leB_t (by omega), cond_true]
    unfold slices_ContainsFunc_int64_int64 slices_IndexFunc_int64_int64 slices_IndexFunc_int64_int64.b
    obtain ⟨r, e, hr⟩ := index_loop N (l := w) (by omega) w.length N 0 (by omega) (by omega) (by omega)
    rw [List.drop_zero] at hr
    rw [show ((0 : Nat) : Int) = 0 from rfl] at e
    rw [e, Option.bind_some, Option.bind_some]
    by_cases h0 : 0 ≤ r
    · rw [leB_t h0]
      obtain ⟨x, hx, hx0⟩ := hr.1 h0
      have : may w = false := by
        rw [Bool.eq_false_iff]; intro hm
        have := (may_iff.1 hm).2 x hx; omega
      rw [this]; rfl
    · rw [leB_f (by omega)]
      have : may w = true := may_iff.2 ⟨h, fun x hx => by
        by_cases hx0 : x < 0
        · exact absurd (hr.2 ⟨x, hx, hx0⟩) h0
        · omega⟩
      rw [this]; rfl
  · rw [leB_f (by omega), cond_false]
    have : may w = false := by
      rw [Bool.eq_false_iff]; intro hm; exact h (may_iff.1 hm).1
    rw [this]

theorem wrong_loop (N : Nat) {l : List Int} (hl : l.length ≤ 1000000) : ∀ (m n i : Nat), l.length - i ≤ m → m < n → i ≤ l.length → ∃ r, novationref1_wrong.l4 N n l (i : Int) = some r ∧ (r = true ↔ ∃ x ∈ l.drop i, x < 0)
  | m, 0, i, _, hn, _ => by omega
  | m, n + 1, i, hm, hn, hi => by
    unfold novationref1_wrong.l4 novationref1_wrong.l4b
    by_cases h : i < l.length
    · have hd : l.drop i = l.getD i 0 :: l.drop (i + 1) := by
        rw [List.drop_eq_getElem_cons h, List.getD_eq_getElem?_getD, List.getElem?_eq_getElem h]; rfl
      rw [ltB_t (by omega), cond_true, inb_t (by omega) (by omega), cond_true, Int.toNat_natCast, hd]
      by_cases hx : l.getD i 0 < 0
      · rw [ltB_t hx, cond_true]
        exact ⟨_, rfl, fun _ => ⟨_, List.mem_cons_self .., hx⟩, fun _ => rfl⟩
      · rw [ltB_f (by omega), cond_false, W_i64 (by omega) (by omega)]
        obtain ⟨r, e, h1⟩ := wrong_loop N hl (m - 1) n (i + 1) (by omega) (by omega) (by omega)
        refine ⟨r, e, h1.trans ⟨fun ⟨x, hx1, hx2⟩ => ⟨x, List.mem_cons_of_mem _ hx1, hx2⟩, fun ⟨x, hx1, hx2⟩ => ?_⟩⟩
        rcases List.mem_cons.1 hx1 with rfl | hx1
        · exact absurd hx2 hx
        · exact ⟨x, hx1, hx2⟩
    · rw [ltB_f (by omega), cond_false, List.drop_eq_nil_of_le (by omega)]
      exact ⟨_, rfl, (fun h => nomatch h), fun ⟨x, hx, _⟩ => nomatch hx⟩

theorem wrong_eq (N : Nat) {w : List Int} (hN : 100 ≤ N) (t : Int) : novationref1_wrong N t w = some (decide (t < 0) || !may w) := by
  unfold novationref1_wrong novationref1_wrong.b
  by_cases ht : t < 0
  · rw [ltB_t ht, cond_true, decide_eq_true ht]; rfl
  rw [ltB_f (by omega), cond_false, decide_eq_false ht, Bool.false_or]
  by_cases h : w.length ≤ 64
  · rw [ltB_f (by omega), cond_false]
    obtain ⟨r, e, hr⟩ := wrong_loop N (l := w) (by omega) w.length N 0 (by omega) (by omega) (by omega)
    rw [List.drop_zero] at hr
    rw [show ((0 : Nat) : Int) = 0 from rfl] at e
    rw [e]
    congr 1
    rw [Bool.eq_iff_iff, hr, Bool.not_eq_true', Bool.eq_false_iff, Ne, may_iff]
    constructor
    · rintro ⟨x, hx, hx0⟩ h; have := h.2 x hx; omega
    · intro h1
      by_cases h2 : ∃ x ∈ w, x < 0
      · exact h2
      · exact absurd ⟨h, fun x hx => by
          by_cases hx0 : x < 0
          · exact absurd ⟨x, hx, hx0⟩ h2
          · omega⟩ h1
  · rw [ltB_t (by omega), cond_true]
    have : may w = false := by
      rw [Bool.eq_false_iff]; intro hm; exact h (may_iff.1 hm).1
    rw [this]; rfl

/-- One unit more at each of these places. -/
def bump (q : List Int) : List Int → List Int
  | [] => q
  | k :: t => bump (q.set k.toNat (q.getD k.toNat 0 + 1)) t
def quos (t S : Int) (w : List Int) : List Int := w.map fun x => t * x / S
def rems (t S : Int) (w : List Int) : List Int := w.map fun x => t * x % S
def sharesL (t : Int) (w : List Int) : List Int :=
  bump (quos t w.sum w) ((orderL (rems t w.sum w)).take (t - (quos t w.sum w).sum).toNat)
def splitL (t : Int) (w : List Int) : List Int × Int :=
  if t < 0 ∨ may w = false then ([], 1) else if 9223372036854775808 ≤ w.sum then ([], 2)
  else if w.sum = 0 then (if t = 0 then (List.replicate w.length 0, 0) else ([], 1)) else (sharesL t w, 0)

theorem bump_len : ∀ (ks q : List Int), (bump q ks).length = q.length
  | [], q => rfl
  | k :: t, q => by unfold bump; rw [bump_len t]; simp
theorem set_sum : ∀ (q : List Int) (k : Nat) (x : Int), k < q.length → (q.set k x).sum = q.sum - q.getD k 0 + x
  | [], k, x, h => absurd h (by simp)
  | a :: q, 0, x, h => by simp; omega
  | a :: q, k + 1, x, h => by
    have := set_sum q k x (by simpa using h)
    simp [this]; omega
theorem pos_sum : ∀ {q : List Int}, Pos q → 0 ≤ q.sum
  | [], _ => by simp
  | a :: q, h => by
    have := pos_sum (q := q) (fun x hx => h x (List.mem_cons_of_mem _ hx))
    have := h a (List.mem_cons_self ..)
    rw [List.sum_cons]; omega
theorem le_sum : ∀ {q : List Int}, Pos q → ∀ i, q.getD i 0 ≤ q.sum
  | [], _, i => by simp
  | a :: q, h, 0 => by
    have := pos_sum (q := q) (fun x hx => h x (List.mem_cons_of_mem _ hx))
    rw [List.sum_cons]; simp; omega
  | a :: q, h, i + 1 => by
    have := le_sum (q := q) (fun x hx => h x (List.mem_cons_of_mem _ hx)) i
    have := h a (List.mem_cons_self ..)
    rw [List.sum_cons]; simp; simp at *; omega
theorem pos_getD {q : List Int} (h : Pos q) (i : Nat) : 0 ≤ q.getD i 0 := by
  by_cases hi : i < q.length
  · exact h _ (mem_getD hi)
  · rw [getD_ge q (by omega)]; omega
theorem pos_set {q : List Int} (h : Pos q) {x : Int} (hx : 0 ≤ x) (k : Nat) : Pos (q.set k x) := fun y hy => by
  rcases List.mem_or_eq_of_mem_set hy with hy | rfl
  · exact h y hy
  · exact hx
theorem pos_take {q : List Int} (h : Pos q) (n : Nat) : Pos (q.take n) := fun x hx => h x (List.mem_of_mem_take hx)
theorem bump_sum : ∀ (ks q : List Int), (∀ k ∈ ks, 0 ≤ k ∧ k < q.length) → (bump q ks).sum = q.sum + ks.length
  | [], q, _ => by simp [bump]
  | k :: t, q, h => by
    have hk := h k (List.mem_cons_self ..)
    unfold bump
    rw [bump_sum t _ (fun x hx => by rw [List.length_set]; exact h x (List.mem_cons_of_mem _ hx)), set_sum q _ _ (by omega), List.length_cons]; omega

theorem quos_len (t S : Int) (w : List Int) : (quos t S w).length = w.length := by unfold quos; rw [List.length_map]
theorem rems_len (t S : Int) (w : List Int) : (rems t S w).length = w.length := by unfold rems; rw [List.length_map]
theorem quos_at {t S : Int} {w : List Int} (i : Nat) : (quos t S w).getD i 0 = t * w.getD i 0 / S := by
  unfold quos
  by_cases h : i < w.length
  · rw [List.getD_eq_getElem?_getD, List.getElem?_map, List.getElem?_eq_getElem h, List.getD_eq_getElem?_getD, List.getElem?_eq_getElem h]; rfl
  · rw [getD_ge _ (by rw [List.length_map]; omega), getD_ge w (by omega)]; simp
theorem rems_at {t S : Int} {w : List Int} (i : Nat) : (rems t S w).getD i 0 = t * w.getD i 0 % S := by
  unfold rems
  by_cases h : i < w.length
  · rw [List.getD_eq_getElem?_getD, List.getElem?_map, List.getElem?_eq_getElem h, List.getD_eq_getElem?_getD, List.getElem?_eq_getElem h]; rfl
  · rw [getD_ge _ (by rw [List.length_map]; omega), getD_ge w (by omega)]; simp
theorem quos_pos {t S : Int} {w : List Int} (ht : 0 ≤ t) (hS : 0 ≤ S) (hw : Pos w) : Pos (quos t S w) := fun x hx => by
  obtain ⟨y, hy, rfl⟩ := List.mem_map.1 hx
  exact Int.ediv_nonneg (Int.mul_nonneg ht (hw y hy)) hS
theorem rems_pos {t S : Int} {w : List Int} (hS : 0 < S) : Pos (rems t S w) := fun x hx => by
  obtain ⟨y, hy, rfl⟩ := List.mem_map.1 hx
  exact Int.emod_nonneg _ (by omega)
theorem quo_sum (t S : Int) : ∀ w : List Int, S * (quos t S w).sum + (rems t S w).sum = t * w.sum
  | [] => by simp [quos, rems]
  | x :: w => by
    have h := quo_sum t S w
    have e := Int.mul_ediv_add_emod (t * x) S
    unfold quos rems at *
    simp only [List.map_cons, List.sum_cons, Int.mul_add]
    omega
theorem quo_le {t S : Int} {w : List Int} (ht : 0 ≤ t) (hS : 0 < S) (h : w.sum ≤ S) : (quos t S w).sum ≤ t := by
  have e := quo_sum t S w
  have h1 := pos_sum (rems_pos (t := t) (w := w) hS)
  have h2 := Int.mul_le_mul_of_nonneg_left h ht
  have h3 : S * (quos t S w).sum ≤ S * t := by rw [Int.mul_comm S t]; omega
  exact Int.le_of_mul_le_mul_left h3 hS
theorem sum_take_le {w : List Int} (h : Pos w) (i : Nat) : (w.take i).sum ≤ w.sum := by
  have e : w.take i ++ w.drop i = w := List.take_append_drop i w
  have h1 : (w.take i).sum + (w.drop i).sum = w.sum := by rw [← List.sum_append, e]
  have := pos_sum (q := w.drop i) (fun x hx => h x (List.mem_of_mem_drop hx))
  omega
theorem quos_take (t S : Int) (w : List Int) (i : Nat) : (quos t S w).take i = quos t S (w.take i) := by unfold quos; rw [List.map_take]
theorem rems_take (t S : Int) (w : List Int) (i : Nat) : (rems t S w).take i = rems t S (w.take i) := by unfold rems; rw [List.map_take]

theorem bump_loop (N : Nat) {ks : List Int} (hl : ks.length ≤ 1000000) (L : Nat) (hk : ∀ k ∈ ks, 0 ≤ k ∧ k < L) : ∀ (m n i : Nat) (q : List Int), ks.length - i ≤ m → m < n → i ≤ ks.length → q.length = L → Pos q → q.sum + (ks.length - i : Nat) ≤ 9223372036854775807 →
    share_Split.l21 N n q ks (ks.length : Int) (i : Int) = some (bump q (ks.drop i), 0)
  | m, 0, i, q, _, hn, _, _, _, _ => by omega
  | m, n + 1, i, q, hm, hn, hi, hq, hp, hs => by
    unfold share_Split.l21 share_Split.l21b
    by_cases h : i < ks.length
    · have hd : ks.drop i = ks.getD i 0 :: ks.drop (i + 1) := by
        rw [List.drop_eq_getElem_cons h, List.getD_eq_getElem?_getD, List.getElem?_eq_getElem h]; rfl
      have hki := hk _ (mem_getD h)
      rw [ltB_t (by omega), cond_true, inb_t (by omega) (by omega), cond_true, Int.toNat_natCast, inb_t (by omega) (by omega), cond_true, cond_true, hd]
      have h1 := le_sum hp (ks.getD i 0).toNat
      have h2 := pos_getD hp (ks.getD i 0).toNat
      rw [W_i64 (x := q.getD _ 0 + 1) (by omega) (by omega), W_i64 (by omega) (by omega)]
      refine (bump_loop N hl L hk (m - 1) n (i + 1) _ (by omega) (by omega) (by omega) (by rw [List.length_set]; exact hq) (pos_set hp (by omega) _) ?_).trans rfl
      rw [set_sum q _ _ (by omega)]; omega
    · rw [ltB_f (by omega), cond_false, List.drop_eq_nil_of_le (by omega)]; rfl

theorem rbump_loop (N : Nat) {ks : List Int} (hl : ks.length ≤ 1000000) (L : Nat) (hk : ∀ k ∈ ks, 0 ≤ k ∧ k < L) : ∀ (m n i left : Nat) (q : List Int), ks.length - i ≤ m → m < n → i ≤ ks.length → q.length = L → Pos q → left ≤ 9223372036854775807 → q.sum + left ≤ 9223372036854775807 →
    novationref1_Split.l22 N n q (left : Int) ks (i : Int) = some (bump q ((ks.drop i).take left), 0)
  | m, 0, i, left, q, _, hn, _, _, _, _, _ => by omega
  | m, n + 1, i, left, q, hm, hn, hi, hq, hp, hle, hs => by
    unfold novationref1_Split.l22 novationref1_Split.l22b
    by_cases h : i < ks.length
    · have hd : ks.drop i = ks.getD i 0 :: ks.drop (i + 1) := by
        rw [List.drop_eq_getElem_cons h, List.getD_eq_getElem?_getD, List.getElem?_eq_getElem h]; rfl
      have hki := hk _ (mem_getD h)
      rw [ltB_t (by omega), cond_true]
      match left, hle, hs with
      | 0, hle, hs => rw [ltB_f (by omega), cond_false, List.take_zero]; rfl
      | left + 1, hle, hs =>
        rw [ltB_t (by omega), cond_true, inb_t (by omega) (by omega), cond_true, Int.toNat_natCast, inb_t (by omega) (by omega), cond_true, cond_true, hd]
        have h1 := le_sum hp (ks.getD i 0).toNat
        have h2 := pos_getD hp (ks.getD i 0).toNat
        rw [W_i64 (x := q.getD _ 0 + 1) (by omega) (by omega), W_i64 (x := (i : Int) + 1) (by omega) (by omega), W_i64 (by omega) (by omega), show ((left + 1 : Nat) : Int) - 1 = (left : Int) by omega]
        refine (rbump_loop N hl L hk (m - 1) n (i + 1) left _ (by omega) (by omega) (by omega) (by rw [List.length_set]; exact hq) (pos_set hp (by omega) _) (by omega) ?_).trans rfl
        rw [set_sum q _ _ (by omega)]; omega
    · rw [ltB_f (by omega), cond_false, List.drop_eq_nil_of_le (by omega), List.take_nil]; rfl

theorem order_at (l : List Int) : ∀ k ∈ orderL l, 0 ≤ k ∧ k < l.length := fun k hk => (mem_orderTo l).1 hk
theorem take_set (l : List Int) {i : Nat} (x : Int) (h : i < l.length) : (l.set i x).take (i + 1) = l.take i ++ [x] := by
  rw [take_snoc' (l.set i x) (by rw [List.length_set]; exact h), getD_set_eq l x h, List.take_set_of_le (by omega)]
theorem toI_in {v : Int} (h0 : -9223372036854775808 ≤ v) (h1 : v < 9223372036854775808) : toI v = (v, true) := by unfold toI; rw [if_pos ⟨h0, h1⟩]

theorem split_loop (N : Nat) (hN : 1000000 ≤ N) {t : Int} {w : List Int} (ht : 0 ≤ t) (ht1 : t < 9223372036854775808) (hw : w.length ≤ 64) (hp : Pos w) (hS : 0 < w.sum) (hS1 : w.sum < 9223372036854775808) :
    ∀ (m n i : Nat) (q r : List Int), w.length - i ≤ m → m < n → i ≤ w.length → q.length = w.length → r.length = w.length → q.take i = quos t w.sum (w.take i) → r.take i = rems t w.sum (w.take i) →
    share_Split.l13 N n t w.sum q r (t - (quos t w.sum (w.take i)).sum) w (w.length : Int) (i : Int) = some (sharesL t w, 0)
  | m, 0, i, q, r, _, hn, _, _, _, _, _ => by omega
  | m, n + 1, i, q, r, hm, hn, hi, hq, hr, eq, er => by
    unfold share_Split.l13 share_Split.l13b
    by_cases h : i < w.length
    · have hwi := pos_getD hp i
      have hwi1 := le_sum hp i
      have hb := mul_lt ht hwi (show t ≤ 9223372036854775807 by omega) (show w.getD i 0 ≤ 9223372036854775807 by omega)
      have hqi : t * w.getD i 0 / w.sum ≤ t := Int.ediv_le_of_le_mul hS (Int.mul_le_mul_of_nonneg_left hwi1 ht)
      have hqi0 : 0 ≤ t * w.getD i 0 / w.sum := Int.ediv_nonneg hb.1 (by omega)
      have hs0 := quo_le ht hS (sum_take_le hp i)
      have hs1 := pos_sum (quos_pos ht (by omega : 0 ≤ w.sum) (pos_take hp i))
      rw [ltB_t (by omega), cond_true, inb_t (by omega) (by omega), cond_true, Int.toNat_natCast, wMul_eq N (by omega) (by omega) (by omega) (by omega), Option.bind_some,
        wDiv_eq N (by omega) (by omega) (by omega) hS hS1, Option.bind_some]
      dsimp only
      rw [wInt_eq N (by omega) (by omega), Option.bind_some, toI_in (by omega) (by omega)]
      dsimp only
      rw [inb_t (by omega) (by omega), cond_true, inb_t (by omega) (by omega), cond_true, List.length_set, inb_t (by omega) (by omega), cond_true, getD_set_eq q _ (by omega), W_i64 (x := (i : Int) + 1) (by omega) (by omega), W_i64 (by omega) (by omega)]
      have hrec := split_loop N hN ht ht1 hw hp hS hS1 (m - 1) n (i + 1) (q.set i (t * w.getD i 0 / w.sum)) (r.set i (t * w.getD i 0 % w.sum)) (by omega) (by omega) (by omega) (by rw [List.length_set]; exact hq) (by rw [List.length_set]; exact hr)
        (by rw [take_set q _ (by omega), eq, take_snoc' w h]; unfold quos; simp)
        (by rw [take_set r _ (by omega), er, take_snoc' w h]; unfold rems; simp)
      rw [← quos_take, sum_take_succ _ (by rw [quos_len]; exact h), quos_at, quos_take] at hrec
      rw [Int.sub_sub]
      exact hrec
    · have hi' : i = w.length := by omega
      subst hi'
      rw [List.take_of_length_le (by omega), List.take_of_length_le (by omega)] at eq er
      subst eq er
      rw [List.take_of_length_le (by omega)]
      have hs0 := quo_le ht hS (Int.le_refl _)
      have hs1 := pos_sum (quos_pos ht (by omega : 0 ≤ w.sum) hp)
      have hleft : (t - (quos t w.sum w).sum).toNat ≤ (orderL (rems t w.sum w)).length := by
        rw [orderL_len, rems_len]
        have e := quo_sum t w.sum w
        have : (rems t w.sum w).sum ≤ w.length * w.sum := by
          have : ∀ u : List Int, (rems t w.sum u).sum ≤ u.length * w.sum := by
            intro u
            induction u with
            | nil => simp [rems]
            | cons x u ih =>
              have := Int.emod_lt_of_pos (t * x) hS
              unfold rems at *
              rw [List.map_cons, List.sum_cons, List.length_cons, Int.natCast_add, Int.add_mul]; simp; omega
          exact this w
        have h4 : w.sum * (t - (quos t w.sum w).sum) ≤ w.sum * w.length := by
          rw [Int.mul_sub, Int.mul_comm w.sum t, Int.mul_comm w.sum (w.length : Int)]; omega
        have := Int.le_of_mul_le_mul_left h4 hS
        omega
      rw [ltB_f (by omega), cond_false, Order_eq N (by rw [rems_len]; omega) (by rw [rems_len]; omega), Option.bind_some]
      rw [okCut_t (by omega) (by omega) (by omega) (by omega), cond_true]
      dsimp only
      rw [Int.toNat_zero, List.drop_zero]
      have hlen := orderL_len (rems t w.sum w)
      rw [rems_len] at hlen
      have hbl := bump_loop N (ks := (orderL (rems t w.sum w)).take (t - (quos t w.sum w).sum).toNat) (by rw [List.length_take]; omega) w.length (fun k hk => by have := order_at _ k (List.mem_of_mem_take hk); rwa [rems_len] at this) 1000 N 0 (quos t w.sum w) (by rw [List.length_take]; omega) (by omega) (by omega) (quos_len ..) (quos_pos ht (by omega) hp) (by rw [List.length_take]; omega)
      rw [List.drop_zero] at hbl
      exact hbl

theorem Split_eq (N : Nat) (hN : 2000000 ≤ N) {t : Int} {w : List Int} (ht1 : t < 9223372036854775808) (hw : I64 w) (hl : w.length ≤ 1000000) : share_Split N t w = some (splitL t w) := by
  unfold share_Split share_Split.b splitL
  by_cases h1 : t < 0
  · rw [ltB_t h1, cond_true, if_pos (.inl h1)]
  rw [ltB_f (by omega), cond_false, may_eq N (by omega), Option.bind_some]
  cases h2 : may w
  · rw [Bool.not_false, cond_true, if_pos (.inr rfl)]
  rw [Bool.not_true, cond_false, if_neg (by simp [h1]), aSum_eq N hw hl (by omega), Option.bind_some]
  obtain ⟨hw64, hp⟩ := may_iff.1 h2
  have hS0 := pos_sum hp
  by_cases h3 : 9223372036854775808 ≤ w.sum
  · rw [if_pos h3]; unfold toI; rw [if_neg (by omega)]; rfl
  rw [if_neg h3, toI_in (by omega) (by omega)]
  dsimp only
  rw [Bool.not_true, cond_false]
  have hm : okMake (w.length : Int) (w.length : Int) = true := okMake_t (by omega) (by omega) (by omega)
  have hz : ∀ i : Nat, (List.replicate w.length (0 : Int)).take i = (List.replicate w.length (0 : Int)).take i := fun _ => rfl
  by_cases h4 : w.sum = 0
  · rw [if_pos h4, eqB_t h4, cond_true]
    by_cases h5 : t = 0
    · rw [if_pos h5, ltB_f (by omega), cond_false]
      unfold share_Split.j8 share_Split.j8b
      rw [hm, cond_true, cond_true, eqB_t h5, cond_true, Int.toNat_natCast]
    · rw [if_neg h5, ltB_t (by omega), cond_true]
  · rw [if_neg h4, eqB_f h4, cond_false]
    unfold share_Split.j8 share_Split.j8b
    rw [hm, cond_true, cond_true]
    rw [Int.toNat_natCast]
    by_cases h5 : t = 0
    · rw [eqB_t h5, cond_true]
      subst h5
      have : quos 0 w.sum w = List.replicate w.length 0 := by
        unfold quos; simp only [Int.zero_mul, Int.zero_ediv]; exact List.map_const'
      unfold sharesL
      rw [this]; simp [bump]
    · rw [eqB_f h5, cond_false]
      have := split_loop N (by omega) (by omega) ht1 hw64 hp (by omega) (by omega) w.length N 0 (List.replicate w.length 0) (List.replicate w.length 0) (by omega) (by omega) (by omega) (List.length_replicate ..) (List.length_replicate ..) rfl rfl
      rw [List.take_zero] at this
      simp only [quos, List.map_nil, List.sum_nil, Int.sub_zero] at this
      exact this
end VM
end

section
/- Plain laws: what shares are. -/
set_option linter.unusedSimpArgs false
set_option linter.unusedVariables false
namespace VM
open Go VM.F

theorem ext_getD {a b : List Int} (hl : a.length = b.length) (h : ∀ i, i < a.length → a.getD i 0 = b.getD i 0) : a = b := by
  refine List.ext_getElem hl (fun i h1 h2 => ?_)
  have := h i h1
  rwa [List.getD_eq_getElem?_getD, List.getElem?_eq_getElem h1, List.getD_eq_getElem?_getD, List.getElem?_eq_getElem h2] at this

theorem bump_at : ∀ (ks q : List Int) (i : Nat), ks.Nodup → (∀ k ∈ ks, 0 ≤ k ∧ k < q.length) → (bump q ks).getD i 0 = q.getD i 0 + (if (i : Int) ∈ ks then 1 else 0)
  | [], q, i, _, _ => by simp [bump]
  | k :: t, q, i, hn, h => by
    have hk := h k (List.mem_cons_self ..)
    rw [List.nodup_cons] at hn
    unfold bump
    rw [bump_at t _ i hn.2 (fun x hx => by rw [List.length_set]; exact h x (List.mem_cons_of_mem _ hx))]
    by_cases hik : (i : Int) = k
    · rw [if_neg (by rw [hik]; exact hn.1), if_pos (by rw [hik]; exact List.mem_cons_self ..), ← hik, Int.toNat_natCast, getD_set_eq q _ (by omega)]; omega
    · rw [getD_set_ne q _ (by omega)]
      by_cases ht : (i : Int) ∈ t
      · rw [if_pos ht, if_pos (List.mem_cons_of_mem _ ht)]
      · rw [if_neg ht, if_neg (fun hc => by rcases List.mem_cons.1 hc with hc | hc; exact hik hc; exact ht hc)]

theorem order_nodup (l : List Int) : (orderL l).Nodup := (orderTo_pairwise l l.length).imp (fun {a b} h he => by unfold Ahead at h; rw [he] at h; omega)
theorem rem_sum (t S : Int) (hS : 0 < S) : ∀ u : List Int, (rems t S u).sum ≤ u.length * S
  | [] => by simp [rems]
  | x :: u => by
    have ih := rem_sum t S hS u
    have := Int.emod_lt_of_pos (t * x) hS
    unfold rems at *
    rw [List.map_cons, List.sum_cons, List.length_cons, Int.natCast_add, Int.add_mul]; simp; omega

/-- What is left after the whole quotients. -/
def leftL (t : Int) (w : List Int) : Int := t - (quos t w.sum w).sum
theorem left_eq (t : Int) (w : List Int) : w.sum * leftL t w = (rems t w.sum w).sum := by
  have := quo_sum t w.sum w
  unfold leftL; rw [Int.mul_sub, Int.mul_comm w.sum t]; omega
theorem left_pos {t : Int} {w : List Int} (ht : 0 ≤ t) (hS : 0 < w.sum) : 0 ≤ leftL t w := by
  have := quo_le ht hS (Int.le_refl _); unfold leftL; omega
theorem left_le {t : Int} {w : List Int} (hS : 0 < w.sum) : leftL t w ≤ w.length := by
  have h1 := left_eq t w
  have h2 := rem_sum t w.sum hS w
  rw [← h1, Int.mul_comm (w.length : Int)] at h2
  exact Int.le_of_mul_le_mul_left h2 hS

theorem shares_len (t : Int) (w : List Int) : (sharesL t w).length = w.length := by unfold sharesL; rw [bump_len, quos_len]
theorem shares_sum {t : Int} {w : List Int} (ht : 0 ≤ t) (hS : 0 < w.sum) : (sharesL t w).sum = t := by
  unfold sharesL
  have h1 := left_pos ht hS
  have h2 := left_le (t := t) hS
  unfold leftL at *
  rw [bump_sum _ _ (fun k hk => by have := order_at _ k (List.mem_of_mem_take hk); rw [rems_len] at this; rwa [quos_len]), List.length_take, orderL_len, rems_len]
  omega

theorem map_sum_le {f : Int → Int} {c : Int} : ∀ {o : List Int}, (∀ x ∈ o, f x ≤ c) → (o.map f).sum ≤ o.length * c
  | [], _ => by simp
  | x :: o, h => by
    have ih := map_sum_le (f := f) (c := c) (o := o) (fun y hy => h y (List.mem_cons_of_mem _ hy))
    have := h x (List.mem_cons_self ..)
    rw [List.map_cons, List.sum_cons, List.length_cons, Int.natCast_add, Int.add_mul]; simp; omega

theorem drop_of_not_take {o : List Int} {x : Int} {m : Nat} (h : x ∈ o) (hn : x ∉ o.take m) : x ∈ o.drop m := by
  rw [← List.take_append_drop m o, List.mem_append] at h
  exact h.elim (fun h => absurd h hn) id
theorem ahead_take {l o : List Int} (h : o.Pairwise (Ahead l)) {m : Nat} {x y : Int} (hx : x ∈ o.take m) (hy : y ∈ o.drop m) : Ahead l x y := by
  rw [← List.take_append_drop m o, List.pairwise_append] at h
  exact h.2.2 x hx y hy

theorem taken_pos {t : Int} {w : List Int} (ht : 0 ≤ t) (hS : 0 < w.sum) {i : Int} (hi : i ∈ (orderL (rems t w.sum w)).take (leftL t w).toNat) : 0 < at0 (rems t w.sum w) i := by
  have hpos : ∀ k : Int, 0 ≤ at0 (rems t w.sum w) k := fun k => pos_getD (rems_pos hS) _
  have hlt : ∀ k : Int, at0 (rems t w.sum w) k ≤ w.sum - 1 := fun k => by
    unfold at0; rw [rems_at]
    have := Int.emod_lt_of_pos (t * w.getD k.toNat 0) hS; omega
  have h0 := hpos i
  rcases Int.lt_or_le 0 (at0 (rems t w.sum w) i) with h | h
  · exact h
  exfalso
  have hsum := orderL_sum (rems t w.sum w) (rems t w.sum w) rfl
  rw [← left_eq] at hsum
  have hcut := List.take_append_drop (leftL t w).toNat (orderL (rems t w.sum w))
  rw [← hcut, List.map_append, List.sum_append] at hsum
  have hd : (((orderL (rems t w.sum w)).drop (leftL t w).toNat).map (at0 (rems t w.sum w))).sum ≤ ((orderL (rems t w.sum w)).drop (leftL t w).toNat).length * 0 := map_sum_le (fun y hy => by
    have := ahead_take (orderTo_pairwise _ _) hi hy
    unfold Ahead at this; omega)
  have htk : (((orderL (rems t w.sum w)).take (leftL t w).toNat).map (at0 (rems t w.sum w))).sum ≤ ((orderL (rems t w.sum w)).take (leftL t w).toNat).length * (w.sum - 1) := map_sum_le (fun y _ => hlt y)
  have h1 := left_pos ht hS
  have h2 := left_le (t := t) hS
  rw [List.length_take, orderL_len, rems_len, Nat.min_eq_left (by omega), Int.mul_sub] at htk
  rw [Int.mul_zero] at hd
  have h3 : (((leftL t w).toNat : Nat) : Int) = leftL t w := by omega
  have h4 : 0 < (leftL t w).toNat := by
    rcases Nat.eq_zero_or_pos (leftL t w).toNat with h | h
    · rw [h, List.take_zero] at hi; nomatch hi
    · exact h
  rw [h3, Int.mul_comm (leftL t w)] at htk
  omega

/-- One unit more for this place? -/
def extra (t : Int) (w : List Int) (i : Nat) : Int := if (i : Int) ∈ (orderL (rems t w.sum w)).take (leftL t w).toNat then 1 else 0
theorem shares_at (t : Int) (w : List Int) (i : Nat) : (sharesL t w).getD i 0 = t * w.getD i 0 / w.sum + extra t w i := by
  unfold sharesL
  rw [bump_at _ _ i ((order_nodup _).sublist (List.take_sublist ..)) (fun k hk => by have := order_at _ k (List.mem_of_mem_take hk); rw [rems_len] at this; rwa [quos_len]), quos_at]
  rfl
theorem extra_bit (t : Int) (w : List Int) (i : Nat) : extra t w i = 0 ∨ extra t w i = 1 := by unfold extra; split <;> omega
theorem extra_pos {t : Int} {w : List Int} (ht : 0 ≤ t) (hS : 0 < w.sum) {i : Nat} (h : extra t w i = 1) : 0 < t * w.getD i 0 % w.sum := by
  unfold extra at h
  by_cases hi : (i : Int) ∈ (orderL (rems t w.sum w)).take (leftL t w).toNat
  · have := taken_pos ht hS hi
    unfold at0 at this; rwa [rems_at, Int.toNat_natCast] at this
  · rw [if_neg hi] at h; omega
theorem shares_pos {t : Int} {w : List Int} (ht : 0 ≤ t) (hS : 0 < w.sum) (hw : Pos w) : Pos (sharesL t w) := fun x hx => by
  obtain ⟨i, hi, rfl⟩ := List.mem_iff_getElem.1 hx
  have := shares_at t w i
  rw [List.getD_eq_getElem?_getD, List.getElem?_eq_getElem hi] at this
  have h1 := extra_bit t w i
  have h2 : 0 ≤ t * w.getD i 0 / w.sum := Int.ediv_nonneg (Int.mul_nonneg ht (pos_getD hw i)) (by omega)
  simp only [Option.getD_some] at this
  omega
theorem shares_zero {t : Int} {w : List Int} (ht : 0 ≤ t) (hS : 0 < w.sum) {i : Nat} (h : w.getD i 0 = 0) : (sharesL t w).getD i 0 = 0 := by
  rw [shares_at, h]
  rcases extra_bit t w i with h1 | h1
  · rw [h1]; simp
  · have := extra_pos ht hS h1
    rw [h] at this; simp at this
/-- Each share is less than one unit from total by weight by all weights. -/
theorem shares_off {t : Int} {w : List Int} (ht : 0 ≤ t) (hS : 0 < w.sum) (i : Nat) : ((sharesL t w).getD i 0 * w.sum - t * w.getD i 0).natAbs < w.sum := by
  have e := Int.mul_ediv_add_emod (t * w.getD i 0) w.sum
  have h1 := Int.emod_lt_of_pos (t * w.getD i 0) hS
  have h2 := Int.emod_nonneg (t * w.getD i 0) (show w.sum ≠ 0 by omega)
  rw [shares_at, Int.add_mul, Int.mul_comm _ w.sum]
  rcases extra_bit t w i with h | h
  · rw [h, Int.zero_mul]; omega
  · have := extra_pos ht hS h
    rw [h, Int.one_mul]; omega
/-- A greater weight ahead has no smaller share. -/
theorem shares_mono {t : Int} {w : List Int} (ht : 0 ≤ t) (hS : 0 < w.sum) {k i : Nat} (hk : k < i) (hi : i < w.length) (hw : w.getD i 0 ≤ w.getD k 0) : (sharesL t w).getD i 0 ≤ (sharesL t w).getD k 0 := by
  have hm := Int.mul_le_mul_of_nonneg_left hw ht
  have hq := Int.ediv_le_ediv hS hm
  have e1 := Int.mul_ediv_add_emod (t * w.getD i 0) w.sum
  have e2 := Int.mul_ediv_add_emod (t * w.getD k 0) w.sum
  rw [shares_at, shares_at]
  rcases extra_bit t w i with h1 | h1 <;> rcases extra_bit t w k with h2 | h2 <;> try omega
  rcases Int.lt_or_le (t * w.getD i 0 / w.sum) (t * w.getD k 0 / w.sum) with h3 | h3
  · omega
  exfalso
  have h4 : t * w.getD i 0 / w.sum = t * w.getD k 0 / w.sum := by omega
  rw [h4] at e1
  unfold extra at h1 h2
  have hin : (i : Int) ∈ (orderL (rems t w.sum w)).take (leftL t w).toNat := by
    by_cases h : (i : Int) ∈ (orderL (rems t w.sum w)).take (leftL t w).toNat
    · exact h
    · rw [if_neg h] at h1; omega
  have hout : (k : Int) ∉ (orderL (rems t w.sum w)).take (leftL t w).toNat := fun h => by rw [if_pos h] at h2; omega
  have hmem : (k : Int) ∈ orderL (rems t w.sum w) := (mem_orderTo _).2 (by rw [rems_len]; omega)
  have := ahead_take (orderTo_pairwise _ _) hin (drop_of_not_take hmem hout)
  unfold Ahead at0 at this
  rw [rems_at, rems_at, Int.toNat_natCast, Int.toNat_natCast] at this
  omega
theorem shares_near {t : Int} {w : List Int} {k i : Nat} (hw : w.getD i 0 = w.getD k 0) : (sharesL t w).getD k 0 ≤ (sharesL t w).getD i 0 + 1 := by
  rw [shares_at, shares_at, hw]
  rcases extra_bit t w i with h1 | h1 <;> rcases extra_bit t w k with h2 | h2 <;> omega
end VM
end

section
/- Plain laws: the reference's shares; equal shares. -/
set_option linter.unusedSimpArgs false
set_option linter.unusedVariables false
namespace VM
open Go VM.F

theorem rsplit_loop (N : Nat) (hN : 5000000 ≤ N) {t : Int} {w : List Int} (ht : 0 ≤ t) (ht1 : t < 9223372036854775808) (hw : w.length ≤ 64) (hp : Pos w) (hS : 0 < w.sum) (hS1 : w.sum < 9223372036854775808) :
    ∀ (m n i : Nat) (q r : List Int), w.length - i ≤ m → m < n → i ≤ w.length → q.length = w.length → r.length = w.length → q.take i = quos t w.sum (w.take i) → r.take i = rems t w.sum (w.take i) →
    novationref1_Split.l14 N n t w (bigN w.sum) q r (t - (quos t w.sum (w.take i)).sum) (i : Int) = some (sharesL t w, 0)
  | m, 0, i, q, r, _, hn, _, _, _, _, _ => by omega
  | m, n + 1, i, q, r, hm, hn, hi, hq, hr, eq, er => by
    unfold novationref1_Split.l14 novationref1_Split.l14b
    by_cases h : i < w.length
    · have hwi := pos_getD hp i
      have hwi1 := le_sum hp i
      have hb := mul_lt ht hwi (show t ≤ 9223372036854775807 by omega) (show w.getD i 0 ≤ 9223372036854775807 by omega)
      have hqi : t * w.getD i 0 / w.sum ≤ t := Int.ediv_le_of_le_mul hS (Int.mul_le_mul_of_nonneg_left hwi1 ht)
      have hqi0 : 0 ≤ t * w.getD i 0 / w.sum := Int.ediv_nonneg hb.1 (by omega)
      have hri := Int.emod_lt_of_pos (t * w.getD i 0) hS
      have hri0 := Int.emod_nonneg (t * w.getD i 0) (show w.sum ≠ 0 by omega)
      have hs0 := quo_le ht hS (sum_take_le hp i)
      have hs1 := pos_sum (quos_pos ht (by omega : 0 ≤ w.sum) (pos_take hp i))
      have ft : Fit t 2 := Fit.i64 (by omega) (by omega)
      have fw : Fit (w.getD i 0) 2 := Fit.i64 (by omega) (by omega)
      have fS : Fit w.sum 2 := Fit.i64 (by omega) (by omega)
      rw [ltB_t (by omega), cond_true, Whole_eq N (by omega) (by omega) ht1, Option.bind_some, inb_t (by omega) (by omega), cond_true, Int.toNat_natCast, Whole_eq N (by omega) (by omega) (by omega), Option.bind_some,
        Times_eq N (by omega) (ft.mono (by omega)) (fw.mono (by omega)), Option.bind_some, Over_eq N (by omega) hS ((ft.mul fw).mono (by omega)) (fS.mono (by omega)), Option.bind_some]
      dsimp only
      rw [Int_eq, Option.bind_some, toI_in (by omega) (by omega), Int_eq, toI_in (by omega) (by omega)]
      dsimp only
      rw [Option.bind_some, inb_t (by omega) (by omega), cond_true, inb_t (by omega) (by omega), cond_true, List.length_set, inb_t (by omega) (by omega), cond_true, getD_set_eq q _ (by omega), W_i64 (x := (i : Int) + 1) (by omega) (by omega), W_i64 (by omega) (by omega)]
      have hrec := rsplit_loop N hN ht ht1 hw hp hS hS1 (m - 1) n (i + 1) (q.set i (t * w.getD i 0 / w.sum)) (r.set i (t * w.getD i 0 % w.sum)) (by omega) (by omega) (by omega) (by rw [List.length_set]; exact hq) (by rw [List.length_set]; exact hr)
        (by rw [take_set q _ (by omega), eq, take_snoc' w h]; unfold quos; simp)
        (by rw [take_set r _ (by omega), er, take_snoc' w h]; unfold rems; simp)
      rw [← quos_take, sum_take_succ _ (by rw [quos_len]; exact h), quos_at, quos_take] at hrec
      rw [Int.sub_sub]
      exact hrec
    · have hi' : i = w.length := by omega
      subst hi'
      rw [List.take_of_length_le (by omega), List.take_of_length_le (by omega)] at eq er
      subst eq er
      rw [List.take_of_length_le (by omega)]
      have hs1 := pos_sum (quos_pos ht (by omega : 0 ≤ w.sum) hp)
      have h1 := left_pos ht hS
      unfold leftL at h1
      rw [ltB_f (by omega), cond_false, rOrder_eq N (by rw [rems_len]; omega) (by rw [rems_len]; omega), Option.bind_some]
      have hlen := orderL_len (rems t w.sum w)
      rw [rems_len] at hlen
      have hbl := rbump_loop N (ks := orderL (rems t w.sum w)) (by omega) w.length (fun k hk => by have := order_at _ k hk; rwa [rems_len] at this) 1000 N 0 (t - (quos t w.sum w).sum).toNat (quos t w.sum w) (by omega) (by omega) (by omega) (quos_len ..) (quos_pos ht (by omega) hp) (by omega) (by omega)
      rw [List.drop_zero, Int.toNat_of_nonneg h1] at hbl
      exact hbl

theorem rSplit_eq (N : Nat) (hN : 5000000 ≤ N) {t : Int} {w : List Int} (ht1 : t < 9223372036854775808) (hw : I64 w) (hl : w.length ≤ 1000000) : novationref1_Split N t w = some (splitL t w) := by
  unfold novationref1_Split novationref1_Split.b splitL
  rw [wrong_eq N (by omega), Option.bind_some]
  by_cases h1 : t < 0
  · rw [decide_eq_true h1, Bool.true_or, cond_true, if_pos (.inl h1)]
  rw [decide_eq_false h1, Bool.false_or]
  cases h2 : may w
  · rw [Bool.not_false, cond_true, if_pos (.inr rfl)]
  rw [Bool.not_true, cond_false, if_neg (by simp [h1]), SumInts_eq N (by omega) hw hl, Option.bind_some, Sign_eq, Option.bind_some]
  obtain ⟨hw64, hp⟩ := may_iff.1 h2
  have hS0 := pos_sum hp
  have hj : ∀ h : ¬ 9223372036854775808 ≤ w.sum, novationref1_Split.j6 N t w (bigN w.sum) = if w.sum = 0 then some (List.replicate w.length 0, 0) else some (sharesL t w, 0) := fun h => by
    unfold novationref1_Split.j6 novationref1_Split.j6b
    rw [Int_eq, Option.bind_some, toI_in (by omega) (by omega), Bool.not_true, cond_false, okMake_t (by omega) (by omega) (by omega), cond_true, cond_true, Sign_eq, Option.bind_some, Int.toNat_natCast]
    by_cases h4 : w.sum = 0
    · rw [if_pos h4, h4, show sgn 0 = 0 from rfl, eqB_t rfl, cond_true]
    · rw [if_neg h4, eqB_f (by unfold sgn; repeat' split <;> omega), cond_false]
      have := rsplit_loop N hN (by omega) ht1 hw64 hp (by omega) (by omega) w.length N 0 (List.replicate w.length 0) (List.replicate w.length 0) (by omega) (by omega) (by omega) (List.length_replicate ..) (List.length_replicate ..) rfl rfl
      rw [List.take_zero] at this
      simp only [quos, List.map_nil, List.sum_nil, Int.sub_zero] at this
      exact this
  by_cases h3 : 9223372036854775808 ≤ w.sum
  · rw [if_pos h3, eqB_f (by unfold sgn; repeat' split <;> omega), cond_false]
    unfold novationref1_Split.j6 novationref1_Split.j6b
    rw [Int_eq, Option.bind_some]; unfold toI; rw [if_neg (by omega)]; rfl
  rw [if_neg h3, hj h3]
  by_cases h4 : w.sum = 0
  · rw [if_pos h4, if_pos h4, h4, show sgn 0 = 0 from rfl, eqB_t rfl, cond_true]
    by_cases h5 : t = 0
    · rw [if_pos h5, eqB_t h5, Bool.not_true, cond_false]
    · rw [if_neg h5, eqB_f h5, Bool.not_false, cond_true]
  · rw [if_neg h4, if_neg h4, eqB_f (by unfold sgn; repeat' split <;> omega), cond_false]

/-- Equal shares. -/
def evenL (t n : Int) : List Int × Int := if t < 0 ∨ n < 1 ∨ 64 < n then ([], 1) else splitL t (List.replicate n.toNat 1)
theorem i64_ones (n : Nat) : I64 (List.replicate n 1) := fun x hx => by rw [List.eq_of_mem_replicate hx]; omega

theorem Even_eq (N : Nat) (hN : 5000000 ≤ N) {t n : Int} (ht1 : t < 9223372036854775808) : share_Even N t n = some (evenL t n) := by
  unfold share_Even evenL
  by_cases h1 : t < 0
  · rw [ltB_t h1, cond_true, if_pos (.inl h1)]
  by_cases h2 : n < 1
  · rw [ltB_f (by omega), cond_false, ltB_t h2, cond_true, if_pos (.inr (.inl h2))]
  by_cases h3 : 64 < n
  · rw [ltB_f (by omega), cond_false, ltB_f (by omega), cond_false, ltB_t h3, cond_true, if_pos (.inr (.inr h3))]
  rw [ltB_f (by omega), cond_false, ltB_f (by omega), cond_false, ltB_f (by omega), cond_false, if_neg (by omega)]
  unfold repeatL
  dsimp only
  rw [if_pos (by omega), Option.bind_some, Split_eq N (by omega) ht1 (i64_ones _) (by rw [List.length_replicate]; omega)]
  rfl

theorem ones_loop (N : Nat) (hN : 5000000 ≤ N) {t : Int} {k : Nat} (hk : k ≤ 64) (ht1 : t < 9223372036854775808) : ∀ (m n i : Nat), k - i ≤ m → m < n → i ≤ k →
    novationref1_Even.l5 N n t (k : Int) (List.replicate i 1 ++ List.replicate (k - i) 0) (i : Int) = some (splitL t (List.replicate k 1))
  | m, 0, i, _, hn, _ => by omega
  | m, n + 1, i, hm, hn, hi => by
    unfold novationref1_Even.l5 novationref1_Even.l5b
    by_cases h : i < k
    · rw [ltB_t (by omega), cond_true, inb_t (by omega) (by simp; omega), cond_true, W_i64 (by omega) (by omega)]
      refine Eq.trans ?_ (ones_loop N hN hk ht1 (m - 1) n (i + 1) (by omega) (by omega) (by omega))
      congr 1
      rw [Int.toNat_natCast, List.set_append_right _ _ (by simp), List.length_replicate, Nat.sub_self, show k - i = (k - (i + 1)) + 1 by omega, List.replicate_succ, List.set_cons_zero, List.replicate_succ', List.append_assoc]
      rfl
    · rw [ltB_f (by omega), cond_false, show k - i = 0 by omega, List.replicate_zero, List.append_nil, show i = k by omega, rSplit_eq N hN ht1 (i64_ones _) (by rw [List.length_replicate]; omega)]
      rfl

theorem rEven_eq (N : Nat) (hN : 5000000 ≤ N) {t n : Int} (ht1 : t < 9223372036854775808) : novationref1_Even N t n = some (evenL t n) := by
  unfold novationref1_Even novationref1_Even.b evenL
  by_cases h1 : t < 0
  · rw [ltB_t h1, cond_true, if_pos (.inl h1)]
  by_cases h2 : n < 1
  · rw [ltB_f (by omega), cond_false, ltB_t h2, cond_true, if_pos (.inr (.inl h2))]
  by_cases h3 : 64 < n
  · rw [ltB_f (by omega), cond_false, ltB_f (by omega), cond_false, ltB_t h3, cond_true, if_pos (.inr (.inr h3))]
  rw [ltB_f (by omega), cond_false, ltB_f (by omega), cond_false, ltB_f (by omega), cond_false, if_neg (by omega), okMake_t (by omega) (by omega) (by omega), cond_true]
  have := ones_loop N hN (t := t) (k := n.toNat) (by omega) ht1 n.toNat N 0 (by omega) (by omega) (by omega)
  rw [List.replicate_zero, List.nil_append, Nat.sub_zero, Int.toNat_of_nonneg (by omega)] at this
  exact this

theorem Ints_loop (N : Nat) {a : List Int} (hl : a.length ≤ 1000000) : ∀ (m n i : Nat), a.length - i ≤ m → m < n → i ≤ a.length → novationhelp_Ints.l4 N n a a (i : Int) = some true
  | m, 0, i, _, hn, _ => by omega
  | m, n + 1, i, hm, hn, hi => by
    unfold novationhelp_Ints.l4 novationhelp_Ints.l4b
    by_cases h : i < a.length
    · rw [ltB_t (by omega), cond_true, inb_t (by omega) (by omega), cond_true, cond_true, eqB_t rfl, Bool.not_true, cond_false, W_i64 (by omega) (by omega)]
      exact Ints_loop N hl (m - 1) n (i + 1) (by omega) (by omega) (by omega)
    · rw [ltB_f (by omega), cond_false]
theorem Ints_eq (N : Nat) {a : List Int} (hl : a.length ≤ 1000000) (hN : 2000000 ≤ N) : novationhelp_Ints N a a = some true := by
  unfold novationhelp_Ints novationhelp_Ints.b
  rw [eqB_t rfl, Bool.not_true, cond_false]
  exact Ints_loop N hl a.length N 0 (by omega) (by omega) (by omega)
theorem Nums_loop (N : Nat) {a : List Int} (hl : a.length ≤ 1000000) : ∀ (m n i : Nat), a.length - i ≤ m → m < n → i ≤ a.length → novationhelp_Nums.l4 N n a a (i : Int) = some true
  | m, 0, i, _, hn, _ => by omega
  | m, n + 1, i, hm, hn, hi => by
    unfold novationhelp_Nums.l4 novationhelp_Nums.l4b
    by_cases h : i < a.length
    · rw [ltB_t (by omega), cond_true, inb_t (by omega) (by omega), cond_true, cond_true, eqB_t rfl, Bool.not_true, cond_false, W_i64 (by omega) (by omega)]
      exact Nums_loop N hl (m - 1) n (i + 1) (by omega) (by omega) (by omega)
    · rw [ltB_f (by omega), cond_false]
theorem Nums_eq (N : Nat) {a : List Int} (hl : a.length ≤ 1000000) (hN : 2000000 ≤ N) : novationhelp_Nums N a a = some true := by
  unfold novationhelp_Nums novationhelp_Nums.b
  rw [eqB_t rfl, Bool.not_true, cond_false]
  exact Nums_loop N hl a.length N 0 (by omega) (by omega) (by omega)
end VM
end

