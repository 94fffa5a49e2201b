/- A part of the proof of HedgeAll of layer 22: what the functions compute, in plain words. -/
import Derived.Test.YthpchkeghefokaaGreatPlain0
import Derived.Test.YthpchkeghefokaaGreatText
set_option linter.all false
section
/- Plain laws: quotients of whole numbers. -/
set_option linter.unusedSimpArgs false
set_option linter.unusedVariables false
namespace VM
open Go VM.F

theorem and_one {x : Int} (h0 : 0 ≤ x) (h1 : x < 18446744073709551616) : bitw .and .u64 x 1 = x % 2 := by
  rw [bitw_and h0 h1 (by omega) (by omega)]
  have := Nat.and_two_pow_sub_one_eq_mod x.toNat 1
  rw [show ((1 : Int).toNat) = 2 ^ 1 - 1 from rfl, this]
  omega

theorem drop_set_self {l : List Int} {k : Nat} (x : Int) (h : k < l.length) : valD ((l.set k x).drop k) = x + 4294967296 * valD (l.drop (k + 1)) := by
  rw [valD_drop, getD_set_eq l x h, List.drop_set_of_lt (by omega)]

theorem half_loop (N : Nat) {d : List Int} (hd : VD d) (hl : d.length ≤ 100000) (hN : 4000000 ≤ N) : ∀ (k n : Nat) (out : List Int) (c : Int), k ≤ d.length → k < n → VD out → out.length = d.length → c = valD (d.drop k) % 2 → valD (out.drop k) = valD (d.drop k) / 2 →
    F217.l4 N n d out c ((k : Int) - 1) = some (dig (valD d / 2).toNat, valD d % 2)
  | k, 0, out, c, _, hn, _, _, _, _ => by omega
  | 0, n + 1, out, c, _, _, ho, hol, hc, hv => by
    unfold F217.l4 F217.l4b
    simp (disch := omega) only [ltB_t, ltB_f, leB_t, leB_f, eqB_t, eqB_f, inb_t, small_t, okMake_t, okCut_t, W_i64, W_u64, cond_true, cond_false, Bool.not_true, Bool.not_false, Option.bind_some, Int.toNat_natCast, Int.toNat_zero, natCast_succ', List.length_append, List.length_singleton, List.length_set, List.length_replicate, List.length_cons, List.length_nil, trim_eq N ho (by omega) (by omega)]
    rw [List.drop_zero, List.drop_zero] at hv
    rw [List.drop_zero] at hc
    rw [hv, hc]
  | k + 1, n + 1, out, c, hk, hn, ho, hol, hc, hv => by
    unfold F217.l4 F217.l4b
    have e : ((k + 1 : Nat) : Int) - 1 = (k : Int) := by omega
    obtain ⟨g0, g1⟩ := hd.getD k
    have hn0 := valD_nonneg (hd.drop (k + 1))
    have e1 := valD_drop d k
    simp only [e, Int.toNat_natCast]
    rw [shl32 (by omega)]
    generalize hx : d.getD k 0 = x at *
    rw [W_u64 (x := c * 4294967296) (by omega) (by omega), or_split' g0 g1 (by omega) (by omega)]
    simp (disch := omega) only [ltB_t, ltB_f, leB_t, leB_f, eqB_t, eqB_f, inb_t, small_t, okMake_t, okCut_t, W_i64, W_u64, cond_true, cond_false, Bool.not_true, Bool.not_false, Option.bind_some, Int.toNat_natCast, Int.toNat_zero, natCast_succ', List.length_append, List.length_singleton, List.length_set, List.length_replicate, List.length_cons, List.length_nil, shr1, and_one]
    refine half_loop N hd hl hN k n (out.set k ((x + c * 4294967296) / 2)) ((x + c * 4294967296) % 2) (by omega) (by omega) (ho.set _ (by omega) (by omega)) (by rw [List.length_set]; exact hol) (by rw [e1, hc]; omega) ?_
    rw [drop_set_self _ (by omega), hv, e1]
    omega

theorem half_eq (N : Nat) (hN : 4000000 ≤ N) (m : Nat) (h : (dig m).length ≤ 100000) : F217 N (dig m) = some (dig (m / 2), ((m % 2 : Nat) : Int)) := by
  unfold F217 F217.b
  simp (disch := omega) only [ltB_t, ltB_f, leB_t, leB_f, eqB_t, eqB_f, inb_t, small_t, okMake_t, okCut_t, W_i64, W_u64, cond_true, cond_false, Bool.not_true, Bool.not_false, Option.bind_some, Int.toNat_natCast, Int.toNat_zero, natCast_succ', List.length_append, List.length_singleton, List.length_set, List.length_replicate, List.length_cons, List.length_nil]
  have := half_loop N (dig_vd m) h hN (dig m).length N (List.replicate (dig m).length 0) 0 (Nat.le_refl _) (by omega) (VD.zeros _) (by simp) (by rw [List.drop_length]; rfl) (by rw [List.drop_length, List.drop_of_length_le (by simp)]; rfl)
  rw [dig_val] at this
  rw [this]
  congr 2

/-- Bits, the lowest first. -/
def bin (n : Nat) : List Int := if n = 0 then [] else ((n % 2 : Nat) : Int) :: bin (n / 2)
termination_by n
decreasing_by omega
theorem bin_pos {n : Nat} (h : n ≠ 0) : bin n = ((n % 2 : Nat) : Int) :: bin (n / 2) := by rw [bin]; simp [h]
theorem bin_zero : bin 0 = [] := by rw [bin]; rfl
def valB : List Int → Int
  | [] => 0
  | d :: r => d + 2 * valB r
theorem bin_val (n : Nat) : valB (bin n) = n := by
  induction n using Nat.strongRecOn with
  | _ n ih =>
    by_cases h : n = 0
    · subst h; rw [bin_zero]; rfl
    · rw [bin_pos h, valB, ih _ (by omega)]; omega
theorem bin_bit (n : Nat) : ∀ d ∈ bin n, d = 0 ∨ d = 1 := by
  induction n using Nat.strongRecOn with
  | _ n ih =>
    by_cases h : n = 0
    · subst h; rw [bin_zero]; intro d hd; cases hd
    · rw [bin_pos h]; intro d hd
      rcases List.mem_cons.1 hd with rfl | hd
      · omega
      · exact ih _ (by omega) d hd
theorem bin_len (k : Nat) : ∀ n, n < 2 ^ k → (bin n).length ≤ k := by
  induction k with
  | zero => intro n h; have : n = 0 := by simpa using h
            subst this; rw [bin_zero]; simp
  | succ k ih =>
    intro n h
    by_cases hn : n = 0
    · subst hn; rw [bin_zero]; simp
    · rw [bin_pos hn, List.length_cons]
      have := ih (n / 2) (by rw [Nat.pow_succ] at h; omega)
      omega

theorem bin_len' {n k : Nat} (h : n < 4294967296 ^ k) : (bin n).length ≤ 32 * k := bin_len _ _ (Nat.lt_of_lt_of_le h (by rw [Nat.pow_mul]; exact Nat.le_refl _))

theorem over_bits (N : Nat) (hN : 4000000 ≤ N) (x2 x3 x4 x5 : vtBig) : ∀ (m n : Nat) (t : Nat) (bits : List Int), (bin t).length ≤ m → m < n → (dig t).length ≤ 100000 → bits.length + (bin t).length ≤ 4000000 →
    F158.l3 N n x2 x3 x4 x5 bits (dig t) = F158.l9 N N x2 x3 x4 x5 (bits ++ bin t) (false, ([], ())) (false, ([], ())) (((bits ++ bin t).length : Int) - 1)
  | m, 0, t, bits, _, hn, _, _ => by omega
  | m, n + 1, t, bits, hm, hn, hd, hb => by
    unfold F158.l3 F158.l3b
    by_cases ht : t = 0
    · subst ht
      rw [dig_zero, bin_zero]
      simp (disch := omega) only [ltB_t, ltB_f, leB_t, leB_f, eqB_t, eqB_f, inb_t, small_t, okMake_t, okCut_t, W_i64, W_u64, cond_true, cond_false, Bool.not_true, Bool.not_false, Option.bind_some, Int.toNat_natCast, Int.toNat_zero, natCast_succ', List.length_append, List.length_singleton, List.length_set, List.length_replicate, List.length_cons, List.length_nil, List.append_nil]
    · have hpos : 0 < (dig t).length := by
        apply List.length_pos_iff.2
        intro h; rw [dig_nil] at h; omega
      rw [bin_pos ht] at hm hb ⊢
      rw [List.length_cons] at hm hb
      have hdl : (dig (t / 2)).length ≤ 100000 := by
        have := len_dig _ t hd
        exact dig_len _ _ (Nat.lt_of_le_of_lt (Nat.div_le_self _ _) this)
      simp (disch := omega) only [ltB_t, ltB_f, leB_t, leB_f, eqB_t, eqB_f, inb_t, small_t, okMake_t, okCut_t, W_i64, W_u64, cond_true, cond_false, Bool.not_true, Bool.not_false, Option.bind_some, Int.toNat_natCast, Int.toNat_zero, natCast_succ', List.length_append, List.length_singleton, List.length_set, List.length_replicate, List.length_cons, List.length_nil, half_eq N hN t hd]
      rw [over_bits N hN x2 x3 x4 x5 (m - 1) n (t / 2) (bits ++ [((t % 2 : Nat) : Int)]) (by omega) (by omega) hdl (by simp; omega)]
      simp

theorem valB_drop (l : List Int) {i : Nat} (h : i < l.length) : valB (l.drop i) = l.getD i 0 + 2 * valB (l.drop (i + 1)) := by
  rw [List.drop_eq_getElem_cons h, valB, List.getD_eq_getElem?_getD, List.getElem?_eq_getElem h]; rfl

theorem valB_nonneg : ∀ {l : List Int}, (∀ d ∈ l, d = 0 ∨ d = 1) → 0 ≤ valB l
  | [], _ => Int.le_refl _
  | d :: r, h => by
    have h1 := valB_nonneg (l := r) fun x hx => h x (List.mem_cons_of_mem _ hx)
    have := h d (List.mem_cons_self ..)
    simp only [valB]; omega

theorem valB_drop_le : ∀ (l : List Int) (i : Nat), (∀ d ∈ l, d = 0 ∨ d = 1) → valB (l.drop i) ≤ valB l
  | l, 0, _ => Int.le_refl _
  | [], i + 1, _ => Int.le_refl _
  | d :: r, i + 1, h => by
    have h1 := valB_drop_le r i fun x hx => h x (List.mem_cons_of_mem _ hx)
    have h2 := valB_nonneg (l := r) fun x hx => h x (List.mem_cons_of_mem _ hx)
    have := h d (List.mem_cons_self ..)
    rw [List.drop_succ_cons, valB]; omega

/-- Division, rounded down, and what is left. -/
theorem over_loop (N : Nat) (hN : 4000000 ≤ N) (a d : Int) (hd : 0 < d) (hfa : Fit a 80000) (hfd : Fit d 80000) (x4 x5 : vtBig) {bits : List Int} (hb : ∀ x ∈ bits, x = 0 ∨ x = 1) (hbv : valB bits = a.natAbs) (hbl : bits.length ≤ 4000000) :
    ∀ (k n : Nat) (q r : Int), k ≤ bits.length → k < n → 0 ≤ q → 0 ≤ r → r < d → valB (bits.drop k) = q * d + r →
    F158.l9 N n (bigN a) (bigN d) x4 x5 bits (bigN q) (bigN r) ((k : Int) - 1) = some (bigN (a / d), bigN (a % d))
  | k, 0, q, r, _, hn, _, _, _, _ => by omega
  | 0, n + 1, q, r, _, _, hq, hr, hrd, hv => by
    unfold F158.l9 F158.l9b
    rw [List.drop_zero, hbv] at hv
    have hqa : q ≤ a.natAbs := by
      have : q * 1 ≤ q * d := Int.mul_le_mul_of_nonneg_left (by omega) hq
      omega
    have fq : Fit q 900000 := (hfa.of_le (u := q) (by omega)).mono (by omega)
    have fr : Fit r 900000 := (hfd.of_le (u := r) (by omega)).mono (by omega)
    have f1 : Fit 1 900000 := (Fit.i64 (v := 1) (by omega) (by omega)).mono (by omega)
    have fq' : Fit (-q) 900000 := fq.neg
    have fd : Fit d 900000 := hfd.mono (by omega)
    rw [leB_f (by omega), cond_false]
    by_cases ha : a < 0
    · have hna : (a.natAbs : Int) = -a := by omega
      have e0 : (bigN a).1 = true := decide_eq_true ha
      simp only [e0, Bool.not_true, cond_false, Sign_eq, Option.bind_some]
      by_cases hr0 : r = 0
      · subst hr0
        rw [eqB_t (by unfold sgn; simp), cond_true]
        simp only [Turned_eq N hN fq, Option.bind_some]
        have e1 : a = d * (-q) := by rw [Int.mul_neg, Int.mul_comm]; omega
        have e2 : a / d = -q := by rw [e1, Int.mul_ediv_cancel_left _ (by omega)]
        have e3 : a % d = 0 := by rw [e1, Int.mul_emod_right]
        rw [e2, e3]
      · rw [eqB_f (by unfold sgn; rw [if_neg (by omega), if_pos (by omega)]; omega), cond_false]
        simp (disch := omega) only [Turned_eq N hN fq, Whole_eq N (by omega) (show -9223372036854775808 ≤ (1 : Int) by omega) (by omega), Option.bind_some, Less_eq N hN fq' f1, Less_eq N hN fd fr]
        have e1 : a = (d - r) + d * (-q - 1) := by rw [Int.mul_sub, Int.mul_neg, Int.mul_one, Int.mul_comm]; omega
        have e2 : a / d = -q - 1 := by
          rw [e1, Int.add_mul_ediv_left _ _ (by omega), Int.ediv_eq_zero_of_lt (by omega) (by omega)]; omega
        have e3 : a % d = d - r := by rw [e1, Int.add_mul_emod_self_left, Int.emod_eq_of_lt (by omega) (by omega)]
        rw [e2, e3]
    · have hna : (a.natAbs : Int) = a := by omega
      have e0 : (bigN a).1 = false := decide_eq_false ha
      simp only [e0, Bool.not_false, cond_true]
      have e1 : a = r + d * q := by rw [Int.mul_comm]; omega
      have e2 : a / d = q := by rw [e1, Int.add_mul_ediv_left _ _ (by omega), Int.ediv_eq_zero_of_lt hr hrd]; omega
      have e3 : a % d = r := by rw [e1, Int.add_mul_emod_self_left, Int.emod_eq_of_lt hr hrd]
      rw [e2, e3]
  | k + 1, n + 1, q, r, hk, hn, hq, hr, hrd, hv => by
    unfold F158.l9 F158.l9b
    have e : ((k + 1 : Nat) : Int) - 1 = (k : Int) := by omega
    have hle := valB_drop_le bits k hb
    have hle1 := valB_drop_le bits (k + 1) hb
    rw [hbv] at hle hle1
    have hqa : q ≤ a.natAbs := by
      have : q * 1 ≤ q * d := Int.mul_le_mul_of_nonneg_left (by omega) hq
      omega
    have fq : Fit q 80000 := hfa.of_le (by omega)
    have fr : Fit r 80000 := hfd.of_le (by omega)
    have fqq := fq.add fq
    have frr := fr.add fr
    have f1 : Fit 1 80000 := (Fit.i64 (v := 1) (by omega) (by omega)).mono (by omega)
    have hvk := valB_drop bits (i := k) (by omega)
    have hbit : bits.getD k 0 = 0 ∨ bits.getD k 0 = 1 := by
      rw [List.getD_eq_getElem?_getD, List.getElem?_eq_getElem (show k < bits.length by omega)]
      exact hb _ (List.getElem_mem _)
    rw [e, leB_t (by omega), cond_true]
    have e2q : (q + q) * d = 2 * (q * d) := by rw [← Int.two_mul, Int.mul_assoc]
    have e2q1 : (q + q + 1) * d = 2 * (q * d) + d := by rw [Int.add_mul, e2q, Int.one_mul]
    simp (disch := omega) only [ltB_t, ltB_f, leB_t, leB_f, eqB_t, eqB_f, inb_t, small_t, okMake_t, okCut_t, W_i64, W_u64, cond_true, cond_false, Bool.not_true, Bool.not_false, Option.bind_some, Int.toNat_natCast, Int.toNat_zero, natCast_succ', List.length_append, List.length_singleton, List.length_set, List.length_replicate, List.length_cons, List.length_nil, Plus_eq N hN (fq.mono (by omega)) (fq.mono (by omega)), Plus_eq N hN (fr.mono (by omega)) (fr.mono (by omega)), Whole_eq N (by omega) (show -9223372036854775808 ≤ (1 : Int) by omega) (by omega)]
    rcases hbit with hbit | hbit
    · rw [hbit, eqB_f (by omega), cond_false]
      simp only [Cmp_eq N hN (frr.mono (by omega)) (hfd.mono (by omega)), Option.bind_some]
      by_cases hge : d ≤ r + r
      · rw [leB_t (by unfold sgn; split <;> (try split) <;> omega), cond_true]
        simp only [Less_eq N hN (frr.mono (by omega)) (hfd.mono (by omega)), Plus_eq N hN (fqq.mono (by omega)) (f1.mono (by omega)), Option.bind_some]
        refine over_loop N hN a d hd hfa hfd x4 x5 hb hbv hbl k n _ _ (by omega) (by omega) (by omega) (by omega) (by omega) ?_
        rw [hvk, hbit, hv, e2q1]; omega
      · rw [leB_f (by unfold sgn; rw [if_pos (by omega)]; omega), cond_false]
        refine over_loop N hN a d hd hfa hfd x4 x5 hb hbv hbl k n _ _ (by omega) (by omega) (by omega) (by omega) (by omega) ?_
        rw [hvk, hbit, hv, e2q]; omega
    · rw [hbit, eqB_t rfl, cond_true]
      have frr1 := frr.add (f1.mono (show 80000 ≤ 80001 by omega))
      simp only [Plus_eq N hN (frr.mono (by omega)) (f1.mono (by omega)), Cmp_eq N hN (frr1.mono (by omega)) (hfd.mono (by omega)), Option.bind_some]
      by_cases hge : d ≤ r + r + 1
      · rw [leB_t (by unfold sgn; split <;> (try split) <;> omega), cond_true]
        simp only [Less_eq N hN (frr1.mono (by omega)) (hfd.mono (by omega)), Plus_eq N hN (fqq.mono (by omega)) (f1.mono (by omega)), Option.bind_some]
        refine over_loop N hN a d hd hfa hfd x4 x5 hb hbv hbl k n _ _ (by omega) (by omega) (by omega) (by omega) (by omega) ?_
        rw [hvk, hbit, hv, e2q1]; omega
      · rw [leB_f (by unfold sgn; rw [if_pos (by omega)]; omega), cond_false]
        refine over_loop N hN a d hd hfa hfd x4 x5 hb hbv hbl k n _ _ (by omega) (by omega) (by omega) (by omega) (by omega) ?_
        rw [hvk, hbit, hv, e2q]; omega

theorem Over_eq (N : Nat) (hN : 5000000 ≤ N) {a d : Int} (hd : 0 < d) (hfa : Fit a 80000) (hfd : Fit d 80000) : F158 N (bigN a) (bigN d) = some (bigN (a / d), bigN (a % d)) := by
  unfold F158 F158.b
  have hbl : (bin a.natAbs).length ≤ 32 * 80000 := bin_len' hfa
  have h1 := over_bits N (by omega) (bigN a) (bigN d) (false, ([], ())) (false, ([], ())) (bin a.natAbs).length N a.natAbs [] (Nat.le_refl _) (by omega) (Nat.le_trans hfa.len (by omega)) (by simp; omega)
  rw [List.nil_append] at h1
  refine h1.trans ?_
  rw [← bigN_zero]
  exact over_loop N (by omega) a d hd hfa hfd _ _ (bin_bit _) (bin_val _) (by omega) (bin a.natAbs).length N 0 0 (Nat.le_refl _) (by omega) (by omega) (by omega) hd (by rw [List.drop_length]; simp [valB])
end VM
end

section
/- Plain laws: Wide. -/
set_option linter.unusedSimpArgs false
set_option linter.unusedVariables false
namespace VM
open Go VM.F

def wideN (v : Int) : vtWide := (v / 18446744073709551616, (v % 18446744073709551616, ()))

theorem wmk {a b v : Int} (h1 : a = v / 18446744073709551616) (h2 : b = v % 18446744073709551616) : ((a, (b, ())) : vtWide) = wideN v := by
  unfold wideN; rw [h1, h2]
theorem wsome {a b v : Int} {α : Type} {c : α} (h1 : a = v / 18446744073709551616) (h2 : b = v % 18446744073709551616) : (some (((a, (b, ())) : vtWide), c) : Option (vtWide × α)) = some (wideN v, c) := by
  rw [wmk h1 h2]
theorem psome {a b c d : Int} (h1 : a = c) (h2 : b = d) : (some (a, b) : Option (Int × Int)) = some (c, d) := by rw [h1, h2]

theorem signed_pos (N : Nat) {hi lo : Int} (h0 : 0 ≤ hi) (h1 : hi < 9223372036854775808) (l0 : 0 ≤ lo) (l1 : lo < 18446744073709551616) : F168 N false hi lo = some (wideN (hi * 18446744073709551616 + lo), true) := by
  unfold F168 F168.b
  rw [Bool.not_false, cond_true, leB_f (by omega), cond_false, W_i64 (by omega) (by omega)]
  exact wsome (by omega) (by omega)

theorem signed_neg (N : Nat) {hi lo : Int} (h0 : 0 ≤ hi) (l0 : 0 ≤ lo) (l1 : lo < 18446744073709551616) (hm : hi * 18446744073709551616 + lo ≤ 170141183460469231731687303715884105728) : F168 N true hi lo = some (wideN (-(hi * 18446744073709551616 + lo)), true) := by
  unfold F168 F168.b
  have hj : F168.j7 N hi lo zz2 = some (wideN (-(hi * 18446744073709551616 + lo)), true) := by
    unfold F168.j7 F168.j7b
    rw [sub64_eq N (by omega) (by omega) l0 l1 (by omega) (by omega), Option.bind_some]
    by_cases hl : lo = 0
    · subst hl
      rw [if_neg (by omega)]
      rw [sub64_eq N (by omega) (by omega) h0 (by omega) (by omega) (by omega), Option.bind_some, W_i64_def]
      exact wsome (by split <;> omega) (by omega)
    · rw [if_pos (by omega)]
      rw [sub64_eq N (by omega) (by omega) h0 (by omega) (by omega) (by omega), Option.bind_some, W_i64_def]
      exact wsome (by split <;> omega) (by omega)
  rw [Bool.not_true, cond_false, ltB_f (by omega), cond_false]
  by_cases he : hi = 9223372036854775808
  · rw [eqB_t he, cond_true, ltB_f (by omega), cond_false]; exact hj
  · rw [eqB_f he, cond_false]; exact hj

theorem natAbs_mul_le {a b : Int} (a0 : -9223372036854775808 ≤ a) (a1 : a < 9223372036854775808) (b0 : -9223372036854775808 ≤ b) (b1 : b < 9223372036854775808) :
    0 ≤ (a.natAbs : Int) * b.natAbs ∧ (a.natAbs : Int) * b.natAbs ≤ 85070591730234615865843651857942052864 := by
  have := mul_lt (m := 9223372036854775808) (n := 9223372036854775808) (show 0 ≤ (a.natAbs : Int) by omega) (show 0 ≤ (b.natAbs : Int) by omega) (by omega) (by omega)
  omega

theorem wMul_eq (N : Nat) {a b : Int} (a0 : -9223372036854775808 ≤ a) (a1 : a < 9223372036854775808) (b0 : -9223372036854775808 ≤ b) (b1 : b < 9223372036854775808) : F83 N a b = some (wideN (a * b)) := by
  unfold F83
  have hm := natAbs_mul_le a0 a1 b0 b1
  simp only [Size_eq N a0 a1, Size_eq N b0 b1, Option.bind_some, Mul64_eq N (show 0 ≤ (a.natAbs : Int) by omega) (by omega) (show 0 ≤ (b.natAbs : Int) by omega) (by omega), teq_bool]
  obtain ⟨m, hme⟩ : ∃ m, m = (a.natAbs : Int) * b.natAbs := ⟨_, rfl⟩
  rw [← hme] at hm ⊢
  have hd : m / 18446744073709551616 * 18446744073709551616 + m % 18446744073709551616 = m := by omega
  by_cases h1 : a < 0 <;> by_cases h2 : b < 0
  · rw [ltB_t h1, ltB_t h2, beq_self_eq_true, Bool.not_true, signed_pos N (by omega) (by omega) (by omega) (by omega), Option.bind_some, hd]
    have : m = a * b := by rw [hme, show (a.natAbs : Int) = -a from by omega, show (b.natAbs : Int) = -b from by omega, Int.neg_mul_neg]
    rw [this]
  · rw [ltB_t h1, ltB_f (x := b) (by omega), show (!(true == false)) = true from rfl, signed_neg N (by omega) (by omega) (by omega) (by omega), Option.bind_some, hd]
    have : m = -(a * b) := by rw [hme, show (a.natAbs : Int) = -a from by omega, show (b.natAbs : Int) = b from by omega, Int.neg_mul]
    rw [this, Int.neg_neg]
  · rw [ltB_f (x := a) (by omega), ltB_t h2, show (!(false == true)) = true from rfl, signed_neg N (by omega) (by omega) (by omega) (by omega), Option.bind_some, hd]
    have : m = -(a * b) := by rw [hme, show (a.natAbs : Int) = a from by omega, show (b.natAbs : Int) = -b from by omega, Int.mul_neg]
    rw [this, Int.neg_neg]
  · rw [ltB_f (x := a) (by omega), ltB_f (x := b) (by omega), beq_self_eq_true, Bool.not_true, signed_pos N (by omega) (by omega) (by omega) (by omega), Option.bind_some, hd]
    have : m = a * b := by rw [hme, show (a.natAbs : Int) = a from by omega, show (b.natAbs : Int) = b from by omega]
    rw [this]

theorem wsize_eq (N : Nat) {v : Int} (v0 : -170141183460469231731687303715884105728 ≤ v) (v1 : v < 170141183460469231731687303715884105728) : F215 N (wideN v) = some ((v.natAbs : Int) / 18446744073709551616, (v.natAbs : Int) % 18446744073709551616) := by
  unfold F215 wideN
  dsimp only
  by_cases h : 0 ≤ v
  · rw [leB_t (by omega), cond_true, W_u64 (by omega) (by omega)]
    exact psome (by omega) (by omega)
  · rw [leB_f (by omega), cond_false, sub64_eq N (by omega) (by omega) (by omega) (by omega) (by omega) (by omega), Option.bind_some]
    dsimp only
    rw [W_mod]
    by_cases hl : v % 18446744073709551616 = 0
    · rw [if_neg (by omega), sub64_eq N (by omega) (by omega) (by omega) (by omega) (by omega) (by omega), Option.bind_some]
      exact psome (by omega) (by omega)
    · rw [if_pos (by omega), sub64_eq N (by omega) (by omega) (by omega) (by omega) (by omega) (by omega), Option.bind_some]
      exact psome (by omega) (by omega)

theorem div_two {m d : Int} (hd : 0 < d) (hm : 0 ≤ m) : m / d = m / 18446744073709551616 / d * 18446744073709551616 + (m / 18446744073709551616 % d * 18446744073709551616 + m % 18446744073709551616) / d ∧
    m % d = (m / 18446744073709551616 % d * 18446744073709551616 + m % 18446744073709551616) % d := by
  have e := Int.mul_ediv_add_emod (m / 18446744073709551616) d
  have e0 : m = (m / 18446744073709551616 % d * 18446744073709551616 + m % 18446744073709551616) + d * (m / 18446744073709551616 / d * 18446744073709551616) := by
    rw [← Int.mul_assoc]; omega
  constructor
  · conv => lhs; rw [e0]
    rw [Int.add_mul_ediv_left _ _ (by omega)]; omega
  · conv => lhs; rw [e0]
    rw [Int.add_mul_emod_self_left]

theorem wDiv_eq (N : Nat) (hN : 100 ≤ N) {v d : Int} (v0 : -170141183460469231731687303715884105728 ≤ v) (v1 : v < 170141183460469231731687303715884105728) (d0 : 0 < d) (d1 : d < 9223372036854775808) :
    F155 N (wideN v) d = some (wideN (v / d), v % d, true) := by
  unfold F155 F155.b
  rw [ltB_f (by omega), cond_false, wsize_eq N v0 v1, Option.bind_some, W_u64 (x := d) (by omega) (by omega)]
  dsimp only
  obtain ⟨m, hm⟩ : ∃ m : Int, m = v.natAbs := ⟨_, rfl⟩
  rw [← hm]
  have hmd := Int.emod_lt_of_pos (m / 18446744073709551616) d0
  have hmd0 := Int.emod_nonneg (m / 18446744073709551616) (show d ≠ 0 by omega)
  rw [Div64_eq N hN (by omega) d0 (by omega) (by omega) (by omega), Option.bind_some, Int.zero_mul, Int.zero_add]
  dsimp only
  rw [Div64_eq N hN hmd0 hmd (by omega) (by omega) (by omega), Option.bind_some]
  dsimp only
  obtain ⟨e1, e2⟩ := div_two d0 (show 0 ≤ m by omega)
  rw [← e2]
  have hq0 : 0 ≤ m / 18446744073709551616 / d := Int.ediv_nonneg (by omega) (by omega)
  have hq1 : m / 18446744073709551616 / d ≤ m / 18446744073709551616 := Int.ediv_le_self _ (by omega)
  have hr1 := Int.emod_lt_of_pos m d0
  have hr0 := Int.emod_nonneg m (show d ≠ 0 by omega)
  have hl0 : 0 ≤ (m / 18446744073709551616 % d * 18446744073709551616 + m % 18446744073709551616) / d := Int.ediv_nonneg (by omega) (by omega)
  have hl1 : (m / 18446744073709551616 % d * 18446744073709551616 + m % 18446744073709551616) / d < 18446744073709551616 := by
    rw [Int.ediv_lt_iff_lt_mul d0]
    have := Int.mul_le_mul_of_nonneg_right (show m / 18446744073709551616 % d + 1 ≤ d by omega) (show (0 : Int) ≤ 18446744073709551616 by omega)
    rw [Int.add_mul, Int.one_mul, Int.mul_comm d] at this; omega
  generalize (m / 18446744073709551616 % d * 18446744073709551616 + m % 18446744073709551616) / d = ql at *
  generalize hqh : m / 18446744073709551616 / d = qh at *
  have hmq := Int.mul_ediv_add_emod m d
  by_cases h : 0 ≤ v
  · have hv : m = v := by omega
    rw [leB_t (show (0 : Int) ≤ (wideN v).1 by show 0 ≤ v / _; omega), cond_true, W_i64 (x := qh) (by omega) (by omega), W_i64 (x := m % d) (by omega) (by omega), ← hv]
    unfold wideN
    exact wsome (by omega) (by omega)
  · have hv : v = -m := by omega
    rw [leB_f (show (wideN v).1 < 0 by show v / _ < 0; omega), cond_false]
    by_cases hr : 0 < m % d
    · rw [ltB_t hr, cond_true, add64_eq N hl0 (by omega) (by omega) (by omega), Option.bind_some]
      unfold F155.j13 F155.j13b
      dsimp only
      rw [W_u64 (x := d - m % d) (by omega) (by omega), W_u64 (x := qh + (ql + 1 + 0) / 18446744073709551616) (by omega) (by omega)]
      rw [signed_neg N (by omega) (by omega) (by omega) (by
        have : m / d * 1 ≤ m / d * d := Int.mul_le_mul_of_nonneg_left (by omega) (Int.ediv_nonneg (by omega) (by omega))
        rw [Int.mul_comm] at hmq; omega), Option.bind_some, W_i64 (x := d - m % d) (by omega) (by omega)]
      have e3 : v = (d - m % d) + d * (-(m / d) - 1) := by rw [hv, Int.mul_sub, Int.mul_neg, Int.mul_one]; omega
      have e4 : v / d = -(m / d) - 1 := by
        rw [e3, Int.add_mul_ediv_left _ _ (by omega), Int.ediv_eq_zero_of_lt (by omega) (by omega)]; omega
      have e5 : v % d = d - m % d := by rw [e3, Int.add_mul_emod_self_left, Int.emod_eq_of_lt (by omega) (by omega)]
      rw [e4, e5]
      dsimp only
      rw [show -((qh + (ql + 1 + 0) / 18446744073709551616) * 18446744073709551616 + (ql + 1 + 0) % 18446744073709551616) = -(m / d) - 1 by omega]
    · have hr' : m % d = 0 := by omega
      rw [ltB_f (by omega), cond_false]
      unfold F155.j13 F155.j13b
      rw [signed_neg N (by omega) (by omega) (by omega) (by
        have : m / d * 1 ≤ m / d * d := Int.mul_le_mul_of_nonneg_left (by omega) (Int.ediv_nonneg (by omega) (by omega))
        rw [Int.mul_comm] at hmq; omega), Option.bind_some, W_i64 (x := m % d) (by omega) (by omega)]
      have e3 : v = d * (-(m / d)) := by rw [hv, Int.mul_neg]; omega
      have e4 : v / d = -(m / d) := by rw [e3, Int.mul_ediv_cancel_left _ (by omega)]
      have e5 : v % d = 0 := by rw [e3, Int.mul_emod_right]
      rw [e4, e5, hr']
      dsimp only
      rw [show -(qh * 18446744073709551616 + ql) = -(m / d) by omega]

theorem wInt_eq (N : Nat) {v : Int} (v0 : -170141183460469231731687303715884105728 ≤ v) (v1 : v < 170141183460469231731687303715884105728) : F79 N (wideN v) = some (toI v) := by
  unfold F79 wideN
  rw [ltB_f (by omega), cond_false]
  dsimp only
  have hw0 : -9223372036854775808 ≤ W .i64 (v % 18446744073709551616) ∧ W .i64 (v % 18446744073709551616) < 9223372036854775808 := by rw [W_i64_def]; split <;> omega
  rw [shr_i64_63 hw0.1 hw0.2]
  have hwv : W .i64 (v % 18446744073709551616) = if 9223372036854775808 ≤ v % 18446744073709551616 then v % 18446744073709551616 - 18446744073709551616 else v % 18446744073709551616 := by rw [W_i64_def]; split <;> split <;> omega
  rw [hwv]
  unfold toI
  by_cases h : -9223372036854775808 ≤ v ∧ v < 9223372036854775808
  · rw [if_pos h]
    by_cases hn : v < 0
    · rw [if_pos (show 9223372036854775808 ≤ v % 18446744073709551616 by omega), if_pos (by omega), eqB_t (by omega), Bool.not_true, cond_false]
      congr 2; omega
    · rw [if_neg (show ¬ 9223372036854775808 ≤ v % 18446744073709551616 by omega), if_neg (by omega), eqB_t (by omega), Bool.not_true, cond_false]
      congr 2; omega
  · rw [if_neg h]
    by_cases hm : 9223372036854775808 ≤ v % 18446744073709551616
    · rw [if_pos hm, if_pos (by omega), eqB_f (by omega), Bool.not_false, cond_true]
    · rw [if_neg hm, if_neg (by omega), eqB_f (by omega), Bool.not_false, cond_true]

end VM
end

section
/- Plain laws: loops, whatever they are about. -/
set_option linter.unusedVariables false
namespace VM
open Go

theorem cond_not {α : Type} (b : Bool) (x y : α) : cond (!b) x y = cond b y x := by cases b <;> rfl
theorem cond_ltB {α : Type} (a b : Int) (x y : α) : cond (ltB a b) x y = if a < b then x else y := by
  by_cases h : a < b
  · rw [ltB_t h, if_pos h]; rfl
  · rw [ltB_f (by omega), if_neg h]; rfl
theorem cond_leB {α : Type} (a b : Int) (x y : α) : cond (leB a b) x y = if a ≤ b then x else y := by
  by_cases h : a ≤ b
  · rw [leB_t h, if_pos h]; rfl
  · rw [leB_f (by omega), if_neg h]; rfl
theorem cond_eqB {α : Type} (a b : Int) (x y : α) : cond (eqB a b) x y = if a = b then x else y := by
  by_cases h : a = b
  · rw [eqB_t h, if_pos h]; rfl
  · rw [eqB_f h, if_neg h]; rfl
theorem cond_dec {α : Type} (p : Prop) [Decidable p] (x y : α) : cond (decide p) x y = if p then x else y := by
  by_cases h : p
  · rw [decide_eq_true h, if_pos h]; rfl
  · rw [decide_eq_false h, if_neg h]; rfl

theorem drop_cons {α : Type} {l : List α} {i : Nat} (h : i < l.length) (d : α) : l.drop i = l.getD i d :: l.drop (i + 1) := by
  rw [List.drop_eq_getElem_cons h, List.getD_eq_getElem?_getD, List.getElem?_eq_getElem h]; rfl

/-- A loop over a list, with what it carries. -/
theorem lrec {α σ β : Type} (l : List α) (d : α) (F : Nat → Int → σ → Option β) (g : List α → σ → Option β) (I : Nat → σ → Prop)
    (hs : ∀ n i s, i < l.length → I i s → (∀ s', I (i + 1) s' → F n ((i + 1 : Nat) : Int) s' = g (l.drop (i + 1)) s') → F (n + 1) (i : Int) s = g (l.getD i d :: l.drop (i + 1)) s)
    (he : ∀ n s, I l.length s → F (n + 1) (l.length : Int) s = g [] s) : ∀ m n i s, l.length - i ≤ m → m < n → i ≤ l.length → I i s → F n (i : Int) s = g (l.drop i) s
  | m, 0, i, s, _, hn, _, _ => by omega
  | m, n + 1, i, s, hm, hn, hi, hI => by
    by_cases h : i < l.length
    · rw [drop_cons h d]
      exact hs n i s h hI fun s' hI' => lrec l d F g I hs he (m - 1) n (i + 1) s' (by omega) (by omega) (by omega) hI'
    · have : i = l.length := by omega
      subst this
      rw [List.drop_length]; exact he n s hI

/-- A loop over a list, that carries nothing. -/
theorem lrec0 {α β : Type} (l : List α) (d : α) (F : Nat → Int → Option β) (g : List α → Option β)
    (hs : ∀ n i, i < l.length → F n ((i + 1 : Nat) : Int) = g (l.drop (i + 1)) → F (n + 1) (i : Int) = g (l.getD i d :: l.drop (i + 1)))
    (he : ∀ n, F (n + 1) (l.length : Int) = g []) (n : Nat) (hn : l.length < n) : F n 0 = g l := by
  have := lrec (σ := Unit) l d (fun n i _ => F n i) (fun l _ => g l) (fun _ _ => True) (fun n i _ h _ hr => hs n i h (hr () trivial)) (fun n _ _ => he n) l.length n 0 () (by omega) hn (by omega) trivial
  simpa using this

/-- A loop that looks at each place, and goes on while all is well. -/
theorem scan {F : Nat → Int → Option Bool} {len : Nat} (P : Nat → Prop) [DecidablePred P]
    (hs : ∀ n i r, i < len → (∀ j, j < i → P j) → F n ((i + 1 : Nat) : Int) = r → F (n + 1) (i : Int) = if P i then r else some false) {e : Bool} (he : ∀ n, F (n + 1) (len : Int) = some e) :
    ∀ m n i, len - i ≤ m → m < n → i ≤ len → (∀ j, j < i → P j) → F n (i : Int) = some (decide (∀ j, j < len → i ≤ j → P j) && e)
  | m, 0, i, _, hn, _, _ => by omega
  | m, n + 1, i, hm, hn, hi, hp => by
    by_cases h : i < len
    · rw [hs n i _ h hp rfl]
      by_cases hP : P i
      · rw [if_pos hP, scan P hs he (m - 1) n (i + 1) (by omega) (by omega) (by omega) (fun j hj => by
          by_cases hji : j = i
          · subst hji; exact hP
          · exact hp j (by omega))]
        congr 2
        rw [decide_eq_decide]
        refine ⟨fun hj j h2 h1 => ?_, fun hj j h2 h1 => hj j h2 (by omega)⟩
        by_cases hji : j = i
        · subst hji; exact hP
        · exact hj j h2 (by omega)
      · rw [if_neg hP, decide_eq_false (fun hj => hP (hj i h (Nat.le_refl i)))]; rfl
    · have : i = len := by omega
      subst this
      rw [he n, decide_eq_true (fun j h2 h1 => absurd h2 (by omega))]; rfl

theorem scan0 {F : Nat → Int → Option Bool} {len : Nat} (P : Nat → Prop) [DecidablePred P] {e : Bool}
    (hs : ∀ n i r, i < len → (∀ j, j < i → P j) → F n ((i + 1 : Nat) : Int) = r → F (n + 1) (i : Int) = if P i then r else some false) (he : ∀ n, F (n + 1) (len : Int) = some e) (n : Nat) (hn : len < n) :
    F n 0 = some (decide (∀ j, j < len → P j) && e) := by
  have := scan P hs he len n 0 (by omega) hn (by omega) (fun j hj => absurd hj (by omega))
  rw [show ((0 : Nat) : Int) = 0 from rfl] at this
  rw [this]
  congr 2
  rw [decide_eq_decide]
  exact ⟨fun h j hj => h j hj (by omega), fun h j hj _ => h j hj⟩
end VM
end

section
/- Plain laws: sums of Wides. -/
set_option linter.unusedSimpArgs false
set_option linter.unusedVariables false
namespace VM
open Go VM.F

def In128 (x : Int) : Prop := -170141183460469231731687303715884105728 ≤ x ∧ x < 170141183460469231731687303715884105728
instance (x : Int) : Decidable (In128 x) := by unfold In128; infer_instance
theorem wOf_eq (N : Nat) {x : Int} (h0 : -9223372036854775808 ≤ x) (h1 : x < 9223372036854775808) : F25 N x = some (wideN x) := by
  unfold F25
  rw [ltB_f (by omega), cond_false, shr_i64_63 h0 h1, W_mod]
  congr 1
  exact wmk (by split <;> omega) rfl
theorem wide_at {ws : List Int} (i : Nat) : (ws.map wideN).getD i zz2 = wideN (ws.getD i 0) := by
  by_cases h : i < ws.length
  · rw [List.getD_eq_getElem?_getD, List.getElem?_map, List.getElem?_eq_getElem h, List.getD_eq_getElem?_getD, List.getElem?_eq_getElem h]; rfl
  · rw [List.getD_eq_getElem?_getD, List.getElem?_eq_none (by rw [List.length_map]; omega), List.getD_eq_getElem?_getD, List.getElem?_eq_none (by omega)]; rfl
theorem sum128 {ws : List Int} (h : ∀ x ∈ ws, In128 x) : -(170141183460469231731687303715884105728 * (ws.length : Int)) ≤ ws.sum ∧ ws.sum ≤ 170141183460469231731687303715884105728 * (ws.length : Int) := by
  induction ws with
  | nil => simp
  | cons x ws ih =>
    have h0 := h x (List.mem_cons_self ..)
    have ih := ih (fun y hy => h y (List.mem_cons_of_mem _ hy))
    unfold In128 at h0
    rw [List.sum_cons, List.length_cons]; omega

theorem sum_step {t w : Int} {lo hi top : Int} (hw : In128 w) (hlo : lo = t % 18446744073709551616) (hhi : hi = t / 18446744073709551616 % 18446744073709551616) (htop : top = t / 340282366920938463463374607431768211456) :
    (lo + w % 18446744073709551616 + 0) % 18446744073709551616 = (t + w) % 18446744073709551616 ∧
    (hi + (w / 18446744073709551616) % 18446744073709551616 + (lo + w % 18446744073709551616 + 0) / 18446744073709551616) % 18446744073709551616 = (t + w) / 18446744073709551616 % 18446744073709551616 ∧
    top + (if w / 18446744073709551616 < 0 then -1 else 0) + (hi + (w / 18446744073709551616) % 18446744073709551616 + (lo + w % 18446744073709551616 + 0) / 18446744073709551616) / 18446744073709551616 = (t + w) / 340282366920938463463374607431768211456 := by
  unfold In128 at hw
  subst hlo hhi htop
  refine ⟨by omega, by omega, ?_⟩
  split <;> omega

def sumW (t : Int) : vtWide × Bool := if In128 t then (wideN t, true) else (zz2, false)
theorem W64 (x : Int) : W .u64 x = x % 18446744073709551616 := W_mod x

theorem wSum_loop (N : Nat) {ws : List Int} (h : ∀ x ∈ ws, In128 x) (hl : ws.length ≤ 1000000) : ∀ (m n i : Nat) (t : Int), ws.length - i ≤ m → m < n → i ≤ ws.length → t = (ws.take i).sum →
    F183.l3 N n zz2 (t / 340282366920938463463374607431768211456) (t / 18446744073709551616 % 18446744073709551616) (t % 18446744073709551616) (ws.map wideN) (ws.length : Int) (i : Int) = some (sumW ws.sum)
  | m, 0, i, t, _, hn, _, _ => by omega
  | m, n + 1, i, t, hm, hn, hi, ht => by
    unfold F183.l3 F183.l3b
    have f1 := sum128 (ws := ws.take i) (fun x hx => h x (List.mem_of_mem_take hx))
    rw [List.length_take, Nat.min_eq_left (by omega), ← ht] at f1
    by_cases h1 : i < ws.length
    · have hw : In128 (ws.getD i 0) := by
        rw [List.getD_eq_getElem?_getD, List.getElem?_eq_getElem h1]; exact h _ (List.getElem_mem h1)
      have hs := sum_take_succ ws h1
      rw [← ht] at hs
      have st := sum_step (t := t) (w := ws.getD i 0) hw rfl rfl rfl
      have hrec := wSum_loop N h hl (m - 1) n (i + 1) (t + ws.getD i 0) (by omega) (by omega) (by omega) hs.symm
      rw [ltB_t (by omega), cond_true, inb_t (by omega) (by rw [List.length_map]; omega), cond_true, Int.toNat_natCast, wide_at]
      unfold wideN
      dsimp only
      have hw' := hw
      unfold In128 at hw'
      generalize ws.getD i 0 = w at *
      have hq : 0 ≤ (t % 18446744073709551616 + w % 18446744073709551616 + 0) / 18446744073709551616 ∧ (t % 18446744073709551616 + w % 18446744073709551616 + 0) / 18446744073709551616 ≤ 1 := by omega
      rw [add64_eq N (by omega) (by omega) (by omega) (by omega), Option.bind_some, W64, add64_eq N (by omega) (by omega) hq.1 hq.2, Option.bind_some, ltB_f (x := 63) (by omega), cond_false, st.1, st.2.1]
      rw [shr_i64_63 (by omega) (by omega)]
      have hc : 0 ≤ (t / 18446744073709551616 % 18446744073709551616 + w / 18446744073709551616 % 18446744073709551616 + (t % 18446744073709551616 + w % 18446744073709551616 + 0) / 18446744073709551616) / 18446744073709551616 ∧ (t / 18446744073709551616 % 18446744073709551616 + w / 18446744073709551616 % 18446744073709551616 + (t % 18446744073709551616 + w % 18446744073709551616 + 0) / 18446744073709551616) / 18446744073709551616 ≤ 1 := by omega
      have hif : -1 ≤ (if w / 18446744073709551616 < 0 then (-1 : Int) else 0) ∧ (if w / 18446744073709551616 < 0 then (-1 : Int) else 0) ≤ 0 := by split <;> omega
      rw [W_i64 (x := t / 340282366920938463463374607431768211456 + _) (by omega) (by omega), W_i64 (x := (_ : Int) / 18446744073709551616) (by omega) (by omega), st.2.2, W_i64 (by omega) (by omega), W_i64 (x := (i : Int) + 1) (by omega) (by omega)]
      exact hrec
    · have e : (ws.take i).sum = ws.sum := by rw [List.take_of_length_le (by omega)]
      rw [e] at ht
      rw [ltB_f (by omega), cond_false, ltB_f (x := 63) (by omega), cond_false, ← ht]
      have hh : -9223372036854775808 ≤ W .i64 (t / 18446744073709551616 % 18446744073709551616) ∧ W .i64 (t / 18446744073709551616 % 18446744073709551616) < 9223372036854775808 := by rw [W_i64_def]; split <;> omega
      have hwv : W .i64 (t / 18446744073709551616 % 18446744073709551616) = if 9223372036854775808 ≤ t / 18446744073709551616 % 18446744073709551616 then t / 18446744073709551616 % 18446744073709551616 - 18446744073709551616 else t / 18446744073709551616 % 18446744073709551616 := by rw [W_i64_def]; split <;> split <;> omega
      rw [shr_i64_63 hh.1 hh.2, hwv]
      unfold sumW
      by_cases hI : In128 t
      · rw [if_pos hI]
        unfold In128 at hI
        rw [eqB_t (by split <;> split <;> omega), Bool.not_true, cond_false]
        exact wsome (by split <;> omega) rfl
      · rw [if_neg hI]
        unfold In128 at hI
        rw [eqB_f (by split <;> split <;> omega), Bool.not_false, cond_true]

theorem wSum_eq (N : Nat) {ws : List Int} (h : ∀ x ∈ ws, In128 x) (hl : ws.length ≤ 1000000) (hN : 1000000 < N) : F183 N (ws.map wideN) = some (sumW ws.sum) := by
  unfold F183 F183.b
  rw [List.length_map]
  exact wSum_loop N h hl ws.length N 0 0 (by omega) (by omega) (by omega) (by simp)
end VM
end

section
/- Plain laws: configs, members, accounts. -/
set_option linter.unusedSimpArgs false
set_option linter.unusedVariables false
namespace VM
open Go VM.F

theorem plan_in_eq (N : Nat) (a lo hi : Int) : F117 N a lo hi = some (decide (lo ≤ a ∧ a ≤ hi)) := by
  unfold F117
  rw [cond_leB, leB_eq]
  by_cases h : lo ≤ a
  · rw [if_pos h]; congr 1; rw [decide_eq_decide]; omega
  · rw [if_neg h, decide_eq_false (by omega)]
theorem within_eq (N : Nat) (a lo hi : Int) : F118 N a lo hi = some (decide (lo ≤ a ∧ a ≤ hi)) := plan_in_eq N a lo hi

def okInst4 (a b c d : Int) : Prop := (0 ≤ a ∧ a ≤ 3) ∧ (1 ≤ b ∧ b ≤ 1000000000000) ∧ (0 ≤ c ∧ c ≤ 1000000000) ∧ (0 ≤ d ∧ d ≤ 1000000000)
instance (a b c d : Int) : Decidable (okInst4 a b c d) := by unfold okInst4; infer_instance
def okInst (l : wtI4) (i : Nat) : Prop := okInst4 (l.getD i zz4).1 (l.getD i zz4).2.1 (l.getD i zz4).2.2.1 (l.getD i zz4).2.2.2.1
instance (l : wtI4) : DecidablePred (okInst l) := fun i => by unfold okInst; infer_instance
def okRest6 (a b c d e f : Int) : Prop := 0 ≤ a ∧ (0 ≤ b ∧ b ≤ 4) ∧ (0 ≤ c ∧ c ≤ 1000000) ∧ (0 ≤ d ∧ d ≤ 1000000) ∧ (1 ≤ e ∧ e ≤ 4611686018427387904) ∧ 0 ≤ f
instance (a b c d e f : Int) : Decidable (okRest6 a b c d e f) := by unfold okRest6; infer_instance
def okRest (c : vtConfig) : Prop := okRest6 c.2.1 c.2.2.1 c.2.2.2.1 c.2.2.2.2.1 c.2.2.2.2.2.1 c.2.2.2.2.2.2.1
instance (c : vtConfig) : Decidable (okRest c) := by unfold okRest; infer_instance
/-- A config that may be. -/
def okPlan (c : vtConfig) : Bool := decide (1 ≤ c.1.length ∧ c.1.length ≤ 6) && (decide (∀ j, j < c.1.length → okInst c.1 j) && decide (okRest c))

theorem Plan_eq (N : Nat) (hN : 100 ≤ N) (c : vtConfig) : F40 N c = some (okPlan c) := by
  unfold F40 F40.b okPlan
  rw [plan_in_eq, Option.bind_some, cond_not, cond_dec]
  by_cases hl : 1 ≤ c.1.length ∧ c.1.length ≤ 6
  · rw [if_pos (by omega), decide_eq_true hl, Bool.true_and]
    refine scan0 (F := fun n i => F40.l4 N n c c.1 (c.1.length : Int) i) (okInst c.1) (fun n i r hi hp hr => ?_) (fun n => ?_) N (by omega)
    · unfold F40.l4 F40.l4b
      rw [ltB_t (by omega), cond_true, inb_t (by omega) (by omega), cond_true, Int.toNat_natCast, W_i64 (by omega) (by omega), natCast_succ']
      simp only [plan_in_eq, Option.bind_some, cond_not, cond_dec]
      by_cases hP : okInst c.1 i
      · rw [if_pos hP]; unfold okInst okInst4 at hP
        repeat' split
        all_goals first | rfl | exact hr | omega
      · rw [if_neg hP]; unfold okInst okInst4 at hP
        repeat' split
        all_goals first | rfl | exact hr | omega
    · unfold F40.l4 F40.l4b
      rw [ltB_f (by omega), cond_false]
      simp only [plan_in_eq, Option.bind_some, cond_not, cond_dec, cond_leB, leB_eq]
      by_cases hP : okRest c
      · rw [decide_eq_true hP]; unfold okRest okRest6 at hP
        repeat' split
        all_goals first | rfl | omega | (rw [decide_eq_true (by omega)])
      · rw [decide_eq_false hP]; unfold okRest okRest6 at hP
        repeat' split
        all_goals first | rfl | omega | (rw [decide_eq_false (by omega)])
  · rw [if_neg (by omega), decide_eq_false hl, Bool.false_and]

theorem rPlan_eq (N : Nat) (hN : 100 ≤ N) (c : vtConfig) : F41 N c = some (okPlan c) := by
  unfold F41 F41.b okPlan
  rw [cond_ltB, cond_ltB]
  by_cases hl : 1 ≤ c.1.length ∧ c.1.length ≤ 6
  · rw [if_neg (by omega), if_neg (by omega), decide_eq_true hl, Bool.true_and]
    refine scan0 (F := fun n i => F41.l4 N n c i) (okInst c.1) (fun n i r hi hp hr => ?_) (fun n => ?_) N (by omega)
    · unfold F41.l4 F41.l4b
      rw [ltB_t (by omega), cond_true, inb_t (by omega) (by omega), cond_true, Int.toNat_natCast, W_i64 (by omega) (by omega), natCast_succ']
      simp only [within_eq, Option.bind_some, cond_not, cond_dec]
      by_cases hP : okInst c.1 i
      · rw [if_pos hP]; unfold okInst okInst4 at hP
        repeat' split
        all_goals first | rfl | exact hr | omega
      · rw [if_neg hP]; unfold okInst okInst4 at hP
        repeat' split
        all_goals first | rfl | exact hr | omega
    · unfold F41.l4 F41.l4b
      rw [ltB_f (by omega), cond_false]
      simp only [within_eq, Option.bind_some, cond_not, cond_dec, cond_leB, leB_eq]
      by_cases hP : okRest c
      · rw [decide_eq_true hP]; unfold okRest okRest6 at hP
        repeat' split
        all_goals first | rfl | omega | (rw [decide_eq_true (by omega)])
      · rw [decide_eq_false hP]; unfold okRest okRest6 at hP
        repeat' split
        all_goals first | rfl | omega | (rw [decide_eq_false (by omega)])
  · rw [decide_eq_false hl, Bool.false_and]
    by_cases h : (c.1.length : Int) < 1
    · rw [if_pos h]
    · rw [if_neg h, if_pos (by omega)]

/-! ### Members -/
def okMember4 (a b : Int) (i : Nat) (c : Int) : Prop := 1 ≤ a ∧ a ≤ 12 ∧ 1 ≤ b ∧ b ≤ 4 ∧ (0 < i → c < a)
instance (a b : Int) (i : Nat) (c : Int) : Decidable (okMember4 a b i c) := by unfold okMember4; infer_instance
def okMember (m : wtI2) (i : Nat) : Prop := okMember4 (m.getD i zz2).1 (m.getD i zz2).2.1 i (m.getD (i - 1) zz2).1
instance (m : wtI2) : DecidablePred (okMember m) := fun i => by unfold okMember; infer_instance
def okMembers (m : wtI2) : Bool := decide (∀ j, j < m.length → okMember m j) && true

theorem Members_eq (N : Nat) {m : wtI2} (hl : m.length ≤ 100000) (hN : 200000 ≤ N) : F184 N m = some (okMembers m) := by
  unfold F184 F184.b
  refine scan0 (F := fun n i => F184.l2 N n m m (m.length : Int) i) (okMember m) (fun n i r hi hp hr => ?_) (fun n => ?_) N (by omega)
  · unfold F184.l2 F184.l2b
    rw [ltB_t (by omega), cond_true, inb_t (by omega) (by omega), cond_true, Int.toNat_natCast, W_i64 (x := (i : Int) + 1) (by omega) (by omega), natCast_succ']
    by_cases h0 : 0 < i
    · have e : W .i64 ((i : Int) - 1) = ((i - 1 : Nat) : Int) := by rw [W_i64 (by omega) (by omega)]; omega
      dsimp only
      rw [ltB_t (x := 0) (by omega), cond_true, e, Int.toNat_natCast, inb_t (by omega) (by omega), cond_true]
      simp only [cond_ltB, cond_leB]
      by_cases hP : okMember m i
      · rw [if_pos hP]; unfold okMember okMember4 at hP
        repeat' split
        all_goals first | rfl | exact hr | omega
      · rw [if_neg hP]; unfold okMember okMember4 at hP
        repeat' split
        all_goals first | rfl | exact hr | omega
    · rw [ltB_f (x := 0) (by omega), cond_false]
      simp only [cond_ltB, cond_leB]
      by_cases hP : okMember m i
      · rw [if_pos hP]; unfold okMember okMember4 at hP
        repeat' split
        all_goals first | rfl | exact hr | omega
      · rw [if_neg hP]; unfold okMember okMember4 at hP
        repeat' split
        all_goals first | rfl | exact hr | omega
  · unfold F184.l2 F184.l2b
    rw [ltB_f (by omega), cond_false]

theorem rMembers_eq (N : Nat) {m : wtI2} (hl : m.length ≤ 100000) (hN : 200000 ≤ N) : F206 N m = some (okMembers m) := by
  unfold F206 F206.b
  refine scan0 (F := fun n i => F206.l2 N n m i) (okMember m) (fun n i r hi hp hr => ?_) (fun n => ?_) N (by omega)
  · unfold F206.l2 F206.l2b
    rw [ltB_t (by omega), cond_true, inb_t (by omega) (by omega), cond_true, Int.toNat_natCast, W_i64 (x := (i : Int) + 1) (by omega) (by omega), natCast_succ']
    by_cases h0 : 0 < i
    · have e : W .i64 ((i : Int) - 1) = ((i - 1 : Nat) : Int) := by rw [W_i64 (by omega) (by omega)]; omega
      dsimp only
      rw [ltB_t (x := 0) (by omega), e, Int.toNat_natCast, inb_t (i := ((i - 1 : Nat) : Int)) (by omega) (by omega)]
      simp only [cond_ltB, cond_leB, cond_true]
      by_cases hP : okMember m i
      · rw [if_pos hP]; unfold okMember okMember4 at hP
        repeat' split
        all_goals first | rfl | exact hr | omega
      · rw [if_neg hP]; unfold okMember okMember4 at hP
        repeat' split
        all_goals first | rfl | exact hr | omega
    · rw [ltB_f (x := 0) (by omega)]
      simp only [cond_ltB, cond_leB, cond_true, cond_false]
      by_cases hP : okMember m i
      · rw [if_pos hP]; unfold okMember okMember4 at hP
        repeat' split
        all_goals first | rfl | exact hr | omega
      · rw [if_neg hP]; unfold okMember okMember4 at hP
        repeat' split
        all_goals first | rfl | exact hr | omega
  · unfold F206.l2 F206.l2b
    rw [ltB_f (by omega), cond_false]
end VM
end

section
/- Plain laws: the ledger's rows, positions, orders. -/
set_option linter.unusedSimpArgs false
set_option linter.unusedVariables false
namespace VM
open Go VM.F

def okKey (k n : Int) : Prop := (1 ≤ k ∧ k ≤ 4 ∧ n = 0) ∨ (k = 5 ∧ 1 ≤ n ∧ n ≤ 24) ∨ (6 ≤ k ∧ k ≤ 7 ∧ 1 ≤ n ∧ n ≤ 12)
instance (k n : Int) : Decidable (okKey k n) := by unfold okKey; infer_instance
theorem Key_eq (N : Nat) (k n : Int) : F196 N k n = some (decide (okKey k n)) := by
  unfold F196
  simp only [cond_eqB, cond_leB]
  simp only [leB_eq, eqB_eq]
  by_cases hP : okKey k n
  · rw [decide_eq_true hP]; unfold okKey at hP
    repeat' split
    all_goals first | rfl | omega | (rw [decide_eq_true (by omega)])
  · rw [decide_eq_false hP]; unfold okKey at hP
    repeat' split
    all_goals first | rfl | omega | (rw [decide_eq_false (by omega)])
theorem rKey_eq (N : Nat) (k n : Int) : F195 N k n = some (decide (okKey k n)) := by
  have := Key_eq N k n
  unfold F196 at this
  unfold F195
  exact this

/-- One key ahead of another. -/
def keyLt (a b c d : Int) : Prop := a < c ∨ (a = c ∧ b < d)
instance (a b c d : Int) : Decidable (keyLt a b c d) := by unfold keyLt; infer_instance
def ordI (k n a b : Int) : Int := if k = a then n - b else k - a
def few (x : Int) : Prop := -1000000 ≤ x ∧ x ≤ 1000000
theorem order_eq (N : Nat) {k n : Int} {r : vtI3} (h1 : few k) (h2 : few n) (h3 : few r.1) (h4 : few r.2.1) : F197 N k n r = some (ordI k n r.1 r.2.1) := by
  unfold F197 ordI
  unfold few at *
  rw [cond_not, cond_eqB]
  split
  · rw [W_i64 (by omega) (by omega)]
  · rw [W_i64 (by omega) (by omega)]
theorem sorder_eq (N : Nat) {k n : Int} {r : vtI3} (h1 : few k) (h2 : few n) (h3 : few r.1) (h4 : few r.2.1) : F219 N k n r = some (ordI k n r.1 r.2.1) := order_eq N h1 h2 h3 h4

def okRow6 (a b c : Int) (i : Nat) (d e : Int) : Prop := okKey a b ∧ c ≠ 0 ∧ (0 < i → keyLt d e a b)
instance (a b c : Int) (i : Nat) (d e : Int) : Decidable (okRow6 a b c i d e) := by unfold okRow6; infer_instance
def okRow (l : wtI3) (i : Nat) : Prop := okRow6 (l.getD i zz3).1 (l.getD i zz3).2.1 (l.getD i zz3).2.2.1 i (l.getD (i - 1) zz3).1 (l.getD (i - 1) zz3).2.1
instance (l : wtI3) : DecidablePred (okRow l) := fun i => by unfold okRow; infer_instance
def okRows (l : wtI3) : Bool := decide (∀ j, j < l.length → okRow l j) && true

theorem Rows_eq (N : Nat) {l : wtI3} (hl : l.length ≤ 100000) (hN : 200000 ≤ N) : F111 N l = some (okRows l) := by
  unfold F111 F111.b
  refine scan0 (F := fun n i => F111.l2 N n l l (l.length : Int) i) (okRow l) (fun n i r hi hp hr => ?_) (fun n => ?_) N (by omega)
  · unfold F111.l2 F111.l2b
    rw [ltB_t (by omega), cond_true, inb_t (by omega) (by omega), cond_true, Int.toNat_natCast, W_i64 (x := (i : Int) + 1) (by omega) (by omega), natCast_succ', Key_eq, Option.bind_some, cond_not, cond_dec]
    by_cases hK : okKey (l.getD i zz3).1 (l.getD i zz3).2.1
    · rw [if_pos hK]
      by_cases h0 : 0 < i
      · have hq := hp (i - 1) (by omega)
        have e : W .i64 ((i : Int) - 1) = ((i - 1 : Nat) : Int) := by rw [W_i64 (by omega) (by omega)]; omega
        dsimp only
        rw [ltB_t (x := 0) (by omega), cond_true, e, Int.toNat_natCast, inb_t (by omega) (by omega), cond_true]
        unfold okRow okRow6 at hq
        have hq := hq.1
        rw [order_eq N (by unfold okKey at hK; unfold few; omega) (by unfold okKey at hK; unfold few; omega) (by unfold okKey at hq; unfold few; omega) (by unfold okKey at hq; unfold few; omega), Option.bind_some, cond_eqB, cond_leB]
        by_cases hP : okRow l i
        · rw [if_pos hP]; unfold okRow okRow6 keyLt at hP; unfold ordI
          have hP2 := hP.2
          repeat' split
          all_goals first | rfl | exact hr | omega
        · rw [if_neg hP]; unfold okRow okRow6 keyLt at hP; unfold ordI
          have hP2 := fun h => hP ⟨hK, h⟩
          repeat' split
          all_goals first | rfl | exact hr | omega | (exfalso; exact hP2 (by omega))
      · rw [ltB_f (x := 0) (by omega), cond_false, cond_eqB]
        by_cases hP : okRow l i
        · rw [if_pos hP]; unfold okRow okRow6 at hP
          rw [if_neg hP.2.1]; exact hr
        · rw [if_neg hP]; unfold okRow okRow6 at hP
          have hP2 := fun h => hP ⟨hK, h, fun h => absurd h h0⟩
          split
          · rfl
          · exact absurd (by assumption) hP2
    · rw [if_neg hK, if_neg (fun h => hK (by unfold okRow okRow6 at h; exact h.1))]
  · unfold F111.l2 F111.l2b
    rw [ltB_f (by omega), cond_false]

theorem rRows_eq (N : Nat) {l : wtI3} (hl : l.length ≤ 100000) (hN : 200000 ≤ N) : F109 N l = some (okRows l) := by
  unfold F109 F109.b
  refine scan0 (F := fun n i => F109.l2 N n l i) (okRow l) (fun n i r hi hp hr => ?_) (fun n => ?_) N (by omega)
  · unfold F109.l2 F109.l2b
    rw [ltB_t (by omega), cond_true, inb_t (by omega) (by omega), cond_true, Int.toNat_natCast, W_i64 (x := (i : Int) + 1) (by omega) (by omega), natCast_succ', rKey_eq, Option.bind_some, cond_not, cond_dec]
    by_cases hK : okKey (l.getD i zz3).1 (l.getD i zz3).2.1
    · rw [if_pos hK]
      by_cases h0 : 0 < i
      · have e : W .i64 ((i : Int) - 1) = ((i - 1 : Nat) : Int) := by rw [W_i64 (by omega) (by omega)]; omega
        dsimp only
        rw [ltB_t (x := 0) (by omega), e, Int.toNat_natCast, inb_t (i := ((i - 1 : Nat) : Int)) (by omega) (by omega)]
        simp only [cond_ltB, cond_leB, cond_eqB, cond_true]
        by_cases hP : okRow l i
        · rw [if_pos hP]; unfold okRow okRow6 keyLt at hP
          have hP2 := hP.2
          repeat' split
          all_goals first | rfl | exact hr | omega
        · rw [if_neg hP]; unfold okRow okRow6 keyLt at hP
          have hP2 := fun h => hP ⟨hK, h⟩
          repeat' split
          all_goals first | rfl | exact hr | omega | (exfalso; exact hP2 (by omega))
      · rw [ltB_f (x := 0) (by omega)]
        simp only [cond_ltB, cond_leB, cond_eqB, cond_true, cond_false]
        by_cases hP : okRow l i
        · rw [if_pos hP]; unfold okRow okRow6 at hP
          rw [if_neg hP.2.1]; exact hr
        · rw [if_neg hP]; unfold okRow okRow6 at hP
          have hP2 := fun h => hP ⟨hK, h, fun h => absurd h h0⟩
          split
          · rfl
          · exact absurd (by assumption) hP2
    · rw [if_neg hK, if_neg (fun h => hK (by unfold okRow okRow6 at h; exact h.1))]; rfl
  · unfold F109.l2 F109.l2b
    rw [ltB_f (by omega), cond_false]
end VM
end

section
/- Plain laws: positions, orders that rest. -/
set_option linter.unusedSimpArgs false
set_option linter.unusedVariables false
namespace VM
open Go VM.F

def okPlace (a b : Int) : Prop := 0 ≤ a ∧ a ≤ 24 ∧ 0 ≤ b ∧ b < 6
instance (a b : Int) : Decidable (okPlace a b) := by unfold okPlace; infer_instance
theorem skey_eq (N : Nat) (a b : Int) : F218 N a b = some (decide (okPlace a b)) := by
  unfold F218
  simp only [cond_leB]
  simp only [ltB_eq]
  by_cases hP : okPlace a b
  · rw [decide_eq_true hP]; unfold okPlace at hP
    repeat' split
    all_goals first | rfl | omega | (rw [decide_eq_true (by omega)])
  · rw [decide_eq_false hP]; unfold okPlace at hP
    repeat' split
    all_goals first | rfl | omega | (rw [decide_eq_false (by omega)])
def okQ (q : Int) : Prop := q ≠ -9223372036854775808
instance (q : Int) : Decidable (okQ q) := by unfold okQ; infer_instance
theorem Quantity_eq (N : Nat) (q : Int) : F166 N q = some (decide (okQ q)) := by
  unfold F166 okQ
  rw [eqB_eq]
  by_cases h : q = -9223372036854775808 <;> simp [h]

def okPos6 (a b c : Int) (i : Nat) (d e : Int) : Prop := okPlace a b ∧ c ≠ 0 ∧ okQ c ∧ (0 < i → keyLt d e a b)
instance (a b c : Int) (i : Nat) (d e : Int) : Decidable (okPos6 a b c i d e) := by unfold okPos6; infer_instance
def okPos (l : wtI3) (i : Nat) : Prop := okPos6 (l.getD i zz3).1 (l.getD i zz3).2.1 (l.getD i zz3).2.2.1 i (l.getD (i - 1) zz3).1 (l.getD (i - 1) zz3).2.1
instance (l : wtI3) : DecidablePred (okPos l) := fun i => by unfold okPos; infer_instance
def okStock (l : wtI3) : Bool := decide (∀ j, j < l.length → okPos l j) && true

theorem Stock_eq (N : Nat) {l : wtI3} (hl : l.length ≤ 100000) (hN : 200000 ≤ N) : F159 N l = some (okStock l) := by
  unfold F159 F159.b
  refine scan0 (F := fun n i => F159.l2 N n l l (l.length : Int) i) (okPos l) (fun n i r hi hp hr => ?_) (fun n => ?_) N (by omega)
  · unfold F159.l2 F159.l2b
    rw [ltB_t (by omega), cond_true, inb_t (by omega) (by omega), cond_true, Int.toNat_natCast, W_i64 (x := (i : Int) + 1) (by omega) (by omega), natCast_succ', skey_eq, Option.bind_some, cond_not, cond_dec, Quantity_eq, Option.bind_some, cond_not, cond_dec]
    by_cases hK : okPlace (l.getD i zz3).1 (l.getD i zz3).2.1
    · rw [if_pos hK]
      by_cases h0 : 0 < i
      · have hq := hp (i - 1) (by omega)
        have e : W .i64 ((i : Int) - 1) = ((i - 1 : Nat) : Int) := by rw [W_i64 (by omega) (by omega)]; omega
        dsimp only
        rw [ltB_t (x := 0) (by omega), cond_true, e, Int.toNat_natCast, inb_t (by omega) (by omega), cond_true]
        unfold okPos okPos6 at hq
        have hq := hq.1
        rw [sorder_eq N (by unfold okPlace at hK; unfold few; omega) (by unfold okPlace at hK; unfold few; omega) (by unfold okPlace at hq; unfold few; omega) (by unfold okPlace at hq; unfold few; omega), Option.bind_some, cond_eqB, cond_leB]
        by_cases hP : okPos l i
        · rw [if_pos hP]; unfold okPos okPos6 keyLt at hP; unfold ordI
          obtain ⟨_, hP1, hP2, hP3⟩ := hP
          rw [if_pos hP2]
          repeat' split
          all_goals first | rfl | exact hr | omega
        · rw [if_neg hP]; unfold okPos okPos6 keyLt at hP; unfold ordI
          have hP2 := fun h1 h2 h3 => hP ⟨hK, h1, h2, h3⟩
          repeat' split
          all_goals first | rfl | exact hr | (exfalso; exact hP2 (by assumption) (by assumption) (by omega)) | omega
      · rw [ltB_f (x := 0) (by omega), cond_false, cond_eqB]
        by_cases hP : okPos l i
        · rw [if_pos hP]; unfold okPos okPos6 at hP
          rw [if_neg hP.2.1, if_pos hP.2.2.1]; exact hr
        · rw [if_neg hP]; unfold okPos okPos6 at hP
          have hP2 := fun h1 h2 => hP ⟨hK, h1, h2, fun h => absurd h h0⟩
          split
          · rfl
          · split
            · exact (hP2 (by assumption) (by assumption)).elim
            · rfl
    · rw [if_neg hK, if_neg (fun h => hK (by unfold okPos okPos6 at h; exact h.1))]
  · unfold F159.l2 F159.l2b
    rw [ltB_f (by omega), cond_false]

theorem rStock_eq (N : Nat) {l : wtI3} (hl : l.length ≤ 100000) (hN : 200000 ≤ N) : F108 N l = some (okStock l) := by
  unfold F108 F108.b
  refine scan0 (F := fun n i => F108.l2 N n l i) (okPos l) (fun n i r hi hp hr => ?_) (fun n => ?_) N (by omega)
  · unfold F108.l2 F108.l2b
    rw [ltB_t (by omega), cond_true, inb_t (by omega) (by omega), cond_true, Int.toNat_natCast, W_i64 (x := (i : Int) + 1) (by omega) (by omega), natCast_succ']
    by_cases h0 : 0 < i
    · have e : W .i64 ((i : Int) - 1) = ((i - 1 : Nat) : Int) := by rw [W_i64 (by omega) (by omega)]; omega
      dsimp only
      rw [ltB_t (x := 0) (y := (i : Int)) (by omega), e, Int.toNat_natCast, inb_t (i := ((i - 1 : Nat) : Int)) (by omega) (by omega)]
      simp only [cond_ltB, cond_leB, cond_eqB, cond_true]
      by_cases hP : okPos l i
      · rw [if_pos hP]; unfold okPos okPos6 keyLt okQ okPlace at hP
        repeat' split
        all_goals first | rfl | exact hr | omega
      · rw [if_neg hP]; unfold okPos okPos6 keyLt okQ okPlace at hP
        repeat' split
        all_goals first | rfl | exact hr | omega | (exfalso; exact hP (by omega))
    · rw [ltB_f (x := 0) (y := (i : Int)) (by omega)]
      simp only [cond_ltB, cond_leB, cond_eqB, cond_true, cond_false]
      by_cases hP : okPos l i
      · rw [if_pos hP]; unfold okPos okPos6 keyLt okQ okPlace at hP
        repeat' split
        all_goals first | rfl | exact hr | omega
      · rw [if_neg hP]; unfold okPos okPos6 keyLt okQ okPlace at hP
        repeat' split
        all_goals first | rfl | exact hr | omega | (exfalso; exact hP (by omega))
  · unfold F108.l2 F108.l2b
    rw [ltB_f (by omega), cond_false]

/-! ### Orders -/
theorem leB_some (a b : Int) (y : Bool) : cond (leB a b) (some y) (some false) = some (decide (a ≤ b) && y) := by
  rw [cond_leB]; by_cases h : a ≤ b <;> simp [h]
theorem ltB_some (a b : Int) (y : Bool) : cond (ltB a b) (some y) (some false) = some (decide (a < b) && y) := by
  rw [cond_ltB]; by_cases h : a < b <;> simp [h]
theorem eqB_some (a b : Int) (y : Bool) : cond (eqB a b) (some y) (some false) = some (decide (a = b) && y) := by
  rw [cond_eqB]; by_cases h : a = b <;> simp [h]
theorem eqB_some2 (a b : Int) (y z : Bool) : cond (eqB a b) (some y) (some z) = some ((decide (a = b) && y) || (!decide (a = b) && z)) := by
  rw [cond_eqB]; by_cases h : a = b <;> simp [h]
def okOrd6 (a b c d e f : Int) : Prop := (1 ≤ a ∧ a ≤ 1099511627776) ∧ (1 ≤ b ∧ b ≤ 24) ∧ (0 ≤ c ∧ c < 6) ∧ (d = 1 ∨ d = 2) ∧ (1 ≤ e ∧ e ≤ 1000000000) ∧ (1 ≤ f ∧ f ≤ 1000000000000)
instance (a b c d e f : Int) : Decidable (okOrd6 a b c d e f) := by unfold okOrd6; infer_instance
def okOrd (o : vtI6) : Prop := okOrd6 o.1 o.2.1 o.2.2.1 o.2.2.2.1 o.2.2.2.2.1 o.2.2.2.2.2.1
instance (o : vtI6) : Decidable (okOrd o) := by unfold okOrd; infer_instance
theorem Ord_eq (N : Nat) (o : vtI6) : F143 N o = some (decide (okOrd o)) := by
  unfold F143
  rw [leB_eq o.2.2.2.2.2.1]
  rw [leB_some, leB_some, leB_some, eqB_some, eqB_some2, ltB_some, leB_some, leB_some, leB_some, leB_some, leB_some]
  congr 1
  rw [Bool.eq_iff_iff, decide_eq_true_iff]
  unfold okOrd okOrd6
  simp only [Bool.and_eq_true, Bool.or_eq_true, Bool.not_eq_true', decide_eq_true_eq, decide_eq_false_iff_not]
  omega
end VM
end

section
/- Plain laws: all orders that rest. -/
set_option linter.unusedSimpArgs false
set_option linter.unusedVariables false
namespace VM
open Go VM.F

theorem mprice_eq (N : Nat) (p : Int) : F100 N p = some (decide (1 ≤ p ∧ p ≤ 1000000000000)) := by
  unfold F100
  rw [leB_eq p, leB_some]; congr 1
  rw [Bool.eq_iff_iff]; simp only [Bool.and_eq_true, decide_eq_true_eq]
theorem rprice_eq (N : Nat) (p : Int) : F123 N p = some (decide (1 ≤ p ∧ p ≤ 1000000000000)) := mprice_eq N p

theorem rOrd_eq (N : Nat) (o : vtI6) : F149 N o = some (decide (okOrd o)) := by
  unfold F149
  rw [rprice_eq, Option.bind_some]
  repeat (first | rw [leB_some] | rw [ltB_some] | rw [eqB_some] | rw [eqB_some2])
  congr 1
  rw [Bool.eq_iff_iff, decide_eq_true_iff]
  unfold okOrd okOrd6
  simp only [Bool.and_eq_true, Bool.or_eq_true, Bool.not_eq_true', decide_eq_true_eq, decide_eq_false_iff_not]
  omega

def lt2 (i : Nat) (a b : Int) : Prop := 0 < i → a < b
instance (i : Nat) (a b : Int) : Decidable (lt2 i a b) := by unfold lt2; infer_instance
def okOrdAt (l : wtI6) (i : Nat) : Prop := okOrd (l.getD i zz6) ∧ lt2 i (l.getD (i - 1) zz6).1 (l.getD i zz6).1
instance (l : wtI6) : DecidablePred (okOrdAt l) := fun i => by unfold okOrdAt; infer_instance
def okOrders (l : wtI6) : Bool := decide (∀ j, j < l.length → okOrdAt l j) && decide (l.length ≤ 32)

theorem Orders_eq (N : Nat) {l : wtI6} (hl : l.length ≤ 100000) (hN : 200000 ≤ N) : F114 N l = some (okOrders l) := by
  unfold F114 F114.b
  refine scan0 (F := fun n i => F114.l2 N n l l (l.length : Int) i) (okOrdAt l) (fun n i r hi hp hr => ?_) (fun n => ?_) N (by omega)
  · unfold F114.l2 F114.l2b
    rw [ltB_t (by omega), cond_true, inb_t (by omega) (by omega), cond_true, Int.toNat_natCast, W_i64 (x := (i : Int) + 1) (by omega) (by omega), natCast_succ', Ord_eq, Option.bind_some, cond_not, cond_dec]
    by_cases hK : okOrd (l.getD i zz6)
    · rw [if_pos hK]
      by_cases h0 : 0 < i
      · have e : W .i64 ((i : Int) - 1) = ((i - 1 : Nat) : Int) := by rw [W_i64 (by omega) (by omega)]; omega
        dsimp only
        rw [ltB_t (x := 0) (by omega), cond_true, e, Int.toNat_natCast, inb_t (by omega) (by omega), cond_true, cond_leB]
        by_cases hP : okOrdAt l i
        · rw [if_pos hP, if_neg (by have h2 := hP.2; unfold lt2 at h2; omega)]; exact hr
        · rw [if_neg hP, if_pos]
          have h2 : ¬ lt2 i (l.getD (i - 1) zz6).1 (l.getD i zz6).1 := fun h => hP ⟨hK, h⟩
          unfold lt2 at h2
          omega
      · rw [ltB_f (x := 0) (by omega), cond_false, if_pos ⟨hK, fun h => absurd h h0⟩]; exact hr
    · rw [if_neg hK, if_neg (fun h => hK h.1)]
  · unfold F114.l2 F114.l2b
    rw [ltB_f (by omega), cond_false, leB_eq]
    congr 1; rw [decide_eq_decide]; omega

theorem rOrders_eq (N : Nat) {l : wtI6} (hl : l.length ≤ 100000) (hN : 200000 ≤ N) : F134 N l = some (okOrders l) := by
  unfold F134 F134.b
  by_cases h32 : 32 < l.length
  · rw [ltB_t (by omega), cond_true]; unfold okOrders
    rw [decide_eq_false (p := l.length ≤ 32) (by omega), Bool.and_false]
  rw [ltB_f (by omega), cond_false]
  have := scan0 (F := fun n i => F134.l4 N n l i) (e := true) (okOrdAt l) (fun n i r hi hp hr => ?_) (fun n => ?_) N (show l.length < N by omega)
  · refine Eq.trans this ?_
    unfold okOrders
    rw [decide_eq_true (p := l.length ≤ 32) (by omega)]
  · unfold F134.l4 F134.l4b
    rw [ltB_t (by omega), cond_true, inb_t (by omega) (by omega), cond_true, Int.toNat_natCast, W_i64 (x := (i : Int) + 1) (by omega) (by omega), natCast_succ', rOrd_eq, Option.bind_some, cond_not, cond_dec]
    by_cases hK : okOrd (l.getD i zz6)
    · rw [if_pos hK]
      by_cases h0 : 0 < i
      · have e : W .i64 ((i : Int) - 1) = ((i - 1 : Nat) : Int) := by rw [W_i64 (by omega) (by omega)]; omega
        dsimp only
        rw [ltB_t (x := 0) (by omega), cond_true, cond_true, e, Int.toNat_natCast, inb_t (by omega) (by omega), cond_true, cond_leB]
        by_cases hP : okOrdAt l i
        · rw [if_pos hP, if_neg (by have h2 := hP.2; unfold lt2 at h2; omega)]; exact hr
        · rw [if_neg hP, if_pos]
          have h2 : ¬ lt2 i (l.getD (i - 1) zz6).1 (l.getD i zz6).1 := fun h => hP ⟨hK, h⟩
          unfold lt2 at h2
          omega
      · rw [ltB_f (x := 0) (by omega), cond_false, if_pos ⟨hK, fun h => absurd h h0⟩]; exact hr
    · rw [if_neg hK, if_neg (fun h => hK h.1)]
  · unfold F134.l4 F134.l4b
    rw [ltB_f (by omega), cond_false]
end VM
end

section
/- Plain laws: who is there. -/
set_option linter.unusedSimpArgs false
set_option linter.unusedVariables false
namespace VM
open Go VM.F

/-- The status of the first one of an Id; 0, if there is none. -/
def statusL (id : Int) : wtI2 → Int
  | [] => 0
  | x :: t => if x.1 = id then x.2.1 else statusL id t
def findL (id : Int) : wtI4 → vtI4 × Bool
  | [] => (zz4, false)
  | x :: t => if x.1 = id then (x, true) else findL id t
theorem statusL_cons (id : Int) (x : vtI2) (t : wtI2) : statusL id (x :: t) = if x.1 = id then x.2.1 else statusL id t := rfl
theorem findL_cons (id : Int) (x : vtI4) (t : wtI4) : findL id (x :: t) = if x.1 = id then (x, true) else findL id t := rfl
theorem status_loop (N : Nat) {m : wtI2} (hl : m.length ≤ 100000) (hN : 200000 ≤ N) (id : Int) : F104.l4 N N id m (m.length : Int) 0 = some (statusL id m) := by
  refine lrec0 m zz2 (fun n i => F104.l4 N n id m (m.length : Int) i) (fun l => some (statusL id l)) (fun n i hi hr => ?_) (fun n => ?_) N (by omega)
  · unfold F104.l4 F104.l4b
    rw [ltB_t (by omega), cond_true, inb_t (by omega) (by omega), cond_true, Int.toNat_natCast, W_i64 (x := (i : Int) + 1) (by omega) (by omega), natCast_succ', hr, cond_eqB]
    rw [statusL_cons]
    split <;> rfl
  · unfold F104.l4 F104.l4b
    rw [ltB_f (by omega), cond_false]; rfl
theorem rstatus_eq (N : Nat) {m : wtI2} (hl : m.length ≤ 100000) (hN : 200000 ≤ N) (id : Int) : F207 N m id = some (statusL id m) := by
  unfold F207 F207.b
  refine lrec0 m zz2 (fun n i => F207.l2 N n m id i) (fun l => some (statusL id l)) (fun n i hi hr => ?_) (fun n => ?_) N (by omega)
  · unfold F207.l2 F207.l2b
    rw [ltB_t (by omega), cond_true, inb_t (by omega) (by omega), cond_true, cond_true, Int.toNat_natCast, W_i64 (x := (i : Int) + 1) (by omega) (by omega), natCast_succ', hr, cond_eqB]
    rw [statusL_cons]
    split <;> rfl
  · unfold F207.l2 F207.l2b
    rw [ltB_f (by omega), cond_false]; rfl
def statusOf (m : wtI2) (id : Int) : Int := if okMembers m then statusL id m else 0
theorem Status_eq (N : Nat) {m : wtI2} (hl : m.length ≤ 100000) (hN : 200000 ≤ N) (id : Int) : F104 N m id = some (statusOf m id) := by
  unfold F104 F104.b statusOf
  rw [Members_eq N hl hN, Option.bind_some, cond_not, status_loop N hl hN]
  cases okMembers m <;> rfl
theorem rStatus_eq (N : Nat) {m : wtI2} (hl : m.length ≤ 100000) (hN : 200000 ≤ N) (id : Int) : F127 N m id = some (statusOf m id) := by
  unfold F127 statusOf
  rw [rMembers_eq N hl hN, Option.bind_some, cond_not, rstatus_eq N hl hN]
  cases okMembers m <;> rfl

theorem find_loop (N : Nat) {m : wtI4} (hl : m.length ≤ 100000) (hN : 200000 ≤ N) (id : Int) : F139.l4 N N id zz4 m (m.length : Int) 0 = some (findL id m) := by
  refine lrec0 m zz4 (fun n i => F139.l4 N n id zz4 m (m.length : Int) i) (fun l => some (findL id l)) (fun n i hi hr => ?_) (fun n => ?_) N (by omega)
  · unfold F139.l4 F139.l4b
    rw [ltB_t (by omega), cond_true, inb_t (by omega) (by omega), cond_true, Int.toNat_natCast, W_i64 (x := (i : Int) + 1) (by omega) (by omega), natCast_succ', hr, cond_eqB]
    rw [findL_cons]
    split <;> rfl
  · unfold F139.l4 F139.l4b
    rw [ltB_f (by omega), cond_false]; rfl
theorem rfind_eq (N : Nat) {m : wtI4} (hl : m.length ≤ 100000) (hN : 200000 ≤ N) (id : Int) : F204 N m id = some (findL id m) := by
  unfold F204 F204.b
  refine lrec0 m zz4 (fun n i => F204.l2 N n m id zz4 i) (fun l => some (findL id l)) (fun n i hi hr => ?_) (fun n => ?_) N (by omega)
  · unfold F204.l2 F204.l2b
    rw [ltB_t (by omega), cond_true, inb_t (by omega) (by omega), cond_true, cond_true, Int.toNat_natCast, W_i64 (x := (i : Int) + 1) (by omega) (by omega), natCast_succ', hr, cond_eqB]
    rw [findL_cons]
    split <;> rfl
  · unfold F204.l2 F204.l2b
    rw [ltB_f (by omega), cond_false]; rfl

end VM
end

section
/- Plain laws: accounts. -/
set_option linter.unusedSimpArgs false
set_option linter.unusedVariables false
namespace VM
open Go VM.F

def eqI (a b : Int) : Prop := a = b
instance (a b : Int) : Decidable (eqI a b) := by unfold eqI; infer_instance
/-- A member's own account, at that place. -/
def ownAt (l : wtI4) (k : Nat) (m : Int) : Prop := eqI (l.getD k zz4).2.2.1 1 ∧ eqI (l.getD k zz4).2.1 m
instance (l : wtI4) (k : Nat) (m : Int) : Decidable (ownAt l k m) := by unfold ownAt; infer_instance
def ownSome (l : wtI4) (i : Nat) (m : Int) : Bool := (List.range i).any fun k => decide (ownAt l k m)
theorem ownSome_iff {l : wtI4} {i : Nat} {m : Int} : ownSome l i m = true ↔ ∃ k, k < i ∧ ownAt l k m := by
  unfold ownSome
  rw [List.any_eq_true]
  simp only [List.mem_range, decide_eq_true_iff]
theorem ownSome_succ (l : wtI4) (i : Nat) (m : Int) : ownSome l (i + 1) m = (ownSome l i m || decide (ownAt l i m)) := by
  unfold ownSome
  rw [List.range_succ, List.any_append]; simp
def okAcc5 (a b c d : Int) : Prop := (1 ≤ a ∧ a ≤ 24) ∧ (1 ≤ b ∧ b ≤ 12) ∧ (c = 1 ∨ c = 2) ∧ (0 ≤ d ∧ d ≤ 1000000000000)
instance (a b c d : Int) : Decidable (okAcc5 a b c d) := by unfold okAcc5; infer_instance
def noTwin (l : wtI4) (i : Nat) : Prop := ¬ (eqI (l.getD i zz4).2.2.1 1 ∧ ownSome l i (l.getD i zz4).2.1 = true)
instance (l : wtI4) (i : Nat) : Decidable (noTwin l i) := by unfold noTwin; infer_instance
def okAcc (l : wtI4) (i : Nat) : Prop := okAcc5 (l.getD i zz4).1 (l.getD i zz4).2.1 (l.getD i zz4).2.2.1 (l.getD i zz4).2.2.2.1 ∧ lt2 i (l.getD (i - 1) zz4).1 (l.getD i zz4).1 ∧ noTwin l i
instance (l : wtI4) : DecidablePred (okAcc l) := fun i => by unfold okAcc; infer_instance
def okAccs (l : wtI4) : Bool := decide (∀ j, j < l.length → okAcc l j) && true

def housesAt (l : wtI4) (i : Nat) : List Bool := (List.range 13).map fun (m : Nat) => ownSome l i (m : Int)
theorem houses_at {l : wtI4} {i : Nat} {b : Int} (h0 : 0 ≤ b) (h1 : b < 13) : (housesAt l i).getD b.toNat false = ownSome l i b := by
  unfold housesAt
  rw [List.getD_eq_getElem?_getD, List.getElem?_map, List.getElem?_range (by omega)]
  show ownSome l i ((b.toNat : Nat) : Int) = _
  rw [Int.toNat_of_nonneg h0]
theorem houses_skip {l : wtI4} {i : Nat} (h : ¬ eqI (l.getD i zz4).2.2.1 1) : housesAt l (i + 1) = housesAt l i := by
  unfold housesAt
  refine List.map_congr_left fun m _ => ?_
  rw [ownSome_succ, decide_eq_false (fun h' => h h'.1), Bool.or_false]
theorem houses_set {l : wtI4} {i : Nat} (h : eqI (l.getD i zz4).2.2.1 1) (h0 : (0 : Int) ≤ (l.getD i zz4).2.1) : (housesAt l i).set ((l.getD i zz4).2.1 : Int).toNat true = housesAt l (i + 1) := by
  refine List.ext_getElem (by unfold housesAt; simp) fun k h1 h2 => ?_
  unfold housesAt at *
  rw [List.getElem_set]
  simp only [List.getElem_map, List.getElem_range]
  rw [ownSome_succ]
  by_cases hk : ((l.getD i zz4).2.1 : Int).toNat = k
  · rw [if_pos hk, decide_eq_true (show ownAt l i (k : Int) from ⟨h, by unfold eqI; omega⟩), Bool.or_true]
  · rw [if_neg hk, decide_eq_false (fun h' : ownAt l i (k : Int) => hk (by have := h'.2; unfold eqI at this; omega)), Bool.or_false]

theorem Accs_eq (N : Nat) {l : wtI4} (hl : l.length ≤ 100000) (hN : 200000 ≤ N) : F194 N l = some (okAccs l) := by
  unfold F194 F194.b
  have h0 : (List.replicate 13 false : List Bool) = housesAt l 0 := by unfold housesAt ownSome; rfl
  rw [h0]
  have := scan0 (F := fun n i => F194.l3 N n l (housesAt l i.toNat) l (l.length : Int) i) (e := true) (okAcc l) (fun n i r hi hp hr => ?_) (fun n => ?_) N (show l.length < N by omega)
  · exact this
  · simp only [Int.toNat_natCast] at hr ⊢
    unfold F194.l3 F194.l3b
    rw [ltB_t (by omega), cond_true, inb_t (by omega) (by omega), cond_true]
    simp only [Int.toNat_natCast]
    rw [W_i64 (x := (i : Int) + 1) (by omega) (by omega), natCast_succ']
    by_cases hF : okAcc5 (l.getD i zz4).1 (l.getD i zz4).2.1 (l.getD i zz4).2.2.1 (l.getD i zz4).2.2.2.1
    · have hF' := hF
      unfold okAcc5 at hF'
      have hT : cond (eqB (l.getD i zz4).2.2.1 1) (cond (inb (l.getD i zz4).2.1 13) (cond (List.getD (housesAt l i) (l.getD i zz4).2.1.toNat false) (some false) (cond (inb (l.getD i zz4).2.1 13) (F194.l3 N n l (List.set (housesAt l i) (l.getD i zz4).2.1.toNat true) l (l.length : Int) ((i + 1 : Nat) : Int)) none)) none) (F194.l3 N n l (housesAt l i) l (l.length : Int) ((i + 1 : Nat) : Int)) = if noTwin l i then r else some false := by
        rw [cond_eqB]
        by_cases hk : eqI (l.getD i zz4).2.2.1 1
        · have hk' := hk
          unfold eqI at hk'
          rw [if_pos hk', inb_t (by omega) (by omega), cond_true, cond_true, houses_at (by omega) (by omega), houses_set hk (by omega), hr]
          by_cases ho : ownSome l i (l.getD i zz4).2.1 = true
          · have hno : ¬ noTwin l i := fun h => h ⟨hk, ho⟩
            rw [if_neg hno, ho]; rfl
          · have hno : noTwin l i := fun h => ho h.2
            rw [if_pos hno, Bool.eq_false_iff.2 ho]; rfl
        · have hk' := hk
          unfold eqI at hk'
          rw [if_neg hk', if_pos (show noTwin l i from fun h => hk h.1), ← houses_skip hk, hr]
      have hP : okAcc l i ↔ lt2 i (l.getD (i - 1) zz4).1 (l.getD i zz4).1 ∧ noTwin l i := ⟨fun h => h.2, fun h => ⟨hF, h⟩⟩
      have hD : (if okAcc l i then r else some false) = if lt2 i (l.getD (i - 1) zz4).1 (l.getD i zz4).1 then (if noTwin l i then r else some false) else some false := by
        by_cases h1 : lt2 i (l.getD (i - 1) zz4).1 (l.getD i zz4).1 <;> by_cases h2 : noTwin l i <;> simp [hP, h1, h2]
      rw [hD]
      rw [hT]
      rw [ltB_f (by omega), cond_false, ltB_f (by omega), cond_false, ltB_f (by omega), cond_false, ltB_f (by omega), cond_false, ltB_f (x := (l.getD i zz4).2.2.2.1) (by omega), ltB_f (x := 1000000000000) (by omega)]
      simp only [cond_false]
      have hm : ∀ {α : Type} (x : α) (y : α), cond (!eqB (l.getD i zz4).2.2.1 1) (cond (!eqB (l.getD i zz4).2.2.1 2) y x) x = x := by
        intro α x y
        rcases hF'.2.2.1 with h | h
        · rw [eqB_t h]; rfl
        · rw [eqB_t (y := 2) h]; cases eqB (l.getD i zz4).2.2.1 1 <;> rfl
      rw [hm]
      by_cases h0 : 0 < i
      · have e : W .i64 ((i : Int) - 1) = ((i - 1 : Nat) : Int) := by rw [W_i64 (by omega) (by omega)]; omega
        rw [ltB_t (x := 0) (by omega), cond_true, e, Int.toNat_natCast, inb_t (by omega) (by omega), cond_true, cond_leB]
        by_cases h1 : lt2 i (l.getD (i - 1) zz4).1 (l.getD i zz4).1
        · rw [if_pos h1, if_neg (by unfold lt2 at h1; omega)]
        · rw [if_neg h1, if_pos (by unfold lt2 at h1; omega)]
      · rw [ltB_f (x := 0) (by omega), cond_false, if_pos (show lt2 i (l.getD (i - 1) zz4).1 (l.getD i zz4).1 from fun h => absurd h h0)]
    · rw [if_neg (fun h => hF h.1)]
      unfold okAcc5 at hF
      generalize cond (eqB (l.getD i zz4).2.2.1 1) (cond (inb (l.getD i zz4).2.1 13) (cond (List.getD (housesAt l i) (l.getD i zz4).2.1.toNat false) (some false) (cond (inb (l.getD i zz4).2.1 13) (F194.l3 N n l (List.set (housesAt l i) (l.getD i zz4).2.1.toNat true) l (l.length : Int) ((i + 1 : Nat) : Int)) none)) none) (F194.l3 N n l (housesAt l i) l (l.length : Int) ((i + 1 : Nat) : Int)) = t
      generalize cond (ltB 0 (i : Int)) _ _ = u
      simp only [cond_not, cond_ltB, cond_eqB]
      repeat' split
      all_goals first | rfl | omega
  · unfold F194.l3 F194.l3b
    rw [ltB_f (by omega), cond_false]
end VM
end

section
/- Plain laws: accounts, as the document has them. -/
set_option linter.unusedSimpArgs false
set_option linter.unusedVariables false
namespace VM
open Go VM.F

theorem twin_loop (N : Nat) (K : wtI4 → Int → Option Bool) {l : wtI4} (hl : l.length ≤ 100000) {i : Nat} (hi : i < l.length) : ∀ (m n k : Nat), i - k ≤ m → m < n → k ≤ i → (eqI (l.getD i zz4).2.2.1 1 → ownSome l k (l.getD i zz4).2.1 = false) →
    F203.l8 N K n l (i : Int) (l.getD i zz4) (k : Int) = if noTwin l i then K l ((i + 1 : Nat) : Int) else some false
  | m, 0, k, _, hn, _, _ => by omega
  | m, n + 1, k, hm, hn, hk, h => by
    unfold F203.l8 F203.l8b
    by_cases hki : k < i
    · rw [ltB_t (by omega), cond_true, inb_t (by omega) (by omega), cond_true, cond_true, Int.toNat_natCast, W_i64 (x := (k : Int) + 1) (by omega) (by omega), natCast_succ', cond_eqB, cond_eqB, cond_eqB]
      by_cases h1 : eqI (l.getD i zz4).2.2.1 1
      · have h1' := h1
        unfold eqI at h1'
        rw [if_pos h1']
        by_cases h2 : ownAt l k (l.getD i zz4).2.1
        · have h2' := h2
          unfold ownAt eqI at h2'
          have hno : ¬ noTwin l i := fun h3 => h3 ⟨h1, ownSome_iff.2 ⟨k, hki, h2⟩⟩
          rw [if_pos h2'.1, if_pos h2'.2, if_neg hno]
        · have hrec := twin_loop N K hl hi (m - 1) n (k + 1) (by omega) (by omega) (by omega) (fun _ => by rw [ownSome_succ, h h1, decide_eq_false h2]; rfl)
          split
          · split
            · rename_i h3 h4
              exact absurd (show ownAt l k (l.getD i zz4).2.1 from ⟨h3, h4⟩) h2
            · exact hrec
          · exact hrec
      · have h1' := h1
        unfold eqI at h1'
        rw [if_neg h1']
        exact twin_loop N K hl hi (m - 1) n (k + 1) (by omega) (by omega) (by omega) (fun h => absurd h h1)
    · have : k = i := by omega
      subst this
      have hno : noTwin l k := fun h3 => by rw [h h3.1] at h3; exact nomatch h3.2
      rw [ltB_f (by omega), cond_false, if_pos hno, W_i64 (x := (k : Int) + 1) (by omega) (by omega)]; rfl

set_option maxHeartbeats 2000000 in
theorem rAccs_eq (N : Nat) {l : wtI4} (hl : l.length ≤ 100000) (hN : 200000 ≤ N) : F203 N l = some (okAccs l) := by
  unfold F203 F203.b
  refine scan0 (F := fun n i => F203.l2 N n l i) (okAcc l) (fun n i r hi hp hr => ?_) (fun n => ?_) N (by omega)
  · unfold F203.l2 F203.l2b
    have hT : F203.j7 N (F203.l2 N n) l (i : Int) (l.getD i zz4) = if noTwin l i then r else some false := by
      unfold F203.j7 F203.j7b
      have := twin_loop N (F203.l2 N n) hl hi i N 0 (by omega) (by omega) (by omega) (fun _ => rfl)
      rw [hr] at this
      exact this
    rw [ltB_t (by omega), cond_true, inb_t (by omega) (by omega), cond_true]
    simp only [Int.toNat_natCast]
    rw [hT]
    have hD : (if okAcc l i then r else some false) = if okAcc5 (l.getD i zz4).1 (l.getD i zz4).2.1 (l.getD i zz4).2.2.1 (l.getD i zz4).2.2.2.1 ∧ lt2 i (l.getD (i - 1) zz4).1 (l.getD i zz4).1 then (if noTwin l i then r else some false) else some false := by
      unfold okAcc
      by_cases h1 : lt2 i (l.getD (i - 1) zz4).1 (l.getD i zz4).1 <;> by_cases h2 : noTwin l i <;> by_cases h3 : okAcc5 (l.getD i zz4).1 (l.getD i zz4).2.1 (l.getD i zz4).2.2.1 (l.getD i zz4).2.2.2.1 <;> simp [h1, h2, h3]
    rw [hD]
    generalize (if noTwin l i then r else some false) = t
    by_cases h0 : 0 < i
    · have e : W .i64 ((i : Int) - 1) = ((i - 1 : Nat) : Int) := by rw [W_i64 (by omega) (by omega)]; omega
      rw [ltB_t (x := 0) (y := (i : Int)) (by omega), e]
      simp only [cond_true, Int.toNat_natCast]
      rw [inb_t (i := ((i - 1 : Nat) : Int)) (by omega) (by omega)]
      simp only [cond_not, cond_ltB, cond_leB, cond_eqB, cond_true]
      by_cases hP : okAcc5 (l.getD i zz4).1 (l.getD i zz4).2.1 (l.getD i zz4).2.2.1 (l.getD i zz4).2.2.2.1 ∧ lt2 i (l.getD (i - 1) zz4).1 (l.getD i zz4).1
      · rw [if_pos hP]; unfold okAcc5 lt2 at hP
        repeat' split
        all_goals first | rfl | omega
      · rw [if_neg hP]; unfold okAcc5 lt2 at hP
        repeat' split
        all_goals first | rfl | omega
    · rw [ltB_f (x := 0) (y := (i : Int)) (by omega)]
      simp only [cond_not, cond_ltB, cond_leB, cond_eqB, cond_true, cond_false]
      by_cases hP : okAcc5 (l.getD i zz4).1 (l.getD i zz4).2.1 (l.getD i zz4).2.2.1 (l.getD i zz4).2.2.2.1 ∧ lt2 i (l.getD (i - 1) zz4).1 (l.getD i zz4).1
      · rw [if_pos hP]; unfold okAcc5 lt2 at hP
        repeat' split
        all_goals first | rfl | omega
      · rw [if_neg hP]; unfold okAcc5 lt2 at hP
        repeat' split
        all_goals first | rfl | omega
  · unfold F203.l2 F203.l2b
    rw [ltB_f (by omega), cond_false]
end VM
end

section
/- Plain laws: members and accounts together. -/
set_option linter.unusedSimpArgs false
set_option linter.unusedVariables false
namespace VM
open Go VM.F

def findOf (a : wtI4) (id : Int) : vtI4 × Bool := if okAccs a then findL id a else (zz4, false)
theorem Find_eq (N : Nat) {a : wtI4} (hl : a.length ≤ 100000) (hN : 200000 ≤ N) (id : Int) : F139 N a id = some (findOf a id) := by
  unfold F139 F139.b findOf
  rw [Accs_eq N hl hN, Option.bind_some, cond_not, find_loop N hl hN]
  cases okAccs a <;> rfl
theorem rFind_eq (N : Nat) {a : wtI4} (hl : a.length ≤ 100000) (hN : 200000 ≤ N) (id : Int) : F125 N a id = some (findOf a id) := by
  unfold F125 findOf
  rw [rAccs_eq N hl hN, Option.bind_some, cond_not, rfind_eq N hl hN]
  cases okAccs a <;> rfl
def hasMember (m : wtI2) (a : wtI4) (i : Nat) : Prop := ¬ eqI (statusL (a.getD i zz4).2.1 m) 0
instance (m : wtI2) (a : wtI4) : DecidablePred (hasMember m a) := fun i => by unfold hasMember; infer_instance
def okRoll (m : wtI2) (a : wtI4) : Bool := okMembers m && (okAccs a && (decide (∀ j, j < a.length → hasMember m a j) && true))

theorem Roll_eq (N : Nat) {m : wtI2} {a : wtI4} (hm : m.length ≤ 100000) (hl : a.length ≤ 100000) (hN : 200000 ≤ N) : F110 N m a = some (okRoll m a) := by
  unfold F110 F110.b okRoll
  rw [Members_eq N hm hN, Option.bind_some, cond_not, Accs_eq N hl hN, Option.bind_some, cond_not]
  cases hM : okMembers m
  · rfl
  cases okAccs a
  · rfl
  rw [Bool.true_and, Bool.true_and, cond_true, cond_true]
  refine scan0 (F := fun n i => F110.l4 N n m a (a.length : Int) i) (hasMember m a) (fun n i r hi hp hr => ?_) (fun n => ?_) N (by omega)
  · unfold F110.l4 F110.l4b
    rw [ltB_t (by omega), cond_true, inb_t (by omega) (by omega), cond_true, Int.toNat_natCast, W_i64 (x := (i : Int) + 1) (by omega) (by omega), natCast_succ', Status_eq N hm hN, Option.bind_some, cond_eqB]
    unfold statusOf
    rw [hM, if_pos rfl]
    by_cases hP : hasMember m a i
    · rw [if_pos hP, if_neg (show ¬ ((statusL (a.getD i zz4).2.1 m : Int) = 0) from fun h => hP h)]; exact hr
    · rw [if_neg hP, if_pos (show (statusL (a.getD i zz4).2.1 m : Int) = 0 by unfold hasMember at hP; exact Decidable.not_not.1 hP)]
  · unfold F110.l4 F110.l4b
    rw [ltB_f (by omega), cond_false]

theorem rRoll_eq (N : Nat) {m : wtI2} {a : wtI4} (hm : m.length ≤ 100000) (hl : a.length ≤ 100000) (hN : 200000 ≤ N) : F132 N m a = some (okRoll m a) := by
  unfold F132 F132.b okRoll
  rw [rMembers_eq N hm hN, Option.bind_some, cond_not, rAccs_eq N hl hN, Option.bind_some, cond_not]
  cases hM : okMembers m
  · rfl
  cases okAccs a
  · rfl
  rw [Bool.true_and, Bool.true_and, cond_true, cond_true]
  refine scan0 (F := fun n i => F132.l4 N n m a i) (hasMember m a) (fun n i r hi hp hr => ?_) (fun n => ?_) N (by omega)
  · unfold F132.l4 F132.l4b
    rw [ltB_t (by omega), cond_true, inb_t (by omega) (by omega), cond_true, Int.toNat_natCast, W_i64 (x := (i : Int) + 1) (by omega) (by omega), natCast_succ', rstatus_eq N hm hN, Option.bind_some, cond_eqB]
    by_cases hP : hasMember m a i
    · rw [if_pos hP, if_neg (show ¬ ((statusL (a.getD i zz4).2.1 m : Int) = 0) from fun h => hP h)]; exact hr
    · rw [if_neg hP, if_pos (show (statusL (a.getD i zz4).2.1 m : Int) = 0 by unfold hasMember at hP; exact Decidable.not_not.1 hP)]
  · unfold F132.l4 F132.l4b
    rw [ltB_f (by omega), cond_false]
end VM
end

section
/- Plain laws: Wides held against one another; sums of rows and positions. -/
set_option linter.unusedSimpArgs false
set_option linter.unusedVariables false
namespace VM
open Go VM.F

theorem teq_wide (a b : vtWide) : teq (.pair (.int .i64) (.pair (.int .u64) .unit)) a b = (eqB a.1 b.1 && (eqB a.2.1 b.2.1 && true)) := rfl
theorem wCmp_eq (N : Nat) {u v : Int} : F82 N (wideN u) (wideN v) = some (sgn (u - v)) := by
  unfold F82
  rw [teq_wide]
  unfold wideN
  dsimp only
  unfold sgn
  rw [cond_ltB, cond_eqB, cond_ltB, Bool.and_true, eqB_eq, eqB_eq]
  have hu : u = u / 18446744073709551616 * 18446744073709551616 + u % 18446744073709551616 := by omega
  have hv : v = v / 18446744073709551616 * 18446744073709551616 + v % 18446744073709551616 := by omega
  by_cases h1 : u / 18446744073709551616 < v / 18446744073709551616
  · rw [if_pos h1]; congr 1; split <;> (try split) <;> omega
  · rw [if_neg h1]
    by_cases h2 : u / 18446744073709551616 = v / 18446744073709551616
    · rw [if_pos h2, decide_eq_true h2, Bool.true_and]
      by_cases h3 : u % 18446744073709551616 < v % 18446744073709551616
      · rw [if_pos h3]; congr 1; split <;> (try split) <;> omega
      · rw [if_neg h3]
        by_cases h4 : u % 18446744073709551616 = v % 18446744073709551616
        · rw [decide_eq_true h4, cond_true]; congr 1; split <;> (try split) <;> omega
        · rw [decide_eq_false h4, cond_false]; congr 1; split <;> (try split) <;> omega
    · rw [if_neg h2, decide_eq_false h2, Bool.false_and, cond_false]; congr 1; split <;> (try split) <;> omega
theorem wideN_zero : wideN 0 = zz2 := rfl
theorem wSign_eq (N : Nat) {u : Int} : F81 N (wideN u) = some (sgn u) := by
  unfold F81
  rw [← wideN_zero, wCmp_eq, Option.bind_some, Int.sub_zero]
end VM
end

