/- A part of the proof of TearAll, of layer 29: what the functions compute, in plain words. -/
import Derived.Test.YtnkhdmeoclffaaaGreatPlain3
import Derived.Test.YtnkhdmeoclffaaaGreatPlain1
set_option linter.all false
section
/- Plain laws: shares by weights. -/
set_option linter.unusedSimpArgs false
set_option linter.unusedVariables false
namespace VM
open Go VM.F

def I64 (l : List Int) : Prop := ∀ x ∈ l, -9223372036854775808 ≤ x ∧ x < 9223372036854775808
def Pos (l : List Int) : Prop := ∀ x ∈ l, 0 ≤ x
/-- Weights that may share. -/
def may (w : List Int) : Bool := decide (w.length ≤ 64) && w.all (fun x => decide (0 ≤ x))
theorem may_iff {w : List Int} : may w = true ↔ w.length ≤ 64 ∧ Pos w := by
  unfold may Pos; rw [Bool.and_eq_true, decide_eq_true_iff, List.all_eq_true]
  simp only [decide_eq_true_iff]

theorem index_loop (N : Nat) {l : List Int} (hl : l.length ≤ 1000000) : ∀ (m n i : Nat), l.length - i ≤ m → m < n → i ≤ l.length → ∃ r, slices_IndexFunc_int64__share_may_1.l2 N n l () (l.length : Int) (i : Int) = some r ∧ (0 ≤ r ↔ ∃ x ∈ l.drop i, x < 0)
  | m, 0, i, _, hn, _ => by omega
  | m, n + 1, i, hm, hn, hi => by
    unfold slices_IndexFunc_int64__share_may_1.l2 slices_IndexFunc_int64__share_may_1.l2b share_may_1
    by_cases h : i < l.length
    · have hd : l.drop i = l.getD i 0 :: l.drop (i + 1) := by
        rw [List.drop_eq_getElem_cons h, List.getD_eq_getElem?_getD, List.getElem?_eq_getElem h]; rfl
      rw [ltB_t (by omega), cond_true, inb_t (by omega) (by omega), cond_true, Option.bind_some, Int.toNat_natCast, hd]
      by_cases hx : l.getD i 0 < 0
      · rw [ltB_t hx, cond_true]
        exact ⟨_, rfl, fun _ => ⟨_, List.mem_cons_self .., hx⟩, fun _ => by omega⟩
      · rw [ltB_f (by omega), cond_false, W_i64 (by omega) (by omega)]
        obtain ⟨r, e, h1⟩ := index_loop N hl (m - 1) n (i + 1) (by omega) (by omega) (by omega)
        refine ⟨r, e, h1.trans ⟨fun ⟨x, hx1, hx2⟩ => ⟨x, List.mem_cons_of_mem _ hx1, hx2⟩, fun ⟨x, hx1, hx2⟩ => ?_⟩⟩
        rcases List.mem_cons.1 hx1 with rfl | hx1
        · exact absurd hx2 hx
        · exact ⟨x, hx1, hx2⟩
    · rw [ltB_f (by omega), cond_false, List.drop_eq_nil_of_le (by omega)]
      exact ⟨_, rfl, fun h => absurd h (by decide), fun ⟨x, hx, _⟩ => nomatch hx⟩

theorem may_eq (N : Nat) {w : List Int} (hN : 100 ≤ N) : share_may N w = some (may w) := by
  unfold share_may
  by_cases h : w.length ≤ 64
  · rw [leB_t (by omega), cond_true]
    unfold slices_ContainsFunc_int64__share_may_1 slices_IndexFunc_int64__share_may_1 slices_IndexFunc_int64__share_may_1.b
    obtain ⟨r, e, hr⟩ := index_loop N (l := w) (by omega) w.length N 0 (by omega) (by omega) (by omega)
    rw [List.drop_zero] at hr
    rw [show ((0 : Nat) : Int) = 0 from rfl] at e
    rw [e, Option.bind_some, Option.bind_some]
    by_cases h0 : 0 ≤ r
    · rw [leB_t h0]
      obtain ⟨x, hx, hx0⟩ := hr.1 h0
      have : may w = false := by
        rw [Bool.eq_false_iff]; intro hm
        have := (may_iff.1 hm).2 x hx; omega
      rw [this]; rfl
    · rw [leB_f (by omega)]
      have : may w = true := may_iff.2 ⟨h, fun x hx => by
        by_cases hx0 : x < 0
        · exact absurd (hr.2 ⟨x, hx, hx0⟩) h0
        · omega⟩
      rw [this]; rfl
  · rw [leB_f (by omega), cond_false]
    have : may w = false := by
      rw [Bool.eq_false_iff]; intro hm; exact h (may_iff.1 hm).1
    rw [this]

theorem wrong_loop (N : Nat) {l : List Int} (hl : l.length ≤ 1000000) : ∀ (m n i : Nat), l.length - i ≤ m → m < n → i ≤ l.length → ∃ r, novationref1_wrong.l4 N n l (i : Int) = some r ∧ (r = true ↔ ∃ x ∈ l.drop i, x < 0)
  | m, 0, i, _, hn, _ => by omega
  | m, n + 1, i, hm, hn, hi => by
    unfold novationref1_wrong.l4 novationref1_wrong.l4b
    by_cases h : i < l.length
    · have hd : l.drop i = l.getD i 0 :: l.drop (i + 1) := by
        rw [List.drop_eq_getElem_cons h, List.getD_eq_getElem?_getD, List.getElem?_eq_getElem h]; rfl
      rw [ltB_t (by omega), cond_true, inb_t (by omega) (by omega), cond_true, Int.toNat_natCast, hd]
      by_cases hx : l.getD i 0 < 0
      · rw [ltB_t hx, cond_true]
        exact ⟨_, rfl, fun _ => ⟨_, List.mem_cons_self .., hx⟩, fun _ => rfl⟩
      · rw [ltB_f (by omega), cond_false, W_i64 (by omega) (by omega)]
        obtain ⟨r, e, h1⟩ := wrong_loop N hl (m - 1) n (i + 1) (by omega) (by omega) (by omega)
        refine ⟨r, e, h1.trans ⟨fun ⟨x, hx1, hx2⟩ => ⟨x, List.mem_cons_of_mem _ hx1, hx2⟩, fun ⟨x, hx1, hx2⟩ => ?_⟩⟩
        rcases List.mem_cons.1 hx1 with rfl | hx1
        · exact absurd hx2 hx
        · exact ⟨x, hx1, hx2⟩
    · rw [ltB_f (by omega), cond_false, List.drop_eq_nil_of_le (by omega)]
      exact ⟨_, rfl, (fun h => nomatch h), fun ⟨x, hx, _⟩ => nomatch hx⟩

theorem wrong_eq (N : Nat) {w : List Int} (hN : 100 ≤ N) (t : Int) : novationref1_wrong N t w = some (decide (t < 0) || !may w) := by
  unfold novationref1_wrong novationref1_wrong.b
  by_cases ht : t < 0
  · rw [ltB_t ht, cond_true, decide_eq_true ht]; rfl
  rw [ltB_f (by omega), cond_false, decide_eq_false ht, Bool.false_or]
  by_cases h : w.length ≤ 64
  · rw [ltB_f (by omega), cond_false]
    obtain ⟨r, e, hr⟩ := wrong_loop N (l := w) (by omega) w.length N 0 (by omega) (by omega) (by omega)
    rw [List.drop_zero] at hr
    rw [show ((0 : Nat) : Int) = 0 from rfl] at e
    rw [e]
    congr 1
    rw [Bool.eq_iff_iff, hr, Bool.not_eq_true', Bool.eq_false_iff, Ne, may_iff]
    constructor
    · rintro ⟨x, hx, hx0⟩ h; have := h.2 x hx; omega
    · intro h1
      by_cases h2 : ∃ x ∈ w, x < 0
      · exact h2
      · exact absurd ⟨h, fun x hx => by
          by_cases hx0 : x < 0
          · exact absurd ⟨x, hx, hx0⟩ h2
          · omega⟩ h1
  · rw [ltB_t (by omega), cond_true]
    have : may w = false := by
      rw [Bool.eq_false_iff]; intro hm; exact h (may_iff.1 hm).1
    rw [this]; rfl

/-- One unit more at each of these places. -/
def bump (q : List Int) : List Int → List Int
  | [] => q
  | k :: t => bump (q.set k.toNat (q.getD k.toNat 0 + 1)) t
def quos (t S : Int) (w : List Int) : List Int := w.map fun x => t * x / S
def rems (t S : Int) (w : List Int) : List Int := w.map fun x => t * x % S
def sharesL (t : Int) (w : List Int) : List Int :=
  bump (quos t w.sum w) ((orderL (rems t w.sum w)).take (t - (quos t w.sum w).sum).toNat)
def splitL (t : Int) (w : List Int) : List Int × Int :=
  if t < 0 ∨ may w = false then ([], 1) else if 9223372036854775808 ≤ w.sum then ([], 2)
  else if w.sum = 0 then (if t = 0 then (List.replicate w.length 0, 0) else ([], 1)) else (sharesL t w, 0)

theorem bump_len : ∀ (ks q : List Int), (bump q ks).length = q.length
  | [], q => rfl
  | k :: t, q => by unfold bump; rw [bump_len t]; simp
theorem set_sum : ∀ (q : List Int) (k : Nat) (x : Int), k < q.length → (q.set k x).sum = q.sum - q.getD k 0 + x
  | [], k, x, h => absurd h (by simp)
  | a :: q, 0, x, h => by simp; omega
  | a :: q, k + 1, x, h => by
    have := set_sum q k x (by simpa using h)
    simp [this]; omega
theorem pos_sum : ∀ {q : List Int}, Pos q → 0 ≤ q.sum
  | [], _ => by simp
  | a :: q, h => by
    have := pos_sum (q := q) (fun x hx => h x (List.mem_cons_of_mem _ hx))
    have := h a (List.mem_cons_self ..)
    rw [List.sum_cons]; omega
theorem le_sum : ∀ {q : List Int}, Pos q → ∀ i, q.getD i 0 ≤ q.sum
  | [], _, i => by simp
  | a :: q, h, 0 => by
    have := pos_sum (q := q) (fun x hx => h x (List.mem_cons_of_mem _ hx))
    rw [List.sum_cons]; simp; omega
  | a :: q, h, i + 1 => by
    have := le_sum (q := q) (fun x hx => h x (List.mem_cons_of_mem _ hx)) i
    have := h a (List.mem_cons_self ..)
    rw [List.sum_cons]; simp; simp at *; omega
theorem pos_getD {q : List Int} (h : Pos q) (i : Nat) : 0 ≤ q.getD i 0 := by
  by_cases hi : i < q.length
  · exact h _ (mem_getD hi)
  · rw [getD_ge q (by omega)]; omega
theorem pos_set {q : List Int} (h : Pos q) {x : Int} (hx : 0 ≤ x) (k : Nat) : Pos (q.set k x) := fun y hy => by
  rcases List.mem_or_eq_of_mem_set hy with hy | rfl
  · exact h y hy
  · exact hx
theorem pos_take {q : List Int} (h : Pos q) (n : Nat) : Pos (q.take n) := fun x hx => h x (List.mem_of_mem_take hx)
theorem bump_sum : ∀ (ks q : List Int), (∀ k ∈ ks, 0 ≤ k ∧ k < q.length) → (bump q ks).sum = q.sum + ks.length
  | [], q, _ => by simp [bump]
  | k :: t, q, h => by
    have hk := h k (List.mem_cons_self ..)
    unfold bump
    rw [bump_sum t _ (fun x hx => by rw [List.length_set]; exact h x (List.mem_cons_of_mem _ hx)), set_sum q _ _ (by omega), List.length_cons]; omega

theorem quos_len (t S : Int) (w : List Int) : (quos t S w).length = w.length := by unfold quos; rw [List.length_map]
theorem rems_len (t S : Int) (w : List Int) : (rems t S w).length = w.length := by unfold rems; rw [List.length_map]
theorem quos_at {t S : Int} {w : List Int} (i : Nat) : (quos t S w).getD i 0 = t * w.getD i 0 / S := by
  unfold quos
  by_cases h : i < w.length
  · rw [List.getD_eq_getElem?_getD, List.getElem?_map, List.getElem?_eq_getElem h, List.getD_eq_getElem?_getD, List.getElem?_eq_getElem h]; rfl
  · rw [getD_ge _ (by rw [List.length_map]; omega), getD_ge w (by omega)]; simp
theorem rems_at {t S : Int} {w : List Int} (i : Nat) : (rems t S w).getD i 0 = t * w.getD i 0 % S := by
  unfold rems
  by_cases h : i < w.length
  · rw [List.getD_eq_getElem?_getD, List.getElem?_map, List.getElem?_eq_getElem h, List.getD_eq_getElem?_getD, List.getElem?_eq_getElem h]; rfl
  · rw [getD_ge _ (by rw [List.length_map]; omega), getD_ge w (by omega)]; simp
theorem quos_pos {t S : Int} {w : List Int} (ht : 0 ≤ t) (hS : 0 ≤ S) (hw : Pos w) : Pos (quos t S w) := fun x hx => by
  obtain ⟨y, hy, rfl⟩ := List.mem_map.1 hx
  exact Int.ediv_nonneg (Int.mul_nonneg ht (hw y hy)) hS
theorem rems_pos {t S : Int} {w : List Int} (hS : 0 < S) : Pos (rems t S w) := fun x hx => by
  obtain ⟨y, hy, rfl⟩ := List.mem_map.1 hx
  exact Int.emod_nonneg _ (by omega)
theorem quo_sum (t S : Int) : ∀ w : List Int, S * (quos t S w).sum + (rems t S w).sum = t * w.sum
  | [] => by simp [quos, rems]
  | x :: w => by
    have h := quo_sum t S w
    have e := Int.mul_ediv_add_emod (t * x) S
    unfold quos rems at *
    simp only [List.map_cons, List.sum_cons, Int.mul_add]
    omega
theorem quo_le {t S : Int} {w : List Int} (ht : 0 ≤ t) (hS : 0 < S) (h : w.sum ≤ S) : (quos t S w).sum ≤ t := by
  have e := quo_sum t S w
  have h1 := pos_sum (rems_pos (t := t) (w := w) hS)
  have h2 := Int.mul_le_mul_of_nonneg_left h ht
  have h3 : S * (quos t S w).sum ≤ S * t := by rw [Int.mul_comm S t]; omega
  exact Int.le_of_mul_le_mul_left h3 hS
theorem sum_take_le {w : List Int} (h : Pos w) (i : Nat) : (w.take i).sum ≤ w.sum := by
  have e : w.take i ++ w.drop i = w := List.take_append_drop i w
  have h1 : (w.take i).sum + (w.drop i).sum = w.sum := by rw [← List.sum_append, e]
  have := pos_sum (q := w.drop i) (fun x hx => h x (List.mem_of_mem_drop hx))
  omega
theorem quos_take (t S : Int) (w : List Int) (i : Nat) : (quos t S w).take i = quos t S (w.take i) := by unfold quos; rw [List.map_take]
theorem bump_loop (N : Nat) {ks : List Int} (hl : ks.length ≤ 1000000) (L : Nat) (hk : ∀ k ∈ ks, 0 ≤ k ∧ k < L) : ∀ (m n i : Nat) (q : List Int), ks.length - i ≤ m → m < n → i ≤ ks.length → q.length = L → Pos q → q.sum + (ks.length - i : Nat) ≤ 9223372036854775807 →
    share_Split.l21 N n q ks (ks.length : Int) (i : Int) = some (bump q (ks.drop i), 0)
  | m, 0, i, q, _, hn, _, _, _, _ => by omega
  | m, n + 1, i, q, hm, hn, hi, hq, hp, hs => by
    unfold share_Split.l21 share_Split.l21b
    by_cases h : i < ks.length
    · have hd : ks.drop i = ks.getD i 0 :: ks.drop (i + 1) := by
        rw [List.drop_eq_getElem_cons h, List.getD_eq_getElem?_getD, List.getElem?_eq_getElem h]; rfl
      have hki := hk _ (mem_getD h)
      rw [ltB_t (by omega), cond_true, inb_t (by omega) (by omega), cond_true, Int.toNat_natCast, inb_t (by omega) (by omega), cond_true, cond_true, hd]
      have h1 := le_sum hp (ks.getD i 0).toNat
      have h2 := pos_getD hp (ks.getD i 0).toNat
      rw [W_i64 (x := q.getD _ 0 + 1) (by omega) (by omega), W_i64 (by omega) (by omega)]
      refine (bump_loop N hl L hk (m - 1) n (i + 1) _ (by omega) (by omega) (by omega) (by rw [List.length_set]; exact hq) (pos_set hp (by omega) _) ?_).trans rfl
      rw [set_sum q _ _ (by omega)]; omega
    · rw [ltB_f (by omega), cond_false, List.drop_eq_nil_of_le (by omega)]; rfl

theorem rbump_loop (N : Nat) {ks : List Int} (hl : ks.length ≤ 1000000) (L : Nat) (hk : ∀ k ∈ ks, 0 ≤ k ∧ k < L) : ∀ (m n i left : Nat) (q : List Int), ks.length - i ≤ m → m < n → i ≤ ks.length → q.length = L → Pos q → left ≤ 9223372036854775807 → q.sum + left ≤ 9223372036854775807 →
    novationref1_Split.l22 N n q (left : Int) ks (i : Int) = some (bump q ((ks.drop i).take left), 0)
  | m, 0, i, left, q, _, hn, _, _, _, _, _ => by omega
  | m, n + 1, i, left, q, hm, hn, hi, hq, hp, hle, hs => by
    unfold novationref1_Split.l22 novationref1_Split.l22b
    by_cases h : i < ks.length
    · have hd : ks.drop i = ks.getD i 0 :: ks.drop (i + 1) := by
        rw [List.drop_eq_getElem_cons h, List.getD_eq_getElem?_getD, List.getElem?_eq_getElem h]; rfl
      have hki := hk _ (mem_getD h)
      rw [ltB_t (by omega), cond_true]
      match left, hle, hs with
      | 0, hle, hs => rw [ltB_f (by omega), cond_false, List.take_zero]; rfl
      | left + 1, hle, hs =>
        rw [ltB_t (by omega), cond_true, inb_t (by omega) (by omega), cond_true, Int.toNat_natCast, inb_t (by omega) (by omega), cond_true, cond_true, hd]
        have h1 := le_sum hp (ks.getD i 0).toNat
        have h2 := pos_getD hp (ks.getD i 0).toNat
        rw [W_i64 (x := q.getD _ 0 + 1) (by omega) (by omega), W_i64 (x := (i : Int) + 1) (by omega) (by omega), W_i64 (by omega) (by omega), show ((left + 1 : Nat) : Int) - 1 = (left : Int) by omega]
        refine (rbump_loop N hl L hk (m - 1) n (i + 1) left _ (by omega) (by omega) (by omega) (by rw [List.length_set]; exact hq) (pos_set hp (by omega) _) (by omega) ?_).trans rfl
        rw [set_sum q _ _ (by omega)]; omega
    · rw [ltB_f (by omega), cond_false, List.drop_eq_nil_of_le (by omega), List.take_nil]; rfl

theorem order_at (l : List Int) : ∀ k ∈ orderL l, 0 ≤ k ∧ k < l.length := fun k hk => (mem_orderTo l).1 hk
theorem take_set (l : List Int) {i : Nat} (x : Int) (h : i < l.length) : (l.set i x).take (i + 1) = l.take i ++ [x] := by
  rw [take_snoc' (l.set i x) (by rw [List.length_set]; exact h), getD_set_eq l x h, List.take_set_of_le (by omega)]
theorem toI_in {v : Int} (h0 : -9223372036854775808 ≤ v) (h1 : v < 9223372036854775808) : toI v = (v, true) := by unfold toI; rw [if_pos ⟨h0, h1⟩]

theorem split_loop (N : Nat) (hN : 1000000 ≤ N) {t : Int} {w : List Int} (ht : 0 ≤ t) (ht1 : t < 9223372036854775808) (hw : w.length ≤ 64) (hp : Pos w) (hS : 0 < w.sum) (hS1 : w.sum < 9223372036854775808) :
    ∀ (m n i : Nat) (q r : List Int), w.length - i ≤ m → m < n → i ≤ w.length → q.length = w.length → r.length = w.length → q.take i = quos t w.sum (w.take i) → r.take i = rems t w.sum (w.take i) →
    share_Split.l13 N n t w.sum q r (t - (quos t w.sum (w.take i)).sum) w (w.length : Int) (i : Int) = some (sharesL t w, 0)
  | m, 0, i, q, r, _, hn, _, _, _, _, _ => by omega
  | m, n + 1, i, q, r, hm, hn, hi, hq, hr, eq, er => by
    unfold share_Split.l13 share_Split.l13b
    by_cases h : i < w.length
    · have hwi := pos_getD hp i
      have hwi1 := le_sum hp i
      have hb := mul_lt ht hwi (show t ≤ 9223372036854775807 by omega) (show w.getD i 0 ≤ 9223372036854775807 by omega)
      have hqi : t * w.getD i 0 / w.sum ≤ t := Int.ediv_le_of_le_mul hS (Int.mul_le_mul_of_nonneg_left hwi1 ht)
      have hqi0 : 0 ≤ t * w.getD i 0 / w.sum := Int.ediv_nonneg hb.1 (by omega)
      have hs0 := quo_le ht hS (sum_take_le hp i)
      have hs1 := pos_sum (quos_pos ht (by omega : 0 ≤ w.sum) (pos_take hp i))
      rw [ltB_t (by omega), cond_true, inb_t (by omega) (by omega), cond_true, Int.toNat_natCast, wMul_eq N (by omega) (by omega) (by omega) (by omega), Option.bind_some,
        wDiv_eq N (by omega) (by omega) (by omega) hS hS1, Option.bind_some]
      dsimp only
      rw [wInt_eq N (by omega) (by omega), Option.bind_some, toI_in (by omega) (by omega)]
      dsimp only
      rw [inb_t (by omega) (by omega), cond_true, inb_t (by omega) (by omega), cond_true, List.length_set, inb_t (by omega) (by omega), cond_true, getD_set_eq q _ (by omega), W_i64 (x := (i : Int) + 1) (by omega) (by omega), W_i64 (by omega) (by omega)]
      have hrec := split_loop N hN ht ht1 hw hp hS hS1 (m - 1) n (i + 1) (q.set i (t * w.getD i 0 / w.sum)) (r.set i (t * w.getD i 0 % w.sum)) (by omega) (by omega) (by omega) (by rw [List.length_set]; exact hq) (by rw [List.length_set]; exact hr)
        (by rw [take_set q _ (by omega), eq, take_snoc' w h]; unfold quos; simp)
        (by rw [take_set r _ (by omega), er, take_snoc' w h]; unfold rems; simp)
      rw [← quos_take, sum_take_succ _ (by rw [quos_len]; exact h), quos_at, quos_take] at hrec
      rw [Int.sub_sub]
      exact hrec
    · have hi' : i = w.length := by omega
      subst hi'
      rw [List.take_of_length_le (by omega), List.take_of_length_le (by omega)] at eq er
      subst eq er
      rw [List.take_of_length_le (by omega)]
      have hs0 := quo_le ht hS (Int.le_refl _)
      have hs1 := pos_sum (quos_pos ht (by omega : 0 ≤ w.sum) hp)
      have hleft : (t - (quos t w.sum w).sum).toNat ≤ (orderL (rems t w.sum w)).length := by
        rw [orderL_len, rems_len]
        have e := quo_sum t w.sum w
        have : (rems t w.sum w).sum ≤ w.length * w.sum := by
          have : ∀ u : List Int, (rems t w.sum u).sum ≤ u.length * w.sum := by
            intro u
            induction u with
            | nil => simp [rems]
            | cons x u ih =>
              have := Int.emod_lt_of_pos (t * x) hS
              unfold rems at *
              rw [List.map_cons, List.sum_cons, List.length_cons, Int.natCast_add, Int.add_mul]; simp; omega
          exact this w
        have h4 : w.sum * (t - (quos t w.sum w).sum) ≤ w.sum * w.length := by
          rw [Int.mul_sub, Int.mul_comm w.sum t, Int.mul_comm w.sum (w.length : Int)]; omega
        have := Int.le_of_mul_le_mul_left h4 hS
        omega
      rw [ltB_f (by omega), cond_false, Order_eq N (by rw [rems_len]; omega) (by rw [rems_len]; omega), Option.bind_some]
      rw [okCut_t (by omega) (by omega) (by omega) (by omega), cond_true]
      dsimp only
      rw [Int.toNat_zero, List.drop_zero]
      have hlen := orderL_len (rems t w.sum w)
      rw [rems_len] at hlen
      have hbl := bump_loop N (ks := (orderL (rems t w.sum w)).take (t - (quos t w.sum w).sum).toNat) (by rw [List.length_take]; omega) w.length (fun k hk => by have := order_at _ k (List.mem_of_mem_take hk); rwa [rems_len] at this) 1000 N 0 (quos t w.sum w) (by rw [List.length_take]; omega) (by omega) (by omega) (quos_len ..) (quos_pos ht (by omega) hp) (by rw [List.length_take]; omega)
      rw [List.drop_zero] at hbl
      exact hbl

theorem Split_eq (N : Nat) (hN : 2000000 ≤ N) {t : Int} {w : List Int} (ht1 : t < 9223372036854775808) (hw : I64 w) (hl : w.length ≤ 1000000) : share_Split N t w = some (splitL t w) := by
  unfold share_Split share_Split.b splitL
  by_cases h1 : t < 0
  · rw [ltB_t h1, cond_true, if_pos (.inl h1)]
  rw [ltB_f (by omega), cond_false, may_eq N (by omega), Option.bind_some]
  cases h2 : may w
  · rw [Bool.not_false, cond_true, if_pos (.inr rfl)]
  rw [Bool.not_true, cond_false, if_neg (by simp [h1]), aSum_eq N hw hl (by omega), Option.bind_some]
  obtain ⟨hw64, hp⟩ := may_iff.1 h2
  have hS0 := pos_sum hp
  by_cases h3 : 9223372036854775808 ≤ w.sum
  · rw [if_pos h3]; unfold toI; rw [if_neg (by omega)]; rfl
  rw [if_neg h3, toI_in (by omega) (by omega)]
  dsimp only
  rw [Bool.not_true, cond_false]
  have hm : okMake (w.length : Int) (w.length : Int) = true := okMake_t (by omega) (by omega) (by omega)
  have hz : ∀ i : Nat, (List.replicate w.length (0 : Int)).take i = (List.replicate w.length (0 : Int)).take i := fun _ => rfl
  by_cases h4 : w.sum = 0
  · rw [if_pos h4, eqB_t h4, cond_true]
    by_cases h5 : t = 0
    · rw [if_pos h5, ltB_f (by omega), cond_false]
      unfold share_Split.j8 share_Split.j8b
      rw [hm, cond_true, cond_true, eqB_t h5, cond_true, Int.toNat_natCast]
    · rw [if_neg h5, ltB_t (by omega), cond_true]
  · rw [if_neg h4, eqB_f h4, cond_false]
    unfold share_Split.j8 share_Split.j8b
    rw [hm, cond_true, cond_true]
    rw [Int.toNat_natCast]
    by_cases h5 : t = 0
    · rw [eqB_t h5, cond_true]
      subst h5
      have : quos 0 w.sum w = List.replicate w.length 0 := by
        unfold quos; simp only [Int.zero_mul, Int.zero_ediv]; exact List.map_const'
      unfold sharesL
      rw [this]; simp [bump]
    · rw [eqB_f h5, cond_false]
      have := split_loop N (by omega) (by omega) ht1 hw64 hp (by omega) (by omega) w.length N 0 (List.replicate w.length 0) (List.replicate w.length 0) (by omega) (by omega) (by omega) (List.length_replicate ..) (List.length_replicate ..) rfl rfl
      rw [List.take_zero] at this
      simp only [quos, List.map_nil, List.sum_nil, Int.sub_zero] at this
      exact this
end VM
end

section
/- Plain laws: what shares are. -/
set_option linter.unusedSimpArgs false
set_option linter.unusedVariables false
namespace VM
open Go VM.F

theorem ext_getD {a b : List Int} (hl : a.length = b.length) (h : ∀ i, i < a.length → a.getD i 0 = b.getD i 0) : a = b := by
  refine List.ext_getElem hl (fun i h1 h2 => ?_)
  have := h i h1
  rwa [List.getD_eq_getElem?_getD, List.getElem?_eq_getElem h1, List.getD_eq_getElem?_getD, List.getElem?_eq_getElem h2] at this

theorem bump_at : ∀ (ks q : List Int) (i : Nat), ks.Nodup → (∀ k ∈ ks, 0 ≤ k ∧ k < q.length) → (bump q ks).getD i 0 = q.getD i 0 + (if (i : Int) ∈ ks then 1 else 0)
  | [], q, i, _, _ => by simp [bump]
  | k :: t, q, i, hn, h => by
    have hk := h k (List.mem_cons_self ..)
    rw [List.nodup_cons] at hn
    unfold bump
    rw [bump_at t _ i hn.2 (fun x hx => by rw [List.length_set]; exact h x (List.mem_cons_of_mem _ hx))]
    by_cases hik : (i : Int) = k
    · rw [if_neg (by rw [hik]; exact hn.1), if_pos (by rw [hik]; exact List.mem_cons_self ..), ← hik, Int.toNat_natCast, getD_set_eq q _ (by omega)]; omega
    · rw [getD_set_ne q _ (by omega)]
      by_cases ht : (i : Int) ∈ t
      · rw [if_pos ht, if_pos (List.mem_cons_of_mem _ ht)]
      · rw [if_neg ht, if_neg (fun hc => by rcases List.mem_cons.1 hc with hc | hc; exact hik hc; exact ht hc)]

theorem order_nodup (l : List Int) : (orderL l).Nodup := (orderTo_pairwise l l.length).imp (fun {a b} h he => by unfold Ahead at h; rw [he] at h; omega)
theorem rem_sum (t S : Int) (hS : 0 < S) : ∀ u : List Int, (rems t S u).sum ≤ u.length * S
  | [] => by simp [rems]
  | x :: u => by
    have ih := rem_sum t S hS u
    have := Int.emod_lt_of_pos (t * x) hS
    unfold rems at *
    rw [List.map_cons, List.sum_cons, List.length_cons, Int.natCast_add, Int.add_mul]; simp; omega

/-- What is left after the whole quotients. -/
def leftL (t : Int) (w : List Int) : Int := t - (quos t w.sum w).sum
theorem left_eq (t : Int) (w : List Int) : w.sum * leftL t w = (rems t w.sum w).sum := by
  have := quo_sum t w.sum w
  unfold leftL; rw [Int.mul_sub, Int.mul_comm w.sum t]; omega
theorem left_pos {t : Int} {w : List Int} (ht : 0 ≤ t) (hS : 0 < w.sum) : 0 ≤ leftL t w := by
  have := quo_le ht hS (Int.le_refl _); unfold leftL; omega
theorem left_le {t : Int} {w : List Int} (hS : 0 < w.sum) : leftL t w ≤ w.length := by
  have h1 := left_eq t w
  have h2 := rem_sum t w.sum hS w
  rw [← h1, Int.mul_comm (w.length : Int)] at h2
  exact Int.le_of_mul_le_mul_left h2 hS

theorem shares_len (t : Int) (w : List Int) : (sharesL t w).length = w.length := by unfold sharesL; rw [bump_len, quos_len]
theorem shares_sum {t : Int} {w : List Int} (ht : 0 ≤ t) (hS : 0 < w.sum) : (sharesL t w).sum = t := by
  unfold sharesL
  have h1 := left_pos ht hS
  have h2 := left_le (t := t) hS
  unfold leftL at *
  rw [bump_sum _ _ (fun k hk => by have := order_at _ k (List.mem_of_mem_take hk); rw [rems_len] at this; rwa [quos_len]), List.length_take, orderL_len, rems_len]
  omega

theorem map_sum_le {f : Int → Int} {c : Int} : ∀ {o : List Int}, (∀ x ∈ o, f x ≤ c) → (o.map f).sum ≤ o.length * c
  | [], _ => by simp
  | x :: o, h => by
    have ih := map_sum_le (f := f) (c := c) (o := o) (fun y hy => h y (List.mem_cons_of_mem _ hy))
    have := h x (List.mem_cons_self ..)
    rw [List.map_cons, List.sum_cons, List.length_cons, Int.natCast_add, Int.add_mul]; simp; omega

theorem ahead_take {l o : List Int} (h : o.Pairwise (Ahead l)) {m : Nat} {x y : Int} (hx : x ∈ o.take m) (hy : y ∈ o.drop m) : Ahead l x y := by
  rw [← List.take_append_drop m o, List.pairwise_append] at h
  exact h.2.2 x hx y hy

theorem taken_pos {t : Int} {w : List Int} (ht : 0 ≤ t) (hS : 0 < w.sum) {i : Int} (hi : i ∈ (orderL (rems t w.sum w)).take (leftL t w).toNat) : 0 < at0 (rems t w.sum w) i := by
  have hpos : ∀ k : Int, 0 ≤ at0 (rems t w.sum w) k := fun k => pos_getD (rems_pos hS) _
  have hlt : ∀ k : Int, at0 (rems t w.sum w) k ≤ w.sum - 1 := fun k => by
    unfold at0; rw [rems_at]
    have := Int.emod_lt_of_pos (t * w.getD k.toNat 0) hS; omega
  have h0 := hpos i
  rcases Int.lt_or_le 0 (at0 (rems t w.sum w) i) with h | h
  · exact h
  exfalso
  have hsum := orderL_sum (rems t w.sum w) (rems t w.sum w) rfl
  rw [← left_eq] at hsum
  have hcut := List.take_append_drop (leftL t w).toNat (orderL (rems t w.sum w))
  rw [← hcut, List.map_append, List.sum_append] at hsum
  have hd : (((orderL (rems t w.sum w)).drop (leftL t w).toNat).map (at0 (rems t w.sum w))).sum ≤ ((orderL (rems t w.sum w)).drop (leftL t w).toNat).length * 0 := map_sum_le (fun y hy => by
    have := ahead_take (orderTo_pairwise _ _) hi hy
    unfold Ahead at this; omega)
  have htk : (((orderL (rems t w.sum w)).take (leftL t w).toNat).map (at0 (rems t w.sum w))).sum ≤ ((orderL (rems t w.sum w)).take (leftL t w).toNat).length * (w.sum - 1) := map_sum_le (fun y _ => hlt y)
  have h1 := left_pos ht hS
  have h2 := left_le (t := t) hS
  rw [List.length_take, orderL_len, rems_len, Nat.min_eq_left (by omega), Int.mul_sub] at htk
  rw [Int.mul_zero] at hd
  have h3 : (((leftL t w).toNat : Nat) : Int) = leftL t w := by omega
  have h4 : 0 < (leftL t w).toNat := by
    rcases Nat.eq_zero_or_pos (leftL t w).toNat with h | h
    · rw [h, List.take_zero] at hi; nomatch hi
    · exact h
  rw [h3, Int.mul_comm (leftL t w)] at htk
  omega

/-- One unit more for this place? -/
def extra (t : Int) (w : List Int) (i : Nat) : Int := if (i : Int) ∈ (orderL (rems t w.sum w)).take (leftL t w).toNat then 1 else 0
theorem shares_at (t : Int) (w : List Int) (i : Nat) : (sharesL t w).getD i 0 = t * w.getD i 0 / w.sum + extra t w i := by
  unfold sharesL
  rw [bump_at _ _ i ((order_nodup _).sublist (List.take_sublist ..)) (fun k hk => by have := order_at _ k (List.mem_of_mem_take hk); rw [rems_len] at this; rwa [quos_len]), quos_at]
  rfl
theorem extra_bit (t : Int) (w : List Int) (i : Nat) : extra t w i = 0 ∨ extra t w i = 1 := by unfold extra; split <;> omega
theorem extra_pos {t : Int} {w : List Int} (ht : 0 ≤ t) (hS : 0 < w.sum) {i : Nat} (h : extra t w i = 1) : 0 < t * w.getD i 0 % w.sum := by
  unfold extra at h
  by_cases hi : (i : Int) ∈ (orderL (rems t w.sum w)).take (leftL t w).toNat
  · have := taken_pos ht hS hi
    unfold at0 at this; rwa [rems_at, Int.toNat_natCast] at this
  · rw [if_neg hi] at h; omega
theorem shares_pos {t : Int} {w : List Int} (ht : 0 ≤ t) (hS : 0 < w.sum) (hw : Pos w) : Pos (sharesL t w) := fun x hx => by
  obtain ⟨i, hi, rfl⟩ := List.mem_iff_getElem.1 hx
  have := shares_at t w i
  rw [List.getD_eq_getElem?_getD, List.getElem?_eq_getElem hi] at this
  have h1 := extra_bit t w i
  have h2 : 0 ≤ t * w.getD i 0 / w.sum := Int.ediv_nonneg (Int.mul_nonneg ht (pos_getD hw i)) (by omega)
  simp only [Option.getD_some] at this
  omega
theorem shares_zero {t : Int} {w : List Int} (ht : 0 ≤ t) (hS : 0 < w.sum) {i : Nat} (h : w.getD i 0 = 0) : (sharesL t w).getD i 0 = 0 := by
  rw [shares_at, h]
  rcases extra_bit t w i with h1 | h1
  · rw [h1]; simp
  · have := extra_pos ht hS h1
    rw [h] at this; simp at this
end VM
end

section
/- Plain laws: the reference's shares; equal shares. -/
set_option linter.unusedSimpArgs false
set_option linter.unusedVariables false
namespace VM
open Go VM.F

theorem rsplit_loop (N : Nat) (hN : 5000000 ≤ N) {t : Int} {w : List Int} (ht : 0 ≤ t) (ht1 : t < 9223372036854775808) (hw : w.length ≤ 64) (hp : Pos w) (hS : 0 < w.sum) (hS1 : w.sum < 9223372036854775808) :
    ∀ (m n i : Nat) (q r : List Int), w.length - i ≤ m → m < n → i ≤ w.length → q.length = w.length → r.length = w.length → q.take i = quos t w.sum (w.take i) → r.take i = rems t w.sum (w.take i) →
    novationref1_Split.l14 N n t w (bigN w.sum) q r (t - (quos t w.sum (w.take i)).sum) (i : Int) = some (sharesL t w, 0)
  | m, 0, i, q, r, _, hn, _, _, _, _, _ => by omega
  | m, n + 1, i, q, r, hm, hn, hi, hq, hr, eq, er => by
    unfold novationref1_Split.l14 novationref1_Split.l14b
    by_cases h : i < w.length
    · have hwi := pos_getD hp i
      have hwi1 := le_sum hp i
      have hb := mul_lt ht hwi (show t ≤ 9223372036854775807 by omega) (show w.getD i 0 ≤ 9223372036854775807 by omega)
      have hqi : t * w.getD i 0 / w.sum ≤ t := Int.ediv_le_of_le_mul hS (Int.mul_le_mul_of_nonneg_left hwi1 ht)
      have hqi0 : 0 ≤ t * w.getD i 0 / w.sum := Int.ediv_nonneg hb.1 (by omega)
      have hri := Int.emod_lt_of_pos (t * w.getD i 0) hS
      have hri0 := Int.emod_nonneg (t * w.getD i 0) (show w.sum ≠ 0 by omega)
      have hs0 := quo_le ht hS (sum_take_le hp i)
      have hs1 := pos_sum (quos_pos ht (by omega : 0 ≤ w.sum) (pos_take hp i))
      have ft : Fit t 2 := Fit.i64 (by omega) (by omega)
      have fw : Fit (w.getD i 0) 2 := Fit.i64 (by omega) (by omega)
      have fS : Fit w.sum 2 := Fit.i64 (by omega) (by omega)
      rw [ltB_t (by omega), cond_true, Whole_eq N (by omega) (by omega) ht1, Option.bind_some, inb_t (by omega) (by omega), cond_true, Int.toNat_natCast, Whole_eq N (by omega) (by omega) (by omega), Option.bind_some,
        Times_eq N (by omega) (ft.mono (by omega)) (fw.mono (by omega)), Option.bind_some, Over_eq N (by omega) hS ((ft.mul fw).mono (by omega)) (fS.mono (by omega)), Option.bind_some]
      dsimp only
      rw [Int_eq, Option.bind_some, toI_in (by omega) (by omega), Int_eq, toI_in (by omega) (by omega)]
      dsimp only
      rw [Option.bind_some, inb_t (by omega) (by omega), cond_true, inb_t (by omega) (by omega), cond_true, List.length_set, inb_t (by omega) (by omega), cond_true, getD_set_eq q _ (by omega), W_i64 (x := (i : Int) + 1) (by omega) (by omega), W_i64 (by omega) (by omega)]
      have hrec := rsplit_loop N hN ht ht1 hw hp hS hS1 (m - 1) n (i + 1) (q.set i (t * w.getD i 0 / w.sum)) (r.set i (t * w.getD i 0 % w.sum)) (by omega) (by omega) (by omega) (by rw [List.length_set]; exact hq) (by rw [List.length_set]; exact hr)
        (by rw [take_set q _ (by omega), eq, take_snoc' w h]; unfold quos; simp)
        (by rw [take_set r _ (by omega), er, take_snoc' w h]; unfold rems; simp)
      rw [← quos_take, sum_take_succ _ (by rw [quos_len]; exact h), quos_at, quos_take] at hrec
      rw [Int.sub_sub]
      exact hrec
    · have hi' : i = w.length := by omega
      subst hi'
      rw [List.take_of_length_le (by omega), List.take_of_length_le (by omega)] at eq er
      subst eq er
      rw [List.take_of_length_le (by omega)]
      have hs1 := pos_sum (quos_pos ht (by omega : 0 ≤ w.sum) hp)
      have h1 := left_pos ht hS
      unfold leftL at h1
      rw [ltB_f (by omega), cond_false, rOrder_eq N (by rw [rems_len]; omega) (by rw [rems_len]; omega), Option.bind_some]
      have hlen := orderL_len (rems t w.sum w)
      rw [rems_len] at hlen
      have hbl := rbump_loop N (ks := orderL (rems t w.sum w)) (by omega) w.length (fun k hk => by have := order_at _ k hk; rwa [rems_len] at this) 1000 N 0 (t - (quos t w.sum w).sum).toNat (quos t w.sum w) (by omega) (by omega) (by omega) (quos_len ..) (quos_pos ht (by omega) hp) (by omega) (by omega)
      rw [List.drop_zero, Int.toNat_of_nonneg h1] at hbl
      exact hbl

theorem rSplit_eq (N : Nat) (hN : 5000000 ≤ N) {t : Int} {w : List Int} (ht1 : t < 9223372036854775808) (hw : I64 w) (hl : w.length ≤ 1000000) : novationref1_Split N t w = some (splitL t w) := by
  unfold novationref1_Split novationref1_Split.b splitL
  rw [wrong_eq N (by omega), Option.bind_some]
  by_cases h1 : t < 0
  · rw [decide_eq_true h1, Bool.true_or, cond_true, if_pos (.inl h1)]
  rw [decide_eq_false h1, Bool.false_or]
  cases h2 : may w
  · rw [Bool.not_false, cond_true, if_pos (.inr rfl)]
  rw [Bool.not_true, cond_false, if_neg (by simp [h1]), SumInts_eq N (by omega) hw hl, Option.bind_some, Sign_eq, Option.bind_some]
  obtain ⟨hw64, hp⟩ := may_iff.1 h2
  have hS0 := pos_sum hp
  have hj : ∀ h : ¬ 9223372036854775808 ≤ w.sum, novationref1_Split.j6 N t w (bigN w.sum) = if w.sum = 0 then some (List.replicate w.length 0, 0) else some (sharesL t w, 0) := fun h => by
    unfold novationref1_Split.j6 novationref1_Split.j6b
    rw [Int_eq, Option.bind_some, toI_in (by omega) (by omega), Bool.not_true, cond_false, okMake_t (by omega) (by omega) (by omega), cond_true, cond_true, Sign_eq, Option.bind_some, Int.toNat_natCast]
    by_cases h4 : w.sum = 0
    · rw [if_pos h4, h4, show sgn 0 = 0 from rfl, eqB_t rfl, cond_true]
    · rw [if_neg h4, eqB_f (by unfold sgn; repeat' split <;> omega), cond_false]
      have := rsplit_loop N hN (by omega) ht1 hw64 hp (by omega) (by omega) w.length N 0 (List.replicate w.length 0) (List.replicate w.length 0) (by omega) (by omega) (by omega) (List.length_replicate ..) (List.length_replicate ..) rfl rfl
      rw [List.take_zero] at this
      simp only [quos, List.map_nil, List.sum_nil, Int.sub_zero] at this
      exact this
  by_cases h3 : 9223372036854775808 ≤ w.sum
  · rw [if_pos h3, eqB_f (by unfold sgn; repeat' split <;> omega), cond_false]
    unfold novationref1_Split.j6 novationref1_Split.j6b
    rw [Int_eq, Option.bind_some]; unfold toI; rw [if_neg (by omega)]; rfl
  rw [if_neg h3, hj h3]
  by_cases h4 : w.sum = 0
  · rw [if_pos h4, if_pos h4, h4, show sgn 0 = 0 from rfl, eqB_t rfl, cond_true]
    by_cases h5 : t = 0
    · rw [if_pos h5, eqB_t h5, Bool.not_true, cond_false]
    · rw [if_neg h5, eqB_f h5, Bool.not_false, cond_true]
  · rw [if_neg h4, if_neg h4, eqB_f (by unfold sgn; repeat' split <;> omega), cond_false]

end VM
end

section
/- Plain laws: shares up to caps. -/
set_option linter.unusedSimpArgs false
set_option linter.unusedVariables false
namespace VM
open Go VM.F

def tabL (n : Nat) (f : Nat → Int) : List Int := (List.range n).map f
theorem tab_len (n : Nat) (f : Nat → Int) : (tabL n f).length = n := by unfold tabL; rw [List.length_map, List.length_range]
theorem tab_at {n : Nat} {f : Nat → Int} {i : Nat} (h : i < n) : (tabL n f).getD i 0 = f i := by
  unfold tabL
  rw [List.getD_eq_getElem?_getD, List.getElem?_map, List.getElem?_range h]; rfl
theorem tab_at' (n : Nat) (f : Nat → Int) (i : Nat) : (tabL n f).getD i 0 = if i < n then f i else 0 := by
  by_cases h : i < n
  · rw [if_pos h, tab_at h]
  · rw [if_neg h, getD_ge _ (by rw [tab_len]; omega)]
theorem pos_tab {n : Nat} {f : Nat → Int} (h : ∀ i, i < n → 0 ≤ f i) : Pos (tabL n f) := fun x hx => by
  obtain ⟨i, hi, rfl⟩ := List.mem_map.1 hx
  exact h i (List.mem_range.1 hi)
theorem pos_of_getD {l : List Int} (h : ∀ i, i < l.length → 0 ≤ l.getD i 0) : Pos l := fun x hx => by
  obtain ⟨i, hi, rfl⟩ := List.mem_iff_getElem.1 hx
  have := h i hi
  rwa [List.getD_eq_getElem?_getD, List.getElem?_eq_getElem hi] at this
theorem sum_le_of : ∀ {a b : List Int}, a.length = b.length → (∀ i, i < a.length → a.getD i 0 ≤ b.getD i 0) → a.sum ≤ b.sum
  | [], [], _, _ => Int.le_refl _
  | [], _ :: _, h, _ => nomatch h
  | _ :: _, [], h, _ => nomatch h
  | x :: a, y :: b, h, h1 => by
    have := sum_le_of (a := a) (b := b) (by simpa using h) (fun i hi => by have := h1 (i + 1) (by simpa using hi); simpa using this)
    have h2 : x ≤ y := by have := h1 0 (by simp); simpa using this
    rw [List.sum_cons, List.sum_cons]; omega
theorem sum_add_of : ∀ {a b c : List Int}, a.length = b.length → a.length = c.length → (∀ i, i < a.length → a.getD i 0 = b.getD i 0 + c.getD i 0) → a.sum = b.sum + c.sum
  | [], [], [], _, _, _ => rfl
  | [], _ :: _, _, h, _, _ => nomatch h
  | [], [], _ :: _, _, h, _ => nomatch h
  | _ :: _, [], _, h, _, _ => nomatch h
  | _ :: _, _ :: _, [], _, h, _ => nomatch h
  | x :: a, y :: b, z :: c, h, h', h1 => by
    have := sum_add_of (a := a) (b := b) (c := c) (by simpa using h) (by simpa using h') (fun i hi => by have := h1 (i + 1) (by simpa using hi); simpa using this)
    have h2 : x = y + z := by have := h1 0 (by simp); simpa using this
    rw [List.sum_cons, List.sum_cons, List.sum_cons]; omega
theorem sum_zero_of : ∀ {a : List Int}, (∀ i, i < a.length → a.getD i 0 = 0) → a.sum = 0
  | [], _ => rfl
  | x :: a, h => by
    have := sum_zero_of (a := a) (fun i hi => by have := h (i + 1) (by simpa using hi); simpa using this)
    have h2 : x = 0 := by have := h 0 (by simp); simpa using this
    rw [List.sum_cons]; omega

/-- The weights of those below their caps. -/
def someL (w caps out : List Int) : List Int := tabL w.length fun i => if out.getD i 0 < caps.getD i 0 then w.getD i 0 else 0
def gainL (parts caps out : List Int) : List Int := tabL out.length fun i => min (parts.getD i 0) (caps.getD i 0 - out.getD i 0)
def addL (out g : List Int) : List Int := tabL out.length fun i => out.getD i 0 + g.getD i 0
def capRun (w caps : List Int) : Nat → List Int → Int → List Int × Int
  | 0, out, left => (out, left)
  | f + 1, out, left => if left = 0 ∨ (someL w caps out).sum = 0 then (out, left) else
    capRun w caps f (addL out (gainL (sharesL left (someL w caps out)) caps out)) (left - (gainL (sharesL left (someL w caps out)) caps out).sum)

/-- What holds between two rounds. -/
structure Cap (t : Int) (w caps out : List Int) (left : Int) : Prop where
  n : w.length ≤ 64
  l1 : caps.length = w.length
  l2 : out.length = w.length
  pw : Pos w
  sw : w.sum < 9223372036854775808
  pc : ∀ i, 0 ≤ caps.getD i 0 ∧ caps.getD i 0 < 9223372036854775808
  po : ∀ i, 0 ≤ out.getD i 0
  le : ∀ i, i < w.length → out.getD i 0 ≤ caps.getD i 0
  z : ∀ i, w.getD i 0 = 0 → out.getD i 0 = 0
  l : 0 ≤ left
  t1 : t < 9223372036854775808
  s : out.sum + left = t

theorem some_len (w caps out : List Int) : (someL w caps out).length = w.length := tab_len ..
theorem some_pos {w caps out : List Int} (h : Pos w) : Pos (someL w caps out) := pos_tab (fun i _ => by split; exact pos_getD h i; omega)
theorem some_sum {w caps out : List Int} (h : Pos w) : (someL w caps out).sum ≤ w.sum := sum_le_of (some_len ..) (fun i hi => by
  rw [some_len] at hi
  unfold someL; rw [tab_at hi]; split
  · omega
  · exact pos_getD h i)
theorem some_i64 {t left : Int} {w caps out : List Int} (c : Cap t w caps out left) : I64 (someL w caps out) := fun x hx => by
  have h1 := some_pos (caps := caps) (out := out) c.pw
  have h2 := some_sum (caps := caps) (out := out) c.pw
  have h3 := h1 x hx
  obtain ⟨i, hi, rfl⟩ := List.mem_iff_getElem.1 hx
  have h4 := le_sum h1 i
  rw [List.getD_eq_getElem?_getD, List.getElem?_eq_getElem hi] at h4
  simp only [Option.getD_some] at h4
  have := c.sw
  omega

theorem cap_left {t left : Int} {w caps out : List Int} (c : Cap t w caps out left) : left ≤ t := by
  have := pos_sum (q := out) (pos_of_getD (fun i _ => c.po i)); have := c.s; omega

theorem gain_at {t left : Int} {w caps out : List Int} (c : Cap t w caps out left) (hS : 0 < (someL w caps out).sum) (i : Nat) :
    0 ≤ (gainL (sharesL left (someL w caps out)) caps out).getD i 0 ∧ (gainL (sharesL left (someL w caps out)) caps out).getD i 0 ≤ (sharesL left (someL w caps out)).getD i 0 ∧ (i < w.length → out.getD i 0 + (gainL (sharesL left (someL w caps out)) caps out).getD i 0 ≤ caps.getD i 0) := by
  have h0 := pos_getD (shares_pos c.l hS (some_pos c.pw)) i
  unfold gainL
  rw [tab_at']
  have := c.l2
  by_cases h : i < out.length
  · rw [if_pos h]
    have := c.le i (by omega)
    omega
  · rw [if_neg h]; exact ⟨by omega, h0, fun h => by omega⟩
theorem gain_len (parts caps out : List Int) : (gainL parts caps out).length = out.length := tab_len ..
theorem gain_sum {t left : Int} {w caps out : List Int} (c : Cap t w caps out left) (hS : 0 < (someL w caps out).sum) : 0 ≤ (gainL (sharesL left (someL w caps out)) caps out).sum ∧ (gainL (sharesL left (someL w caps out)) caps out).sum ≤ left := by
  constructor
  · exact pos_sum (pos_of_getD (fun i _ => (gain_at c hS i).1))
  · have := sum_le_of (a := gainL (sharesL left (someL w caps out)) caps out) (b := sharesL left (someL w caps out)) (by rw [gain_len, shares_len, some_len, c.l2]) (fun i _ => (gain_at c hS i).2.1)
    rwa [shares_sum c.l hS] at this

theorem cap_step {t left : Int} {w caps out : List Int} (c : Cap t w caps out left) (hS : 0 < (someL w caps out).sum) : Cap t w caps (addL out (gainL (sharesL left (someL w caps out)) caps out)) (left - (gainL (sharesL left (someL w caps out)) caps out).sum) := by
  have hat : ∀ i, (addL out (gainL (sharesL left (someL w caps out)) caps out)).getD i 0 = if i < out.length then out.getD i 0 + (gainL (sharesL left (someL w caps out)) caps out).getD i 0 else 0 := fun i => by unfold addL; rw [tab_at']
  have gs := gain_sum c hS
  refine ⟨c.n, c.l1, ?_, c.pw, c.sw, c.pc, fun i => ?_, fun i hi => ?_, fun i hi => ?_, by omega, c.t1, ?_⟩
  · unfold addL; rw [tab_len, c.l2]
  · rw [hat]; have := (gain_at c hS i).1; have := c.po i; split <;> omega
  · rw [hat, if_pos (by rw [c.l2]; exact hi)]; exact (gain_at c hS i).2.2 hi
  · rw [hat]
    split
    · have h1 : (someL w caps out).getD i 0 = 0 := by unfold someL; rw [tab_at', hi]; split <;> (try split) <;> rfl
      have h2 := shares_zero c.l hS h1
      have h3 := gain_at c hS i
      rw [c.z i hi]; omega
    · rfl
  · have := sum_add_of (a := addL out (gainL (sharesL left (someL w caps out)) caps out)) (b := out) (c := gainL (sharesL left (someL w caps out)) caps out) (by unfold addL; rw [tab_len]) (by unfold addL; rw [tab_len, gain_len]) (fun i hi => by
      unfold addL at hi; rw [tab_len] at hi; rw [hat, if_pos hi])
    have := c.s
    omega

/-- How many with a weight are below their caps. -/
def opens (w caps out : List Int) : Nat := (List.range w.length).countP fun i => decide (0 < w.getD i 0 ∧ out.getD i 0 < caps.getD i 0)
theorem countP_lt {p q : Nat → Bool} : ∀ {l : List Nat}, (∀ x ∈ l, q x = true → p x = true) → (∃ x ∈ l, p x = true ∧ q x = false) → l.countP q < l.countP p
  | [], _, ⟨x, hx, _⟩ => nomatch hx
  | y :: l, h, ⟨x, hx, h1, h2⟩ => by
    have hle : l.countP q ≤ l.countP p := List.countP_mono_left (fun z hz => h z (List.mem_cons_of_mem _ hz))
    rw [List.countP_cons, List.countP_cons]
    rcases List.mem_cons.1 hx with rfl | hx
    · rw [h1, h2]; simp; omega
    · have := countP_lt (p := p) (q := q) (l := l) (fun z hz => h z (List.mem_cons_of_mem _ hz)) ⟨x, hx, h1, h2⟩
      have h3 := h y (List.mem_cons_self ..)
      cases hq : q y <;> cases hp : p y <;> simp <;> try omega
      rw [hq, hp] at h3; simp at h3
theorem some_zero {w caps out : List Int} (hw : Pos w) (h : (someL w caps out).sum = 0) : ∀ i, i < w.length → ¬ (0 < w.getD i 0 ∧ out.getD i 0 < caps.getD i 0) := fun i hi ⟨h1, h2⟩ => by
  have := le_sum (some_pos (caps := caps) (out := out) hw) i
  unfold someL at this h
  rw [tab_at hi, if_pos h2, h] at this
  omega
theorem some_nonzero {w caps out : List Int} (hw : Pos w) (h : (someL w caps out).sum ≠ 0) : ∃ i, i < w.length ∧ 0 < w.getD i 0 ∧ out.getD i 0 < caps.getD i 0 := by
  by_cases hx : ∃ i, i < w.length ∧ 0 < w.getD i 0 ∧ out.getD i 0 < caps.getD i 0
  · exact hx
  · refine absurd (sum_zero_of (fun i hi => ?_)) h
    rw [some_len] at hi
    unfold someL
    rw [tab_at hi]
    split
    · rename_i h1
      have := pos_getD hw i
      by_cases h2 : 0 < w.getD i 0
      · exact absurd ⟨i, hi, h2, h1⟩ hx
      · omega
    · rfl
theorem cap_fewer {t left : Int} {w caps out : List Int} (c : Cap t w caps out left) (hS : 0 < (someL w caps out).sum) (hl : left - (gainL (sharesL left (someL w caps out)) caps out).sum ≠ 0) : opens w caps (addL out (gainL (sharesL left (someL w caps out)) caps out)) < opens w caps out := by
  have hat : ∀ i, i < w.length → (addL out (gainL (sharesL left (someL w caps out)) caps out)).getD i 0 = out.getD i 0 + (gainL (sharesL left (someL w caps out)) caps out).getD i 0 := fun i hi => by unfold addL; rw [tab_at (by rw [c.l2]; exact hi)]
  refine countP_lt (fun i hi h => ?_) ?_
  · rw [List.mem_range] at hi
    rw [decide_eq_true_iff, hat i hi] at h
    rw [decide_eq_true_iff]
    have := (gain_at c hS i).1
    omega
  · by_cases hx : ∃ i, i < w.length ∧ (0 < w.getD i 0 ∧ out.getD i 0 < caps.getD i 0) ∧ caps.getD i 0 ≤ out.getD i 0 + (gainL (sharesL left (someL w caps out)) caps out).getD i 0
    · obtain ⟨i, h1, h2, h3⟩ := hx
      refine ⟨i, List.mem_range.2 h1, decide_eq_true h2, decide_eq_false ?_⟩
      rw [hat i h1]; omega
    · exfalso
      have h1 : sharesL left (someL w caps out) = gainL (sharesL left (someL w caps out)) caps out := by
        refine ext_getD (by rw [gain_len, shares_len, some_len, c.l2]) (fun i hi => ?_)
        rw [shares_len, some_len] at hi
        have h2 := gain_at c hS i
        have h3 := pos_getD (shares_pos c.l hS (some_pos (caps := caps) (out := out) c.pw)) i
        by_cases h4 : 0 < w.getD i 0 ∧ out.getD i 0 < caps.getD i 0
        · have h5 : ¬ caps.getD i 0 ≤ out.getD i 0 + (gainL (sharesL left (someL w caps out)) caps out).getD i 0 := fun h => hx ⟨i, hi, h4, h⟩
          have h6 : (gainL (sharesL left (someL w caps out)) caps out).getD i 0 = min ((sharesL left (someL w caps out)).getD i 0) (caps.getD i 0 - out.getD i 0) := tab_at (by rw [c.l2]; exact hi)
          omega
        · have h7 : (someL w caps out).getD i 0 = 0 := by
            unfold someL; rw [tab_at hi]
            have := pos_getD c.pw i
            split <;> omega
          have := shares_zero c.l hS h7
          omega
      rw [← h1, shares_sum c.l hS] at hl
      omega
theorem opens_le (w caps out : List Int) : opens w caps out ≤ w.length := by
  unfold opens
  have := List.countP_le_length (p := fun i => decide (0 < w.getD i 0 ∧ out.getD i 0 < caps.getD i 0)) (l := List.range w.length)
  rwa [List.length_range] at this

/-- What holds in the end. -/
structure Full (t : Int) (w caps out : List Int) (left : Int) : Prop where
  c : Cap t w caps out left
  f : left = 0 ∨ ∀ i, i < w.length → ¬ (0 < w.getD i 0 ∧ out.getD i 0 < caps.getD i 0)

theorem run_full {t : Int} {w caps : List Int} : ∀ (f : Nat) (out : List Int) (left : Int), Cap t w caps out left → (opens w caps out < f ∨ left = 0) → Full t w caps (capRun w caps f out left).1 (capRun w caps f out left).2
  | 0, out, left, c, h => ⟨c, .inl (show left = 0 by omega)⟩
  | f + 1, out, left, c, h => by
    unfold capRun
    have hS := pos_sum (some_pos (caps := caps) (out := out) c.pw)
    split
    · rename_i h1
      exact ⟨c, h1.imp id (some_zero c.pw)⟩
    · rename_i h1
      refine run_full f _ _ (cap_step c (by omega)) ?_
      by_cases h2 : left - (gainL (sharesL left (someL w caps out)) caps out).sum = 0
      · exact .inr h2
      · have := cap_fewer c (by omega) h2
        exact .inl (by omega)

/-- In the midst of a round. -/
def midL (out g : List Int) (i : Nat) : List Int := tabL out.length fun j => if j < i then out.getD j 0 + g.getD j 0 else out.getD j 0
theorem mid_zero (out g : List Int) : midL out g 0 = out := ext_getD (tab_len ..) (fun i hi => by unfold midL at *; rw [tab_len] at hi; rw [tab_at hi, if_neg (by omega)])
theorem mid_all (out g : List Int) {n : Nat} (h : out.length ≤ n) : midL out g n = addL out g := ext_getD (by unfold midL addL; rw [tab_len, tab_len]) (fun i hi => by unfold midL addL at *; rw [tab_len] at hi; rw [tab_at hi, tab_at hi, if_pos (by omega)])
theorem mid_len (out g : List Int) (i : Nat) : (midL out g i).length = out.length := tab_len ..
theorem mid_at {out g : List Int} {i : Nat} (h : i < out.length) : (midL out g i).getD i 0 = out.getD i 0 := by unfold midL; rw [tab_at h, if_neg (by omega)]
theorem mid_set {out g : List Int} {i : Nat} (h : i < out.length) : (midL out g i).set i (out.getD i 0 + g.getD i 0) = midL out g (i + 1) := ext_getD (by rw [List.length_set, mid_len, mid_len]) (fun j hj => by
  rw [List.length_set, mid_len] at hj
  by_cases hji : i = j
  · subst hji
    rw [getD_set_eq _ _ (by rw [mid_len]; exact h)]; unfold midL; rw [tab_at h, if_pos (by omega)]
  · rw [getD_set_ne _ _ hji]; unfold midL; rw [tab_at hj, tab_at hj]
    by_cases h1 : j < i
    · rw [if_pos h1, if_pos (by omega)]
    · rw [if_neg h1, if_neg (by omega)])
def fillL (s : List Int) (i : Nat) : List Int := tabL s.length fun j => if j < i then s.getD j 0 else 0
theorem fill_zero (s : List Int) : fillL s 0 = List.replicate s.length 0 := ext_getD (by unfold fillL; rw [tab_len, List.length_replicate]) (fun i hi => by
  unfold fillL at *; rw [tab_len] at hi; rw [tab_at hi, if_neg (by omega), List.getD_eq_getElem?_getD, List.getElem?_replicate, if_pos hi]; rfl)
theorem fill_all (s : List Int) : fillL s s.length = s := ext_getD (tab_len ..) (fun i hi => by unfold fillL at *; rw [tab_len] at hi; rw [tab_at hi, if_pos hi])
theorem fill_len (s : List Int) (i : Nat) : (fillL s i).length = s.length := tab_len ..
theorem fill_set {s : List Int} {i : Nat} (h : i < s.length) : (fillL s i).set i (s.getD i 0) = fillL s (i + 1) := ext_getD (by rw [List.length_set, fill_len, fill_len]) (fun j hj => by
  rw [List.length_set, fill_len] at hj
  by_cases hji : i = j
  · subst hji
    rw [getD_set_eq _ _ (by rw [fill_len]; exact h)]; unfold fillL; rw [tab_at h, if_pos (by omega)]
  · rw [getD_set_ne _ _ hji]; unfold fillL; rw [tab_at hj, tab_at hj]
    by_cases h1 : j < i
    · rw [if_pos h1, if_pos (by omega)]
    · rw [if_neg h1, if_neg (by omega)])
theorem fill_skip {s : List Int} {i : Nat} (h : s.getD i 0 = 0) : fillL s i = fillL s (i + 1) := ext_getD (by rw [fill_len, fill_len]) (fun j hj => by
  rw [fill_len] at hj
  unfold fillL; rw [tab_at hj, tab_at hj]
  by_cases h1 : j < i
  · rw [if_pos h1, if_pos (by omega)]
  · rw [if_neg h1]
    by_cases h2 : j = i
    · subst h2; rw [if_pos (by omega), h]
    · rw [if_neg (by omega)])
theorem mn_min (x y : Int) : mn x y = min x y := by rw [mn_eq]; split <;> omega
theorem gain_take {t left : Int} {w caps out : List Int} (c : Cap t w caps out left) (hS : 0 < (someL w caps out).sum) (i : Nat) : 0 ≤ ((gainL (sharesL left (someL w caps out)) caps out).take i).sum ∧ ((gainL (sharesL left (someL w caps out)) caps out).take i).sum ≤ left := by
  have h := pos_of_getD (l := gainL (sharesL left (someL w caps out)) caps out) (fun i _ => (gain_at c hS i).1)
  have := sum_take_le h i
  have := gain_sum c hS
  exact ⟨pos_sum (pos_take h i), by omega⟩

theorem gain_loop (N : Nat) (K : List Int → List Int → List Int → Int → Option (List Int × Int × Int)) {t left : Int} {w caps out : List Int} (c : Cap t w caps out left) (hS : 0 < (someL w caps out).sum) : ∀ (m n i : Nat), w.length - i ≤ m → m < n → i ≤ w.length →
    share_Capped.l18 N K n w caps (midL out (gainL (sharesL left (someL w caps out)) caps out) i) (left - ((gainL (sharesL left (someL w caps out)) caps out).take i).sum) (sharesL left (someL w caps out)) ((sharesL left (someL w caps out)).length : Int) (i : Int) =
    K w caps (addL out (gainL (sharesL left (someL w caps out)) caps out)) (left - (gainL (sharesL left (someL w caps out)) caps out).sum)
  | m, 0, i, _, hn, _ => by omega
  | m, n + 1, i, hm, hn, hi => by
    have n64 := c.n
    have e1 := c.l1
    have e2 := c.l2
    unfold share_Capped.l18 share_Capped.l18b
    by_cases h : i < w.length
    · have hc := c.pc i
      have ho := c.po i
      have hle := c.le i h
      have hg := gain_at c hS i
      have h6 : (gainL (sharesL left (someL w caps out)) caps out).getD i 0 = min ((sharesL left (someL w caps out)).getD i 0) (caps.getD i 0 - out.getD i 0) := tab_at (by rw [c.l2]; exact h)
      have ht := gain_take c hS i
      have hl := cap_left c
      have ht1 := c.t1
      have hgl : (gainL (sharesL left (someL w caps out)) caps out).getD i 0 ≤ left := by
        have := le_sum (pos_of_getD (l := gainL (sharesL left (someL w caps out)) caps out) (fun i _ => (gain_at c hS i).1)) i
        have := gain_sum c hS
        omega
      dsimp only
      rw [ltB_t (by rw [shares_len, some_len]; omega), cond_true, inb_t (by omega) (by rw [shares_len, some_len]; omega), cond_true, inb_t (by omega) (by omega), cond_true, inb_t (by omega) (by rw [mid_len]; omega), cond_true, cond_true, Int.toNat_natCast, mid_at (by omega), W_i64 (x := caps.getD i 0 - out.getD i 0) (by omega) (by omega), mn_min, ← h6,
        W_i64 (x := (i : Int) + 1) (by omega) (by omega), W_i64 (x := out.getD i 0 + _) (by omega) (by omega), W_i64 (by omega) (by omega), mid_set (by omega)]
      have := gain_loop N K c hS (m - 1) n (i + 1) (by omega) (by omega) (by omega)
      rw [sum_take_succ _ (by rw [gain_len]; omega), ← Int.sub_sub] at this
      exact this
    · rw [ltB_f (by rw [shares_len, some_len]; omega), cond_false, mid_all _ _ (by omega), List.take_of_length_le (by rw [gain_len]; omega)]

theorem rgain_loop (N : Nat) (K : List Int → List Int → List Int → Int → Int → Option (List Int × Int × Int)) {t left : Int} {w caps out : List Int} (c : Cap t w caps out left) (hS : 0 < (someL w caps out).sum) (rd : Int) : ∀ (m n i : Nat), w.length - i ≤ m → m < n → i ≤ w.length →
    novationref1_Capped.l19 N K n w caps (midL out (gainL (sharesL left (someL w caps out)) caps out) i) (left - ((gainL (sharesL left (someL w caps out)) caps out).take i).sum) rd (sharesL left (someL w caps out)) (i : Int) =
    K w caps (addL out (gainL (sharesL left (someL w caps out)) caps out)) (left - (gainL (sharesL left (someL w caps out)) caps out).sum) (W .i64 (rd + 1))
  | m, 0, i, _, hn, _ => by omega
  | m, n + 1, i, hm, hn, hi => by
    have n64 := c.n
    have e1 := c.l1
    have e2 := c.l2
    unfold novationref1_Capped.l19 novationref1_Capped.l19b
    by_cases h : i < w.length
    · have hc := c.pc i
      have ho := c.po i
      have hle := c.le i h
      have hg := gain_at c hS i
      have h6 : (gainL (sharesL left (someL w caps out)) caps out).getD i 0 = min ((sharesL left (someL w caps out)).getD i 0) (caps.getD i 0 - out.getD i 0) := tab_at (by rw [c.l2]; exact h)
      have ht := gain_take c hS i
      have hl := cap_left c
      have ht1 := c.t1
      have hgl : (gainL (sharesL left (someL w caps out)) caps out).getD i 0 ≤ left := by
        have := le_sum (pos_of_getD (l := gainL (sharesL left (someL w caps out)) caps out) (fun i _ => (gain_at c hS i).1)) i
        have := gain_sum c hS
        omega
      dsimp only
      rw [ltB_t (by omega), cond_true, inb_t (by omega) (by rw [shares_len, some_len]; omega), cond_true, inb_t (by omega) (by omega), cond_true, inb_t (by omega) (by rw [mid_len]; omega), cond_true, cond_true, Int.toNat_natCast, mid_at (by omega), W_i64 (x := caps.getD i 0 - out.getD i 0) (by omega) (by omega), mn_min, ← h6,
        W_i64 (x := (i : Int) + 1) (by omega) (by omega), W_i64 (x := out.getD i 0 + _) (by omega) (by omega), W_i64 (x := left - _ - _) (by omega) (by omega), mid_set (by omega)]
      have := rgain_loop N K c hS rd (m - 1) n (i + 1) (by omega) (by omega) (by omega)
      rw [sum_take_succ _ (by rw [gain_len]; omega), ← Int.sub_sub] at this
      exact this
    · rw [ltB_f (by omega), cond_false, mid_all _ _ (by omega), List.take_of_length_le (by rw [gain_len]; omega)]

theorem some_loop (N : Nat) (hN : 5000000 ≤ N) (K : List Int → List Int → List Int → Int → Option (List Int × Int × Int)) {t left : Int} {w caps out : List Int} (c : Cap t w caps out left) (hl : 0 < left) : ∀ (m n i : Nat), w.length - i ≤ m → m < n → i ≤ w.length →
    share_Capped.l10 N K n w caps out left (fillL (someL w caps out) i) (w.length : Int) (i : Int) =
    if (someL w caps out).sum = 0 then some (out, left, 0) else K w caps (addL out (gainL (sharesL left (someL w caps out)) caps out)) (left - (gainL (sharesL left (someL w caps out)) caps out).sum)
  | m, 0, i, _, hn, _ => by omega
  | m, n + 1, i, hm, hn, hi => by
    have n64 := c.n
    have e1 := c.l1
    have e2 := c.l2
    unfold share_Capped.l10 share_Capped.l10b
    by_cases h : i < w.length
    · have h1 : (someL w caps out).getD i 0 = if out.getD i 0 < caps.getD i 0 then w.getD i 0 else 0 := tab_at h
      rw [ltB_t (by omega), cond_true, inb_t (by omega) (by omega), cond_true, inb_t (by omega) (by omega), cond_true, Int.toNat_natCast]
      by_cases h2 : out.getD i 0 < caps.getD i 0
      · rw [if_pos h2] at h1
        rw [ltB_t h2, cond_true, inb_t (by omega) (by omega), cond_true, inb_t (by omega) (by rw [fill_len, some_len]; omega), cond_true, W_i64 (by omega) (by omega), ← h1, fill_set (by rw [some_len]; exact h)]
        exact some_loop N hN K c hl (m - 1) n (i + 1) (by omega) (by omega) (by omega)
      · rw [if_neg h2] at h1
        rw [ltB_f (by omega), cond_false, W_i64 (by omega) (by omega), fill_skip h1]
        exact some_loop N hN K c hl (m - 1) n (i + 1) (by omega) (by omega) (by omega)
    · have hl1 := cap_left c
      have ht1 := c.t1
      have hi' : i = (someL w caps out).length := by rw [some_len]; omega
      have hp := some_pos (caps := caps) (out := out) c.pw
      have hs := some_sum (caps := caps) (out := out) c.pw
      have hs0 := pos_sum hp
      have hsw := c.sw
      have hm : may (someL w caps out) = true := may_iff.2 ⟨by rw [some_len]; omega, hp⟩
      rw [ltB_f (by omega), cond_false, hi', fill_all, Split_eq N (by omega) (by omega) (some_i64 c) (by rw [some_len]; omega), Option.bind_some]
      unfold splitL
      rw [if_neg (by rw [hm]; simp; omega), if_neg (by omega)]
      by_cases h3 : (someL w caps out).sum = 0
      · rw [if_pos h3, if_pos h3, if_neg (by omega), eqB_f (show (1 : Int) ≠ 0 by omega), Bool.not_false, cond_true]
      · rw [if_neg h3, if_neg h3, eqB_t (show (0 : Int) = 0 by rfl), Bool.not_true, cond_false]
        have := gain_loop N K c (by omega) w.length N 0 (by omega) (by omega) (by omega)
        rw [mid_zero, List.take_zero, List.sum_nil, Int.sub_zero] at this
        exact this

/-- One of the first ones has a weight and is below its cap. -/
def SomeOpen (w caps out : List Int) (i : Nat) : Prop := ∃ j, j < i ∧ 0 < w.getD j 0 ∧ out.getD j 0 < caps.getD j 0

theorem rsome_loop (N : Nat) (hN : 5000000 ≤ N) (K : List Int → List Int → List Int → Int → Int → Option (List Int × Int × Int)) {t left : Int} {w caps out : List Int} (c : Cap t w caps out left) (rd : Int) : ∀ (m n i : Nat) (b : Bool), w.length - i ≤ m → m < n → i ≤ w.length → (b = true ↔ SomeOpen w caps out i) →
    novationref1_Capped.l12 N K n w caps out left rd (fillL (someL w caps out) i) b (i : Int) =
    if left = 0 ∨ (someL w caps out).sum = 0 then some (out, left, 0) else K w caps (addL out (gainL (sharesL left (someL w caps out)) caps out)) (left - (gainL (sharesL left (someL w caps out)) caps out).sum) (W .i64 (rd + 1))
  | m, 0, i, b, _, hn, _, _ => by omega
  | m, n + 1, i, b, hm, hn, hi, hb => by
    have n64 := c.n
    have e1 := c.l1
    have e2 := c.l2
    unfold novationref1_Capped.l12 novationref1_Capped.l12b
    by_cases h : i < w.length
    · have h1 : (someL w caps out).getD i 0 = if out.getD i 0 < caps.getD i 0 then w.getD i 0 else 0 := tab_at h
      have hw := pos_getD c.pw i
      have hskip : ¬ (0 < w.getD i 0 ∧ out.getD i 0 < caps.getD i 0) → (b = true ↔ SomeOpen w caps out (i + 1)) := fun hno => hb.trans ⟨fun ⟨j, hj, h2⟩ => ⟨j, by omega, h2⟩, fun ⟨j, hj, h2⟩ => ⟨j, by
        by_cases hji : j = i
        · subst hji; exact absurd h2 hno
        · omega, h2⟩⟩
      rw [ltB_t (by omega), cond_true, inb_t (by omega) (by omega), cond_true, Int.toNat_natCast]
      by_cases h0 : 0 < w.getD i 0
      · rw [ltB_t h0, cond_true, inb_t (by omega) (by omega), cond_true, inb_t (by omega) (by omega), cond_true]
        by_cases h2 : out.getD i 0 < caps.getD i 0
        · rw [if_pos h2] at h1
          rw [ltB_t h2, cond_true, cond_true, inb_t (by omega) (by rw [fill_len, some_len]; omega), cond_true, W_i64 (by omega) (by omega), ← h1, fill_set (by rw [some_len]; exact h)]
          exact rsome_loop N hN K c rd (m - 1) n (i + 1) true (by omega) (by omega) (by omega) ⟨fun _ => ⟨i, by omega, h0, h2⟩, fun _ => rfl⟩
        · rw [if_neg h2] at h1
          rw [ltB_f (by omega), cond_false, W_i64 (by omega) (by omega), fill_skip h1]
          exact rsome_loop N hN K c rd (m - 1) n (i + 1) b (by omega) (by omega) (by omega) (hskip (fun h => h2 h.2))
      · have h3 : (someL w caps out).getD i 0 = 0 := by rw [h1]; split <;> omega
        rw [ltB_f (by omega), cond_false, W_i64 (by omega) (by omega), fill_skip h3]
        exact rsome_loop N hN K c rd (m - 1) n (i + 1) b (by omega) (by omega) (by omega) (hskip (fun h => h0 h.1))
    · have hl1 := cap_left c
      have ht1 := c.t1
      have hl0 := c.l
      have hi' : i = (someL w caps out).length := by rw [some_len]; omega
      have hp := some_pos (caps := caps) (out := out) c.pw
      have hs := some_sum (caps := caps) (out := out) c.pw
      have hs0 := pos_sum hp
      have hsw := c.sw
      have hm : may (someL w caps out) = true := may_iff.2 ⟨by rw [some_len]; omega, hp⟩
      rw [ltB_f (by omega), cond_false]
      by_cases h4 : left = 0
      · rw [eqB_t h4, cond_true, if_pos (.inl h4)]
      rw [eqB_f h4, cond_false]
      by_cases h3 : (someL w caps out).sum = 0
      · have hbf : b = false := by
          rw [Bool.eq_false_iff]; intro ht
          obtain ⟨j, hj, h5⟩ := hb.1 ht
          exact some_zero c.pw h3 j (by omega) h5
        rw [if_pos (.inr h3), hbf]; rfl
      · have hbt : b = true := hb.2 (by
          obtain ⟨j, hj, h5⟩ := some_nonzero c.pw h3
          exact ⟨j, by omega, h5⟩)
        rw [hbt, Bool.not_true, cond_false, if_neg (by omega), hi', fill_all, rSplit_eq N (by omega) (by omega) (some_i64 c) (by rw [some_len]; omega), Option.bind_some]
        unfold splitL
        rw [if_neg (by rw [hm]; simp; omega), if_neg (by omega), if_neg h3]
        have := rgain_loop N K c (by omega) rd w.length N 0 (by omega) (by omega) (by omega)
        rw [mid_zero, List.take_zero, List.sum_nil, Int.sub_zero] at this
        exact this

theorem run_loop (N : Nat) (hN : 5000000 ≤ N) {t : Int} {w caps : List Int} : ∀ (f n : Nat) (out : List Int) (left : Int), Cap t w caps out left → (opens w caps out < f ∨ left = 0) → f < n →
    share_Capped.l7 N n w caps out left = some ((capRun w caps f out left).1, (capRun w caps f out left).2, 0)
  | f, 0, out, left, c, _, hn => by omega
  | f, n + 1, out, left, c, h, hn => by
    have n64 := c.n
    have hl := c.l
    unfold share_Capped.l7 share_Capped.l7b
    by_cases h0 : left = 0
    · rw [ltB_f (by omega), cond_false]
      cases f with
      | zero => rfl
      | succ f => unfold capRun; rw [if_pos (.inl h0)]
    · rw [ltB_t (by omega), cond_true, okMake_t (by omega) (by omega) (by omega), cond_true, Int.toNat_natCast]
      have := some_loop N hN (share_Capped.l7 N n) c (by omega) w.length N 0 (by omega) (by omega) (by omega)
      rw [fill_zero, some_len] at this
      refine Eq.trans this ?_
      cases f with
      | zero => omega
      | succ f =>
        have hS := pos_sum (some_pos (caps := caps) (out := out) c.pw)
        unfold capRun
        by_cases h1 : (someL w caps out).sum = 0
        · rw [if_pos h1, if_pos (.inr h1)]
        · rw [if_neg h1, if_neg (by omega)]
          refine run_loop N hN f n _ _ (cap_step c (by omega)) ?_ (by omega)
          by_cases h2 : left - (gainL (sharesL left (someL w caps out)) caps out).sum = 0
          · exact .inr h2
          · have := cap_fewer c (by omega) h2
            exact .inl (by omega)

theorem rrun_loop (N : Nat) (hN : 5000000 ≤ N) {t : Int} {w caps : List Int} : ∀ (f n : Nat) (out : List Int) (left : Int), Cap t w caps out left → f ≤ w.length + 1 → f < n →
    novationref1_Capped.l8 N n w caps out left ((w.length + 1 - f : Nat) : Int) = some ((capRun w caps f out left).1, (capRun w caps f out left).2, 0)
  | f, 0, out, left, c, _, hn => by omega
  | 0, n + 1, out, left, c, h, hn => by
    unfold novationref1_Capped.l8 novationref1_Capped.l8b
    rw [leB_f (by omega)]; rfl
  | f + 1, n + 1, out, left, c, h, hn => by
    have n64 := c.n
    have hl := c.l
    unfold novationref1_Capped.l8 novationref1_Capped.l8b
    rw [leB_t (by omega), cond_true, okMake_t (by omega) (by omega) (by omega), cond_true, Int.toNat_natCast]
    have := rsome_loop N hN (novationref1_Capped.l8 N n) c ((w.length + 1 - (f + 1) : Nat) : Int) w.length N 0 false (by omega) (by omega) (by omega) ⟨(fun h => nomatch h), fun ⟨j, hj, _⟩ => by omega⟩
    rw [fill_zero, some_len] at this
    refine Eq.trans this ?_
    have hS := pos_sum (some_pos (caps := caps) (out := out) c.pw)
    unfold capRun
    by_cases h1 : left = 0 ∨ (someL w caps out).sum = 0
    · rw [if_pos h1, if_pos h1]
    · rw [if_neg h1, if_neg h1, W_i64 (by omega) (by omega), show (((w.length + 1 - (f + 1) : Nat) : Int) + 1) = ((w.length + 1 - f : Nat) : Int) by omega]
      exact rrun_loop N hN f n _ _ (cap_step c (by omega)) (by omega) (by omega)

def cappedL (t : Int) (w caps : List Int) : List Int × Int × Int :=
  if t < 0 ∨ may w = false ∨ caps.length ≠ w.length ∨ may caps = false then ([], 0, 1) else if 9223372036854775808 ≤ w.sum then ([], 0, 2)
  else ((capRun w caps (w.length + 1) (List.replicate w.length 0) t).1, (capRun w caps (w.length + 1) (List.replicate w.length 0) t).2, 0)

theorem replicate_at (n i : Nat) : (List.replicate n (0 : Int)).getD i 0 = 0 := by
  rw [List.getD_eq_getElem?_getD, List.getElem?_replicate]; split <;> rfl
theorem cap_start {t : Int} {w caps : List Int} (ht : 0 ≤ t) (ht1 : t < 9223372036854775808) (hw : may w = true) (hc : may caps = true) (hl : caps.length = w.length) (hi : I64 caps) (hs : w.sum < 9223372036854775808) : Cap t w caps (List.replicate w.length 0) t := by
  obtain ⟨h1, h2⟩ := may_iff.1 hw
  obtain ⟨h3, h4⟩ := may_iff.1 hc
  refine ⟨h1, hl, List.length_replicate .., h2, hs, fun i => ⟨pos_getD h4 i, (getD_i64 hi i).2⟩, fun i => by rw [replicate_at]; omega, fun i _ => by rw [replicate_at]; exact pos_getD h4 i, fun i _ => replicate_at .., ht, ht1, ?_⟩
  rw [sum_zero_of (fun i _ => replicate_at ..)]; omega

theorem Capped_eq (N : Nat) (hN : 5000000 ≤ N) {t : Int} {w caps : List Int} (ht1 : t < 9223372036854775808) (hw : I64 w) (hc : I64 caps) (hl : w.length ≤ 1000000) : share_Capped N t w caps = some (cappedL t w caps) := by
  unfold share_Capped share_Capped.b cappedL
  by_cases h1 : t < 0
  · rw [ltB_t h1, cond_true, if_pos (.inl h1)]
  rw [ltB_f (by omega), cond_false, may_eq N (by omega), Option.bind_some]
  cases h2 : may w
  · rw [Bool.not_false, cond_true, if_pos (.inr (.inl rfl))]
  rw [Bool.not_true, cond_false]
  by_cases h3 : caps.length = w.length
  case neg => rw [eqB_f (by omega), Bool.not_false, cond_true, if_pos (.inr (.inr (.inl h3)))]
  rw [eqB_t (by omega), Bool.not_true, cond_false, may_eq N (by omega), Option.bind_some]
  cases h4 : may caps
  · rw [Bool.not_false, cond_true, if_pos (.inr (.inr (.inr rfl)))]
  have hp := pos_sum (may_iff.1 h2).2
  rw [Bool.not_true, cond_false, aSum_eq N hw hl (by omega), Option.bind_some, if_neg (by simp; omega)]
  by_cases h5 : 9223372036854775808 ≤ w.sum
  · rw [if_pos h5]; unfold toI; rw [if_neg (by omega)]; rfl
  rw [if_neg h5, toI_in (by omega) (by omega), Bool.not_true, cond_false, okMake_t (by omega) (by omega) (by omega), cond_true, Int.toNat_natCast]
  have h64 := (may_iff.1 h2).1
  have := opens_le w caps (List.replicate w.length 0)
  exact run_loop N hN (w.length + 1) N _ _ (cap_start (by omega) ht1 h2 h4 h3 hc (by omega)) (.inl (by omega)) (by omega)

theorem rCapped_eq (N : Nat) (hN : 5000000 ≤ N) {t : Int} {w caps : List Int} (ht1 : t < 9223372036854775808) (hw : I64 w) (hc : I64 caps) (hl : w.length ≤ 1000000) : novationref1_Capped N t w caps = some (cappedL t w caps) := by
  unfold novationref1_Capped novationref1_Capped.b cappedL
  rw [wrong_eq N (by omega), Option.bind_some]
  by_cases h1 : t < 0
  · rw [decide_eq_true h1, Bool.true_or, cond_true, if_pos (.inl h1)]
  rw [decide_eq_false h1, Bool.false_or]
  cases h2 : may w
  · rw [Bool.not_false, cond_true, if_pos (.inr (.inl rfl))]
  rw [Bool.not_true, cond_false]
  by_cases h3 : caps.length = w.length
  case neg => rw [eqB_f (by omega), Bool.not_false, cond_true, if_pos (.inr (.inr (.inl h3)))]
  rw [eqB_t (by omega), Bool.not_true, cond_false, wrong_eq N (by omega), Option.bind_some]
  cases h4 : may caps
  · rw [if_pos (.inr (.inr (.inr rfl)))]; rfl
  have hp := pos_sum (may_iff.1 h2).2
  rw [show (decide ((0 : Int) < 0) || !true) = false from rfl, cond_false, SumInts_eq N (by omega) hw hl, Option.bind_some, Int_eq, Option.bind_some, if_neg (by simp; omega)]
  by_cases h5 : 9223372036854775808 ≤ w.sum
  · rw [if_pos h5]; unfold toI; rw [if_neg (by omega)]; rfl
  rw [if_neg h5, toI_in (by omega) (by omega), Bool.not_true, cond_false, okMake_t (by omega) (by omega) (by omega), cond_true, Int.toNat_natCast]
  have h64 := (may_iff.1 h2).1
  have := rrun_loop N hN (w.length + 1) N _ _ (cap_start (by omega) ht1 h2 h4 h3 hc (by omega)) (by omega) (by omega)
  rw [Nat.sub_self] at this
  exact this
end VM
end

section
/- Plain laws: what is torn up. -/
set_option linter.unusedSimpArgs false
namespace VM
open Go VM.F
set_option linter.unusedVariables false

theorem SGet_eq (N : Nat) {l : List (Ty.den tI3)} (hl : l.length ≤ 100000) (hN : 200000 ≤ N) (a b : Int) : stock_Get N l a b = some (heldOf l a b) := by
  unfold stock_Get stock_Get.b heldOf
  rw [Stock_eq N hl hN, Option.bind_some, cond_not]
  have := lrec0 l ((0 : Int), ((0 : Int), ((0 : Int), ()))) (fun n i => stock_Get.l4 N n a b l (l.length : Int) i) (fun t => some (firstAt a b t)) (fun n i hi hr => ?_) (fun n => ?_) N (by omega)
  · rw [this]; cases okStock l <;> rfl
  · unfold stock_Get.l4 stock_Get.l4b
    rw [ltB_t (by omega), cond_true, inb_t (by omega) (by omega), cond_true, Int.toNat_natCast, W_i64 (x := (i : Int) + 1) (by omega) (by omega), natCast_succ' i, hr, cond_eqB, cond_eqB, firstAt_cons]
    split
    · split <;> rfl
    · rfl
  · unfold stock_Get.l4 stock_Get.l4b
    rw [ltB_f (by omega), cond_false]; rfl
theorem first_sum {a b : Int} : ∀ {l : List (Ty.den tI3)}, Srt (l.map keyOf) → firstAt a b l = sumAt a b l
  | [], _ => rfl
  | x :: t, h => by
    obtain ⟨h1, h2⟩ := List.pairwise_cons.1 h
    rw [firstAt_cons, sumAt_cons, ← first_sum h2]
    by_cases e1 : x.1 = a
    · by_cases e2 : x.2.1 = b
      · have hz : sumAt a b t = 0 := sumAt_zero fun y hy e => by
          have hk := h1 (keyOf y) (List.mem_map_of_mem hy)
          have he : keyOf y = keyOf x := Prod.ext (e.1.trans e1.symm) (e.2.trans e2.symm)
          rw [he] at hk
          exact kLt_irr hk
        rw [if_pos e1, if_pos e2, if_pos ⟨e1, e2⟩, first_sum h2, hz, Int.add_zero]; rfl
      · rw [if_pos e1, if_neg e2, if_neg (fun h => e2 h.2), Int.zero_add]
    · rw [if_neg e1, if_neg (fun h => e1 h.1), Int.zero_add]

def oppI (x q : Int) : Prop := ¬ ((x < 0) ↔ (q < 0))
instance (x q : Int) : Decidable (oppI x q) := by unfold oppI; infer_instance
/-- The positions on the other side. -/
def picks (a q : Int) : List (Ty.den tI3) → List (Ty.den tI3)
  | [] => []
  | x :: t => if ¬ eqI x.1 0 ∧ eqI x.2.1 a ∧ oppI (qty x) q then x :: picks a q t else picks a q t
theorem picks_cons (a q : Int) (x : Ty.den tI3) (t : List (Ty.den tI3)) : picks a q (x :: t) = if ¬ eqI x.1 0 ∧ eqI x.2.1 a ∧ oppI (qty x) q then x :: picks a q t else picks a q t := rfl
def accsL (l : List (Ty.den tI3)) : List Int := l.map fun x => x.1
def sizesL (l : List (Ty.den tI3)) : List Int := l.map fun x => ((qty x).natAbs : Int)
theorem mem_picks {a q : Int} {x : Ty.den tI3} : ∀ {l : List (Ty.den tI3)}, x ∈ picks a q l → x ∈ l ∧ ¬ eqI x.1 0 ∧ eqI x.2.1 a
  | [], h => nomatch h
  | y :: t, h => by
    rw [picks_cons] at h
    by_cases e : ¬ eqI y.1 0 ∧ eqI y.2.1 a ∧ oppI (qty y) q
    · rw [if_pos e] at h
      rcases List.mem_cons.1 h with rfl | h
      · exact ⟨List.mem_cons_self .., e.1, e.2.1⟩
      · have := mem_picks h; exact ⟨List.mem_cons_of_mem _ this.1, this.2⟩
    · rw [if_neg e] at h
      have := mem_picks h; exact ⟨List.mem_cons_of_mem _ this.1, this.2⟩
theorem picks_len (a q : Int) : ∀ l : List (Ty.den tI3), (picks a q l).length ≤ l.length
  | [] => Nat.le_refl _
  | x :: t => by
    have := picks_len a q t
    rw [picks_cons, List.length_cons]
    split
    · rw [List.length_cons]; omega
    · omega
theorem opp_key_pos {v q s h o : Int} {P Q R : Prop} [Decidable P] [Decidable Q] [Decidable R] (hR : R ↔ ¬ ((v < 0) ↔ (q < 0))) (hq : 0 < q) (hh : h - o ≤ s) :
    (if P ∧ Q then v else 0) + h - ((if ¬ P ∧ Q ∧ R then (v.natAbs : Int) else 0) + o) ≤ (if Q then v else 0) + s := by
  by_cases hQ : Q <;> by_cases hP : P <;> by_cases hR' : R <;> simp only [hP, hQ, hR', and_self, and_true, and_false, false_and, true_and, not_true, not_false_iff, if_true, if_false] <;> (rw [iff_iff_implies_and_implies] at hR; first | omega | (have h2 := hR.1 hR'; omega) | (have h2 : ¬ ¬ ((v < 0) ↔ (q < 0)) := fun e => hR' (hR.2 e); omega))
theorem opp_sum_pos {a q : Int} (hq : 0 < q) : ∀ l : List (Ty.den tI3), sumAt 0 a l - (sizesL (picks a q l)).sum ≤ (qtysIn a l).sum
  | [] => Int.le_refl _
  | x :: t => by
    have ih := opp_sum_pos (a := a) hq t
    have e1 : sumAt 0 a (x :: t) = (if eqI x.1 0 ∧ eqI x.2.1 a then qty x else 0) + sumAt 0 a t := sumAt_cons 0 a x t
    have e2 : (sizesL (picks a q (x :: t))).sum = (if ¬ eqI x.1 0 ∧ eqI x.2.1 a ∧ oppI (qty x) q then ((qty x).natAbs : Int) else 0) + (sizesL (picks a q t)).sum := by
      rw [picks_cons]
      split
      · show (((qty x).natAbs : Int) :: sizesL (picks a q t)).sum = _
        rw [List.sum_cons]
      · omega
    have e3 : (qtysIn a (x :: t)).sum = (if eqI x.2.1 a then qty x else 0) + (qtysIn a t).sum := by
      rw [qtysIn_cons]
      by_cases h : x.2.1 = a
      · rw [if_pos h, if_pos (show eqI x.2.1 a from h), List.sum_cons]
      · rw [if_neg h, if_neg (show ¬ eqI x.2.1 a from h)]; omega
    rw [e1, e2, e3]
    exact opp_key_pos Iff.rfl hq ih
theorem opp_key_neg {v q s h o : Int} {P Q R : Prop} [Decidable P] [Decidable Q] [Decidable R] (hR : R ↔ ¬ ((v < 0) ↔ (q < 0))) (hq : q < 0) (hh : s ≤ h + o) :
    (if Q then v else 0) + s ≤ (if P ∧ Q then v else 0) + h + ((if ¬ P ∧ Q ∧ R then (v.natAbs : Int) else 0) + o) := by
  by_cases hQ : Q <;> by_cases hP : P <;> by_cases hR' : R <;> simp only [hP, hQ, hR', and_self, and_true, and_false, false_and, true_and, not_true, not_false_iff, if_true, if_false] <;> (rw [iff_iff_implies_and_implies] at hR; first | omega | (have h2 := hR.1 hR'; omega) | (have h2 : ¬ ¬ ((v < 0) ↔ (q < 0)) := fun e => hR' (hR.2 e); omega))
theorem opp_sum_neg {a q : Int} (hq : q < 0) : ∀ l : List (Ty.den tI3), (qtysIn a l).sum ≤ sumAt 0 a l + (sizesL (picks a q l)).sum
  | [] => Int.le_refl _
  | x :: t => by
    have ih := opp_sum_neg (a := a) hq t
    have e1 : sumAt 0 a (x :: t) = (if eqI x.1 0 ∧ eqI x.2.1 a then qty x else 0) + sumAt 0 a t := sumAt_cons 0 a x t
    have e2 : (sizesL (picks a q (x :: t))).sum = (if ¬ eqI x.1 0 ∧ eqI x.2.1 a ∧ oppI (qty x) q then ((qty x).natAbs : Int) else 0) + (sizesL (picks a q t)).sum := by
      rw [picks_cons]
      split
      · show (((qty x).natAbs : Int) :: sizesL (picks a q t)).sum = _
        rw [List.sum_cons]
      · omega
    have e3 : (qtysIn a (x :: t)).sum = (if eqI x.2.1 a then qty x else 0) + (qtysIn a t).sum := by
      rw [qtysIn_cons]
      by_cases h : x.2.1 = a
      · rw [if_pos h, if_pos (show eqI x.2.1 a from h), List.sum_cons]
      · rw [if_neg h, if_neg (show ¬ eqI x.2.1 a from h)]; omega
    rw [e1, e2, e3]
    exact opp_key_neg Iff.rfl hq ih
theorem opp_enough {a q : Int} {l : List (Ty.den tI3)} (hs : Srt (l.map keyOf)) (hf : (qtysIn a l).sum = 0) (hq : firstAt 0 a l = q) (h0 : q ≠ 0) : (q.natAbs : Int) ≤ (sizesL (picks a q l)).sum := by
  rw [first_sum hs] at hq
  by_cases h : 0 < q
  · have := opp_sum_pos (a := a) h l
    rw [hf, hq] at this; omega
  · have := opp_sum_neg (a := a) (q := q) (by omega) l
    rw [hf, hq] at this; omega
theorem full_all {t left : Int} {w out : List Int} (f : Full t w w out left) (h : t ≤ w.sum) : left = 0 := by
  have c := f.c
  rcases f.f with e | e
  · exact e
  · have hge : w.sum ≤ out.sum := sum_le_of (by rw [c.l2]) fun i hi => by
      have h1 := e i hi
      have h2 := pos_getD c.pw i
      have h3 := c.po i
      by_cases h4 : 0 < w.getD i 0
      · have : ¬ out.getD i 0 < w.getD i 0 := fun h5 => h1 ⟨h4, h5⟩
        omega
      · omega
    have := c.s
    have := c.l
    omega

def sg (q x : Int) : Int := if q < 0 then 0 - x else x
/-- The shifts of who bears. -/
def zc (a q : Int) : List (Int × Int) → List (Ty.den tI3)
  | [] => []
  | p :: t => if sg q p.1 = 0 then zc a q t else (p.2, (a, (sg q p.1, ()))) :: zc a q t
theorem zc_cons (a q : Int) (p : Int × Int) (t : List (Int × Int)) : zc a q (p :: t) = if sg q p.1 = 0 then zc a q t else (p.2, (a, (sg q p.1, ()))) :: zc a q t := rfl
def capOf (l : List (Ty.den tI3)) (a q : Int) : List Int × Int × Int := cappedL (q.natAbs : Int) (sizesL (picks a q l)) (sizesL (picks a q l))
def cutS (l : List (Ty.den tI3)) (a q : Int) : List (Ty.den tI3) := ((0 : Int), (a, ((0 - q : Int), ()))) :: zc a q ((capOf l a q).1.zip (accsL (picks a q l)))
def cutsOf (c : Ty.den tConfig) (b : Ty.den tBook) (a : Int) : List (Ty.den tI3) × Int :=
  if okBook c b then (if a < 0 then ([], 3) else if (c.1.length : Int) ≤ a then ([], 3) else if heldOf b.2.2.2.1 0 a = 0 then ([], 0) else
    if (capOf b.2.2.2.1 a (heldOf b.2.2.2.1 0 a)).2.2 = 0 then (cutS b.2.2.2.1 a (heldOf b.2.2.2.1 0 a), 0) else ([], (capOf b.2.2.2.1 a (heldOf b.2.2.2.1 0 a)).2.2)) else ([], 1)
theorem capped_len {t : Int} {w caps : List Int} (ht1 : t < 9223372036854775808) (hc : I64 caps) (hx : (cappedL t w caps).2.2 = 0) : Full t w caps (cappedL t w caps).1 (cappedL t w caps).2.1 := by
  unfold cappedL at *
  by_cases h1 : t < 0 ∨ may w = false ∨ caps.length ≠ w.length ∨ may caps = false
  · rw [if_pos h1] at hx; exact absurd hx (by decide)
  · rw [if_neg h1] at hx ⊢
    by_cases h2 : 9223372036854775808 ≤ w.sum
    · rw [if_pos h2] at hx; exact absurd hx (by decide)
    · rw [if_neg h2]
      have h3 : may w = true := by cases h : may w <;> simp_all
      have h4 : may caps = true := by cases h : may caps <;> simp_all
      have h5 : caps.length = w.length := Decidable.byContradiction fun h => h1 (Or.inr (Or.inr (Or.inl h)))
      exact run_full _ _ _ (cap_start (by omega) ht1 h3 h4 h5 hc (by omega)) (Or.inl (by have := opens_le w caps (List.replicate w.length 0); omega))
theorem sizes_i64 {l : List (Ty.den tI3)} (h : ∀ x ∈ l, In64 (qty x) ∧ okQ (qty x)) (a q : Int) : I64 (sizesL (picks a q l)) := fun z hz => by
  obtain ⟨x, hx, rfl⟩ := List.mem_map.1 hz
  have := h x (mem_picks hx).1
  have g : ∀ v : Int, In64 v ∧ okQ v → -9223372036854775808 ≤ (v.natAbs : Int) ∧ (v.natAbs : Int) < 9223372036854775808 := fun v hv => by unfold In64 okQ at hv; omega
  exact g _ this
theorem zip_at {out accs : List Int} {i : Nat} (h1 : i < out.length) (h2 : i < accs.length) : (out.zip accs).getD i (0, 0) = (out.getD i 0, accs.getD i 0) := by
  rw [List.getD_eq_getElem?_getD, List.getElem?_eq_getElem (by rw [List.length_zip]; omega), List.getElem_zip, List.getD_eq_getElem?_getD, List.getElem?_eq_getElem h1, List.getD_eq_getElem?_getD, List.getElem?_eq_getElem h2]; rfl
end VM
end

