/- A part of the proof of HedgeAll of layer 22: what the functions compute, in plain words. -/
import Derived.Test.YthpchkeghefokaaGreatPlain1
set_option linter.all false
section
/- Plain laws: the sum of all rows. -/
set_option linter.unusedSimpArgs false
set_option linter.unusedVariables false
namespace VM
open Go VM.F

def qty (r : vtI3) : Int := r.2.2.1
def In64 (x : Int) : Prop := -9223372036854775808 ≤ x ∧ x < 9223372036854775808
def Qty64 (l : wtI3) : Prop := ∀ x ∈ l, In64 (qty x)
theorem qty_at {l : wtI3} (h : Qty64 l) (i : Nat) : In64 (qty (l.getD i zz3)) := by
  by_cases hi : i < l.length
  · rw [List.getD_eq_getElem?_getD, List.getElem?_eq_getElem hi]; exact h _ (List.getElem_mem hi)
  · rw [List.getD_eq_getElem?_getD, List.getElem?_eq_none (by omega)]; exact ⟨by decide, by decide⟩
theorem sum64 {ws : List Int} (h : ∀ x ∈ ws, In64 x) : -(9223372036854775808 * (ws.length : Int)) ≤ ws.sum ∧ ws.sum ≤ 9223372036854775808 * (ws.length : Int) := sum_fit ws h
theorem sum_in128 {ws : List Int} (h : ∀ x ∈ ws, In64 x) (hl : ws.length ≤ 1000000) : In128 ws.sum := by
  have := sum64 h
  unfold In128; omega
theorem all_in128 {ws : List Int} (h : ∀ x ∈ ws, In64 x) : ∀ x ∈ ws, In128 x := fun x hx => by
  have := h x hx
  unfold In64 at this; unfold In128; omega
theorem wSum64 (N : Nat) {ws : List Int} (h : ∀ x ∈ ws, In64 x) (hl : ws.length ≤ 1000000) (hN : 1000000 < N) : F183 N (ws.map wideN) = some (wideN ws.sum, true) := by
  rw [wSum_eq N (all_in128 h) hl hN]
  unfold sumW
  rw [if_pos (sum_in128 h hl)]

def totalOf (l : wtI3) : Int := if okRows l then (l.map qty).sum else 0
theorem total_loop (N : Nat) {l : wtI3} (hq : Qty64 l) (hl : l.length ≤ 100000) (hN : 2000000 ≤ N) : F112.l5 N N zz2 [] l (l.length : Int) 0 = some (wideN (l.map qty).sum) := by
  have := lrec l zz3 (fun n i ws => F112.l5 N n zz2 (ws.map wideN) l (l.length : Int) i) (fun t ws => some (wideN (ws ++ t.map qty).sum)) (fun i (ws : List Int) => ws.length = i ∧ ∀ x ∈ ws, In64 x)
    (fun n i ws hi hI hr => ?_) (fun n ws hI => ?_) l.length N 0 [] (by omega) (by omega) (by omega) ⟨rfl, fun x hx => nomatch hx⟩
  · simpa using this
  · unfold F112.l5 F112.l5b
    have h64 := qty_at hq i
    have h64' := h64
    unfold In64 qty at h64'
    rw [ltB_t (by omega), cond_true, inb_t (by omega) (by omega), cond_true, Int.toNat_natCast, wOf_eq N h64'.1 h64'.2, Option.bind_some, small_t (by rw [List.length_map, List.length_singleton]; omega), cond_true, W_i64 (by omega) (by omega), natCast_succ']
    have := hr (ws ++ [qty (l.getD i zz3)]) ⟨by rw [List.length_append, hI.1]; rfl, fun x hx => by
      rcases List.mem_append.1 hx with hx | hx
      · exact hI.2 x hx
      · rw [List.mem_singleton.1 hx]; exact h64⟩
    rw [List.map_append] at this
    refine this.trans ?_
    rw [List.map_cons, List.append_assoc]; rfl
  · unfold F112.l5 F112.l5b
    rw [ltB_f (by omega), cond_false, wSum64 N hI.2 (by omega) (by omega), Option.bind_some, List.map_nil, List.append_nil]
theorem Total_eq (N : Nat) {l : wtI3} (hq : Qty64 l) (hl : l.length ≤ 100000) (hN : 2000000 ≤ N) : F112 N l = some (wideN (totalOf l)) := by
  unfold F112 F112.b totalOf
  rw [Rows_eq N hl (by omega), Option.bind_some, cond_not, total_loop N hq hl hN]
  cases okRows l <;> rfl

theorem rtotal_loop (N : Nat) {l : wtI3} (hq : Qty64 l) (hl : l.length ≤ 100000) (hN : 4000000 ≤ N) : F136.l5 N N l (bigN 0) (bigN 0) 0 = some (bigN (l.map qty).sum) := by
  have := lrec l zz3 (fun n i ws => F136.l5 N n l (bigN 0) (bigN ws.sum) i) (fun t ws => some (bigN (ws ++ t.map qty).sum)) (fun i (ws : List Int) => ws.length = i ∧ ∀ x ∈ ws, In64 x)
    (fun n i ws hi hI hr => ?_) (fun n ws hI => ?_) l.length N 0 [] (by omega) (by omega) (by omega) ⟨rfl, fun x hx => nomatch hx⟩
  · simpa using this
  · unfold F136.l5 F136.l5b
    have h64 := qty_at hq i
    have h64' := h64
    unfold In64 qty at h64'
    have hb := sum64 hI.2
    rw [hI.1] at hb
    rw [ltB_t (by omega), cond_true, inb_t (by omega) (by omega), cond_true, Int.toNat_natCast, Whole_eq N (by omega) h64'.1 h64'.2, Option.bind_some, Plus_eq N (by omega) ((fit_sum (n := i) (by omega) hb.1 hb.2).mono (by omega)) ((Fit.i64 h64'.1 h64'.2).mono (by omega)), Option.bind_some, W_i64 (by omega) (by omega), natCast_succ']
    have := hr (ws ++ [qty (l.getD i zz3)]) ⟨by rw [List.length_append, hI.1]; rfl, fun x hx => by
      rcases List.mem_append.1 hx with hx | hx
      · exact hI.2 x hx
      · rw [List.mem_singleton.1 hx]; exact h64⟩
    rw [List.sum_append, List.sum_cons, List.sum_nil, Int.add_zero] at this
    refine this.trans ?_
    rw [List.map_cons, List.append_assoc]; rfl
  · unfold F136.l5 F136.l5b
    rw [ltB_f (by omega), cond_false, List.map_nil, List.append_nil]
theorem rTotal_eq (N : Nat) {l : wtI3} (hq : Qty64 l) (hl : l.length ≤ 100000) (hN : 4000000 ≤ N) : F136 N l = some (bigN (totalOf l)) := by
  unfold F136 F136.b totalOf
  rw [rRows_eq N hl (by omega), Option.bind_some, cond_not]
  have := rtotal_loop N hq hl hN
  rw [bigN_zero] at this
  rw [this]
  cases okRows l
  · rw [cond_false]; exact congrArg some bigN_zero.symm
  · rfl
end VM
end

section
/- Plain laws: the sums of positions. -/
set_option linter.unusedSimpArgs false
set_option linter.unusedVariables false
namespace VM
open Go VM.F

/-- The quantities in an instrument. -/
def qtysIn (inst : Int) : wtI3 → List Int
  | [] => []
  | x :: t => if x.2.1 = inst then qty x :: qtysIn inst t else qtysIn inst t
theorem qtysIn_cons (inst : Int) (x : vtI3) (t : wtI3) : qtysIn inst (x :: t) = if x.2.1 = inst then qty x :: qtysIn inst t else qtysIn inst t := rfl

theorem ssum_loop (N : Nat) {l : wtI3} (hq : Qty64 l) (hl : l.length ≤ 100000) (hN : 2000000 ≤ N) (inst : Int) : F198.l5 N N inst zz2 [] l (l.length : Int) 0 = some (wideN (qtysIn inst l).sum) := by
  have := lrec l zz3 (fun n i ws => F198.l5 N n inst zz2 (ws.map wideN) l (l.length : Int) i) (fun t ws => some (wideN (ws ++ qtysIn inst t).sum)) (fun i (ws : List Int) => ws.length ≤ i ∧ ∀ x ∈ ws, In64 x)
    (fun n i ws hi hI hr => ?_) (fun n ws hI => ?_) l.length N 0 [] (by omega) (by omega) (by omega) ⟨Nat.le_refl _, fun x hx => nomatch hx⟩
  · simpa using this
  · unfold F198.l5 F198.l5b
    have h64 := qty_at hq i
    have h64' := h64
    unfold In64 qty at h64'
    rw [ltB_t (by omega), cond_true, inb_t (by omega) (by omega), cond_true, Int.toNat_natCast, wOf_eq N h64'.1 h64'.2, Option.bind_some, small_t (by rw [List.length_map, List.length_singleton]; omega), cond_true, W_i64 (by omega) (by omega), natCast_succ', cond_eqB, qtysIn_cons]
    split
    · have := hr (ws ++ [qty (l.getD i zz3)]) ⟨by rw [List.length_append, List.length_singleton]; omega, fun x hx => by
        rcases List.mem_append.1 hx with hx | hx
        · exact hI.2 x hx
        · rw [List.mem_singleton.1 hx]; exact h64⟩
      rw [List.map_append] at this
      refine this.trans ?_
      rw [List.append_assoc]; rfl
    · exact hr ws ⟨by omega, hI.2⟩
  · unfold F198.l5 F198.l5b
    rw [ltB_f (by omega), cond_false, wSum64 N hI.2 (by omega) (by omega), Option.bind_some]
    show _ = some (wideN (ws ++ []).sum)
    rw [List.append_nil]
def instSum (l : wtI3) (inst : Int) : Int := if okStock l then (qtysIn inst l).sum else 0
theorem sSum_eq (N : Nat) {l : wtI3} (hq : Qty64 l) (hl : l.length ≤ 100000) (hN : 2000000 ≤ N) (inst : Int) : F198 N l inst = some (wideN (instSum l inst)) := by
  unfold F198 F198.b instSum
  rw [Stock_eq N hl (by omega), Option.bind_some, cond_not, ssum_loop N hq hl hN]
  cases okStock l <;> rfl

theorem rssum_loop (N : Nat) {l : wtI3} (hq : Qty64 l) (hl : l.length ≤ 100000) (hN : 4000000 ≤ N) (inst : Int) : F208.l5 N N l inst (bigN 0) (bigN 0) 0 = some (bigN (qtysIn inst l).sum) := by
  have := lrec l zz3 (fun n i ws => F208.l5 N n l inst (bigN 0) (bigN ws.sum) i) (fun t ws => some (bigN (ws ++ qtysIn inst t).sum)) (fun i (ws : List Int) => ws.length ≤ i ∧ ∀ x ∈ ws, In64 x)
    (fun n i ws hi hI hr => ?_) (fun n ws hI => ?_) l.length N 0 [] (by omega) (by omega) (by omega) ⟨Nat.le_refl _, fun x hx => nomatch hx⟩
  · simpa using this
  · unfold F208.l5 F208.l5b
    have h64 := qty_at hq i
    have h64' := h64
    unfold In64 qty at h64'
    have hb := sum64 hI.2
    rw [ltB_t (by omega), cond_true, inb_t (by omega) (by omega), cond_true, cond_true, Int.toNat_natCast, Whole_eq N (by omega) h64'.1 h64'.2, Option.bind_some, Plus_eq N (by omega) ((fit_sum (n := ws.length) (by omega) hb.1 hb.2).mono (by omega)) ((Fit.i64 h64'.1 h64'.2).mono (by omega)), Option.bind_some, W_i64 (by omega) (by omega), natCast_succ', cond_eqB, qtysIn_cons]
    split
    · have := hr (ws ++ [qty (l.getD i zz3)]) ⟨by rw [List.length_append, List.length_singleton]; omega, fun x hx => by
        rcases List.mem_append.1 hx with hx | hx
        · exact hI.2 x hx
        · rw [List.mem_singleton.1 hx]; exact h64⟩
      rw [List.sum_append, List.sum_cons, List.sum_nil, Int.add_zero] at this
      refine this.trans ?_
      rw [List.append_assoc]; rfl
    · exact hr ws ⟨by omega, hI.2⟩
  · unfold F208.l5 F208.l5b
    rw [ltB_f (by omega), cond_false]
    show _ = some (bigN (ws ++ []).sum)
    rw [List.append_nil]
theorem rSumInst_eq (N : Nat) {l : wtI3} (hq : Qty64 l) (hl : l.length ≤ 100000) (hN : 4000000 ≤ N) (inst : Int) : F208 N l inst = some (bigN (instSum l inst)) := by
  unfold F208 F208.b instSum
  rw [rStock_eq N hl (by omega), Option.bind_some, cond_not]
  have := rssum_loop N hq hl hN inst
  rw [bigN_zero] at this
  rw [this]
  cases okStock l
  · rw [cond_false]; exact congrArg some bigN_zero.symm
  · rfl

def flatAt (l : wtI3) (i : Nat) : Prop := eqI (instSum l (i : Int)) 0
instance (l : wtI3) : DecidablePred (flatAt l) := fun i => by unfold flatAt; infer_instance
def nInsts : Nat := 6
def okFlat (l : wtI3) : Bool := decide (∀ j, j < nInsts → flatAt l j) && okStock l
theorem sgn_zero {x : Int} : sgn x = 0 ↔ x = 0 := by unfold sgn; split <;> (try split) <;> omega
theorem Flat_eq (N : Nat) {l : wtI3} (hq : Qty64 l) (hl : l.length ≤ 100000) (hN : 2000000 ≤ N) : F113 N l = some (okFlat l) := by
  unfold F113 F113.b
  refine scan0 (len := nInsts) (F := fun n i => F113.l2 N n l i) (flatAt l) (fun n i r hi hp hr => ?_) (fun n => ?_) N (by unfold nInsts; omega)
  · unfold F113.l2 F113.l2b
    unfold nInsts at hi
    rw [ltB_t (by omega), cond_true, sSum_eq N hq hl hN, Option.bind_some, wSign_eq, Option.bind_some, cond_not, cond_eqB, W_i64 (by omega) (by omega), natCast_succ', hr]
    by_cases hP : flatAt l i
    · rw [if_pos hP, if_pos (sgn_zero.2 hP)]
    · rw [if_neg hP, if_neg (fun h => hP (sgn_zero.1 h))]
  · unfold F113.l2 F113.l2b
    rw [ltB_f (by unfold nInsts; omega), cond_false, Stock_eq N hl (by omega), Option.bind_some]
theorem rFlat_eq (N : Nat) {l : wtI3} (hq : Qty64 l) (hl : l.length ≤ 100000) (hN : 4000000 ≤ N) : F133 N l = some (okFlat l) := by
  unfold F133 F133.b
  refine scan0 (len := nInsts) (F := fun n i => F133.l2 N n l i) (flatAt l) (fun n i r hi hp hr => ?_) (fun n => ?_) N (by unfold nInsts; omega)
  · unfold F133.l2 F133.l2b
    unfold nInsts at hi
    rw [ltB_t (by omega), cond_true, rSumInst_eq N hq hl hN, Option.bind_some, Sign_eq, Option.bind_some, cond_not, cond_eqB, W_i64 (by omega) (by omega), natCast_succ', hr]
    by_cases hP : flatAt l i
    · rw [if_pos hP, if_pos (sgn_zero.2 hP)]
    · rw [if_neg hP, if_neg (fun h => hP (sgn_zero.1 h))]
  · unfold F133.l2 F133.l2b
    rw [ltB_f (by unfold nInsts; omega), cond_false, rStock_eq N hl (by omega), Option.bind_some]
end VM
end

section
/- Plain laws: books: what rows, positions, orders are about. -/
set_option linter.unusedSimpArgs false
set_option linter.unusedVariables false
namespace VM
open Go VM.F

def okRowOf (m : wtI2) (a : wtI4) (l : wtI3) (i : Nat) : Prop :=
  (eqI (l.getD i zz3).1 5 → (findOf a (l.getD i zz3).2.1).2 = true) ∧ (eqI (l.getD i zz3).1 6 ∨ eqI (l.getD i zz3).1 7 → ¬ eqI (statusOf m (l.getD i zz3).2.1) 0)
instance (m : wtI2) (a : wtI4) (l : wtI3) : DecidablePred (okRowOf m a l) := fun i => by unfold okRowOf; infer_instance

theorem Acc_eq (N : Nat) (b : vtBook) (hl : b.2.1.length ≤ 100000) (hN : 200000 ≤ N) (id : Int) : F97 N b id = some (findOf b.2.1 id).2 := by
  unfold F97
  rw [Find_eq N hl hN, Option.bind_some]

theorem rows_step {k : Int} {f : Bool} {z : Int} {r : Option Bool} : cond (eqB k 5) (cond (!f) (some false) r) (cond (eqB k 6) (cond (eqB z 0) (some false) r) (cond (eqB k 7) (cond (eqB z 0) (some false) r) r)) =
    if (eqI k 5 → f = true) ∧ (eqI k 6 ∨ eqI k 7 → ¬ eqI z 0) then r else some false := by
  unfold eqI
  rw [cond_eqB, cond_eqB, cond_eqB, cond_eqB, cond_not]
  by_cases h5 : k = 5
  · have h6 : ¬ (k = 6) := by omega
    have h7 : ¬ (k = 7) := by omega
    cases f <;> simp [h5, h6, h7]
  · by_cases h6 : k = 6
    · by_cases hz : z = 0 <;> simp [h5, h6, hz]
    · by_cases h7 : k = 7
      · by_cases hz : z = 0 <;> simp [h5, h6, h7, hz]
      · simp [h5, h6, h7]

theorem bookRows_loop (N : Nat) (hN : 200000 ≤ N) (c : vtConfig) (b : vtBook) (hm : b.1.length ≤ 100000) (ha : b.2.1.length ≤ 100000) (hl : b.2.2.1.length ≤ 100000) {e : Bool}
    (he : F39.l16 N N c b b.2.2.2.1 (b.2.2.2.1.length : Int) 0 = some e) : F39.l4 N N c b b.2.2.1 (b.2.2.1.length : Int) 0 = some (decide (∀ j, j < b.2.2.1.length → okRowOf b.1 b.2.1 b.2.2.1 j) && e) := by
  refine scan0 (F := fun n i => F39.l4 N n c b b.2.2.1 (b.2.2.1.length : Int) i) (okRowOf b.1 b.2.1 b.2.2.1) (fun n i r hi hp hr => ?_) (fun n => ?_) N (by omega)
  · unfold F39.l4 F39.l4b
    rw [ltB_t (by omega), cond_true, inb_t (by omega) (by omega), cond_true, Int.toNat_natCast, W_i64 (x := (i : Int) + 1) (by omega) (by omega), natCast_succ', hr]
    simp only [Acc_eq N b ha hN, Status_eq N hm hN, Option.bind_some]
    rw [rows_step]
    rfl
  · unfold F39.l4 F39.l4b
    rw [ltB_f (by omega), cond_false]; exact he

def ltI (a b : Int) : Prop := a < b
instance (a b : Int) : Decidable (ltI a b) := by unfold ltI; infer_instance
def okPosOf (c : vtConfig) (a : wtI4) (l : wtI3) (i : Nat) : Prop :=
  (eqI (l.getD i zz3).1 0 ∨ (findOf a (l.getD i zz3).1).2 = true) ∧ ltI (l.getD i zz3).2.1 c.1.length
instance (c : vtConfig) (a : wtI4) (l : wtI3) : DecidablePred (okPosOf c a l) := fun i => by unfold okPosOf; infer_instance
theorem pos_step {k x n : Int} {f : Bool} {r : Option Bool} : cond (!eqB k 0) (cond (!f) (some false) (cond (leB n x) (some false) r)) (cond (leB n x) (some false) r) = if (eqI k 0 ∨ f = true) ∧ ltI x n then r else some false := by
  unfold eqI ltI
  rw [cond_not, cond_eqB, cond_leB, cond_not]
  by_cases h0 : k = 0
  · by_cases hx : n ≤ x
    · have : ¬ x < n := by omega
      simp [h0, hx, this]
    · have : x < n := by omega
      simp [h0, hx, this]
  · by_cases hx : n ≤ x
    · have : ¬ x < n := by omega
      cases f <;> simp [h0, hx, this]
    · have : x < n := by omega
      cases f <;> simp [h0, hx, this]
theorem bookPos_loop (N : Nat) (hN : 200000 ≤ N) (c : vtConfig) (b : vtBook) (ha : b.2.1.length ≤ 100000) (hl : b.2.2.2.1.length ≤ 100000) {e : Bool}
    (he : F39.l22 N N c b b.2.2.2.2.2.1 (b.2.2.2.2.2.1.length : Int) 0 = some e) : F39.l16 N N c b b.2.2.2.1 (b.2.2.2.1.length : Int) 0 = some (decide (∀ j, j < b.2.2.2.1.length → okPosOf c b.2.1 b.2.2.2.1 j) && e) := by
  refine scan0 (F := fun n i => F39.l16 N n c b b.2.2.2.1 (b.2.2.2.1.length : Int) i) (okPosOf c b.2.1 b.2.2.2.1) (fun n i r hi hp hr => ?_) (fun n => ?_) N (by omega)
  · unfold F39.l16 F39.l16b
    rw [ltB_t (by omega), cond_true, inb_t (by omega) (by omega), cond_true, Int.toNat_natCast, W_i64 (x := (i : Int) + 1) (by omega) (by omega), natCast_succ', hr]
    simp only [Acc_eq N b ha hN, Option.bind_some]
    rw [pos_step]
    rfl
  · unfold F39.l16 F39.l16b
    rw [ltB_f (by omega), cond_false]; exact he
end VM
end

section
/- Plain laws: books: orders and prices; whether a book may be. -/
set_option linter.unusedSimpArgs false
set_option linter.unusedVariables false
namespace VM
open Go VM.F

def okPrice (l : List Int) (i : Nat) : Prop := 1 ≤ l.getD i 0 ∧ l.getD i 0 ≤ 1000000000000
instance (l : List Int) : DecidablePred (okPrice l) := fun i => by unfold okPrice; infer_instance
def okPrices (l : List Int) : Bool := decide (∀ j, j < l.length → okPrice l j)

theorem bad_eq (N : Nat) (p : Int) : F116 N p = some (!decide (1 ≤ p ∧ p ≤ 1000000000000)) := by
  unfold F116
  rw [mprice_eq, Option.bind_some]
theorem price_loop (N : Nat) {l : List Int} (hl : l.length ≤ 100000) : ∀ (m n i : Nat), l.length - i ≤ m → m < n → i ≤ l.length → (∀ j, j < i → okPrice l j) →
    ∃ r, F199.l2 N n l () (l.length : Int) (i : Int) = some r ∧ (leB 0 r = !okPrices l)
  | m, 0, i, _, hn, _, _ => by omega
  | m, n + 1, i, hm, hn, hi, hp => by
    unfold F199.l2 F199.l2b
    by_cases h : i < l.length
    · rw [ltB_t (by omega), cond_true, inb_t (by omega) (by omega), cond_true, Int.toNat_natCast, bad_eq, Option.bind_some, cond_not, cond_dec]
      by_cases hP : okPrice l i
      · have hP' := hP
        unfold okPrice at hP'
        rw [if_pos hP', W_i64 (by omega) (by omega)]
        exact price_loop N hl (m - 1) n (i + 1) (by omega) (by omega) (by omega) (fun j hj => by
          by_cases hji : j = i
          · subst hji; exact hP
          · exact hp j (by omega))
      · have hP' := hP
        unfold okPrice at hP'
        rw [if_neg hP']
        refine ⟨_, rfl, ?_⟩
        rw [leB_t (by omega)]
        unfold okPrices
        rw [decide_eq_false (fun h' => hP (h' i h))]; rfl
    · rw [ltB_f (by omega), cond_false]
      refine ⟨_, rfl, ?_⟩
      rw [leB_f (by omega)]
      unfold okPrices
      rw [decide_eq_true (fun j hj => hp j (by omega))]; rfl
theorem prices_eq (N : Nat) {l : List Int} (hl : l.length ≤ 100000) (hN : 200000 ≤ N) : F115 N l () = some (!okPrices l) := by
  unfold F115 F199 F199.b
  obtain ⟨r, e, h⟩ := price_loop N hl l.length N 0 (by omega) (by omega) (by omega) (fun j hj => absurd hj (by omega))
  rw [show ((0 : Nat) : Int) = 0 from rfl] at e
  rw [e, Option.bind_some, h]

def okOrdOf (c : vtConfig) (a : wtI4) (l : wtI6) (i : Nat) : Prop :=
  (findOf a (l.getD i zz6).2.1).2 = true ∧ ltI (l.getD i zz6).2.2.1 c.1.length
instance (c : vtConfig) (a : wtI4) (l : wtI6) : DecidablePred (okOrdOf c a l) := fun i => by unfold okOrdOf; infer_instance
theorem ord_step {x n : Int} {f : Bool} {r : Option Bool} : cond (!f) (some false) (cond (leB n x) (some false) r) = if f = true ∧ ltI x n then r else some false := by
  unfold ltI
  rw [cond_leB, cond_not]
  by_cases hx : n ≤ x
  · have : ¬ x < n := by omega
    cases f <;> simp [hx, this]
  · have : x < n := by omega
    cases f <;> simp [hx, this]
theorem bookOrd_loop (N : Nat) (hN : 200000 ≤ N) (c : vtConfig) (b : vtBook) (ha : b.2.1.length ≤ 100000) (hl : b.2.2.2.2.2.1.length ≤ 100000) (hp : b.2.2.2.2.1.length ≤ 100000) :
    F39.l22 N N c b b.2.2.2.2.2.1 (b.2.2.2.2.2.1.length : Int) 0 = some (decide (∀ j, j < b.2.2.2.2.2.1.length → okOrdOf c b.2.1 b.2.2.2.2.2.1 j) && okPrices b.2.2.2.2.1) := by
  refine scan0 (F := fun n i => F39.l22 N n c b b.2.2.2.2.2.1 (b.2.2.2.2.2.1.length : Int) i) (okOrdOf c b.2.1 b.2.2.2.2.2.1) (fun n i r hi hp' hr => ?_) (fun n => ?_) N (by omega)
  · unfold F39.l22 F39.l22b
    rw [ltB_t (by omega), cond_true, inb_t (by omega) (by omega), cond_true, Int.toNat_natCast, W_i64 (x := (i : Int) + 1) (by omega) (by omega), natCast_succ', hr]
    simp only [Acc_eq N b ha hN, Option.bind_some]
    rw [ord_step]
    rfl
  · unfold F39.l22 F39.l22b
    rw [ltB_f (by omega), cond_false, prices_eq N hp hN, Option.bind_some, Bool.not_not]

/-- A book that may be. -/
def okBook (c : vtConfig) (b : vtBook) : Bool :=
  okPlan c && (okRoll b.1 b.2.1 && (okRows b.2.2.1 && (decide (eqI (totalOf b.2.2.1) 0) && (okFlat b.2.2.2.1 && (okOrders b.2.2.2.2.2.1 && (decide (eqI b.2.2.2.2.1.length c.1.length) &&
    (decide (∀ j, j < b.2.2.1.length → okRowOf b.1 b.2.1 b.2.2.1 j) && (decide (∀ j, j < b.2.2.2.1.length → okPosOf c b.2.1 b.2.2.2.1 j) && (decide (∀ j, j < b.2.2.2.2.2.1.length → okOrdOf c b.2.1 b.2.2.2.2.2.1 j) && okPrices b.2.2.2.2.1)))))))))
/-- A book of a size. -/
structure BookWf (b : vtBook) : Prop where
  m : b.1.length ≤ 100000
  a : b.2.1.length ≤ 100000
  r : b.2.2.1.length ≤ 100000
  s : b.2.2.2.1.length ≤ 100000
  p : b.2.2.2.2.1.length ≤ 100000
  o : b.2.2.2.2.2.1.length ≤ 100000
  qr : Qty64 b.2.2.1
  qs : Qty64 b.2.2.2.1
theorem and_some {x : Bool} {r : Option Bool} {y : Bool} (h : r = some y) : cond (!x) (some false) r = some (x && y) := by subst h; cases x <;> rfl
theorem Book_eq (N : Nat) (hN : 4000000 ≤ N) {c : vtConfig} {b : vtBook} (w : BookWf b) : F39 N c b = some (okBook c b) := by
  unfold F39 F39.b okBook
  rw [Plan_eq N (by omega), Option.bind_some]
  refine and_some ?_
  rw [Roll_eq N w.m w.a (by omega), Option.bind_some]
  refine and_some ?_
  rw [Rows_eq N w.r (by omega), Option.bind_some]
  refine and_some ?_
  rw [Total_eq N w.qr w.r (by omega), Option.bind_some, wSign_eq, Option.bind_some]
  have e0 : eqB (sgn (totalOf b.2.2.1)) 0 = decide (eqI (totalOf b.2.2.1) 0) := by rw [eqB_eq, decide_eq_decide]; exact sgn_zero
  rw [e0]
  refine and_some ?_
  rw [Flat_eq N w.qs w.s (by omega), Option.bind_some]
  refine and_some ?_
  rw [Orders_eq N w.o (by omega), Option.bind_some]
  refine and_some ?_
  rw [eqB_eq]
  refine and_some ?_
  exact bookRows_loop N (by omega) c b w.m w.a w.r (bookPos_loop N (by omega) c b w.a w.s (bookOrd_loop N (by omega) c b w.a w.o w.p))
end VM
end

section
/- Plain laws: books, as the document has them. -/
set_option linter.unusedSimpArgs false
set_option linter.unusedVariables false
namespace VM
open Go VM.F

theorem there_eq (N : Nat) (b : vtBook) (hl : b.2.1.length ≤ 100000) (hN : 200000 ≤ N) (id : Int) : F120 N b id = some ((findOf b.2.1 id).2 || decide (eqI id 0)) := by
  unfold F120
  rw [rFind_eq N hl hN, Option.bind_some, eqB_eq]
  cases (findOf b.2.1 id).2 <;> rfl
theorem rrows_step {k : Int} {f : Bool} {z : Int} {r : Option Bool} : cond (eqB k 5) (cond (!f) (some false) (cond (eqB k 6) (cond (eqB z 0) (some false) r) (cond (eqB k 7) (cond (eqB z 0) (some false) r) r))) (cond (eqB k 6) (cond (eqB z 0) (some false) r) (cond (eqB k 7) (cond (eqB z 0) (some false) r) r)) =
    if (eqI k 5 → f = true) ∧ (eqI k 6 ∨ eqI k 7 → ¬ eqI z 0) then r else some false := by
  unfold eqI
  rw [cond_eqB, cond_eqB, cond_eqB, cond_eqB, cond_not]
  by_cases h5 : k = 5
  · have h6 : ¬ (k = 6) := by omega
    have h7 : ¬ (k = 7) := by omega
    cases f <;> simp [h5, h6, h7]
  · by_cases h6 : k = 6
    · by_cases hz : z = 0 <;> simp [h5, h6, hz]
    · by_cases h7 : k = 7
      · by_cases hz : z = 0 <;> simp [h5, h6, h7, hz]
      · simp [h5, h6, h7]
theorem rbookOrd_loop (N : Nat) (hN : 200000 ≤ N) (c : vtConfig) (b : vtBook) (ha : b.2.1.length ≤ 100000) (hl : b.2.2.2.2.2.1.length ≤ 100000) (ho : okOrders b.2.2.2.2.2.1 = true) :
    F52.l22 N N c b 0 = some (decide (∀ j, j < b.2.2.2.2.2.1.length → okOrdOf c b.2.1 b.2.2.2.2.2.1 j) && true) := by
  refine scan0 (F := fun n i => F52.l22 N n c b i) (okOrdOf c b.2.1 b.2.2.2.2.2.1) (fun n i r hi hp' hr => ?_) (fun n => ?_) N (by omega)
  · unfold F52.l22 F52.l22b
    unfold okOrders at ho
    rw [Bool.and_eq_true, decide_eq_true_iff] at ho
    have h1 := (ho.1 i hi).1
    unfold okOrd okOrd6 at h1
    have h2 : decide (eqI (b.2.2.2.2.2.1.getD i zz6).2.1 0) = false := decide_eq_false (by unfold eqI; omega)
    rw [ltB_t (by omega), cond_true, inb_t (by omega) (by omega), cond_true, Int.toNat_natCast, W_i64 (x := (i : Int) + 1) (by omega) (by omega), natCast_succ', hr]
    simp only [there_eq N b ha hN, Option.bind_some, cond_true]
    rw [h2, Bool.or_false, ord_step]
    rfl
  · unfold F52.l22 F52.l22b
    rw [ltB_f (by omega), cond_false]
theorem rbookPrice_loop (N : Nat) (hN : 200000 ≤ N) (c : vtConfig) (b : vtBook) (hl : b.2.2.2.2.1.length ≤ 100000) {e : Bool} (he : F52.l22 N N c b 0 = some e) :
    F52.l17 N N c b 0 = some (okPrices b.2.2.2.2.1 && e) := by
  refine scan0 (F := fun n i => F52.l17 N n c b i) (okPrice b.2.2.2.2.1) (fun n i r hi hp' hr => ?_) (fun n => ?_) N (by omega)
  · unfold F52.l17 F52.l17b
    rw [ltB_t (by omega), cond_true, inb_t (by omega) (by omega), cond_true, Int.toNat_natCast, W_i64 (x := (i : Int) + 1) (by omega) (by omega), natCast_succ', hr, rprice_eq, Option.bind_some, cond_not, cond_dec]
    rfl
  · unfold F52.l17 F52.l17b
    rw [ltB_f (by omega), cond_false]; exact he
theorem rbookPos_loop (N : Nat) (hN : 200000 ≤ N) (c : vtConfig) (b : vtBook) (ha : b.2.1.length ≤ 100000) (hl : b.2.2.2.1.length ≤ 100000) {e : Bool} (he : F52.l17 N N c b 0 = some e) :
    F52.l12 N N c b 0 = some (decide (∀ j, j < b.2.2.2.1.length → okPosOf c b.2.1 b.2.2.2.1 j) && e) := by
  refine scan0 (F := fun n i => F52.l12 N n c b i) (okPosOf c b.2.1 b.2.2.2.1) (fun n i r hi hp' hr => ?_) (fun n => ?_) N (by omega)
  · unfold F52.l12 F52.l12b
    rw [ltB_t (by omega), cond_true, inb_t (by omega) (by omega), cond_true, Int.toNat_natCast, W_i64 (x := (i : Int) + 1) (by omega) (by omega), natCast_succ', hr]
    simp only [there_eq N b ha hN, Option.bind_some, cond_true]
    rw [ord_step]
    have hiff : ((((findOf b.2.1 (b.2.2.2.1.getD i zz3).1).2 || decide (eqI (b.2.2.2.1.getD i zz3).1 0)) = true) ∧ ltI (b.2.2.2.1.getD i zz3).2.1 c.1.length) ↔ okPosOf c b.2.1 b.2.2.2.1 i := by
      unfold okPosOf
      rw [Bool.or_eq_true, decide_eq_true_iff]
      exact ⟨fun h => ⟨h.1.symm, h.2⟩, fun h => ⟨h.1.symm, h.2⟩⟩
    by_cases hP : okPosOf c b.2.1 b.2.2.2.1 i
    · rw [if_pos hP, if_pos (hiff.2 hP)]
    · rw [if_neg hP, if_neg (fun h => hP (hiff.1 h))]
  · unfold F52.l12 F52.l12b
    rw [ltB_f (by omega), cond_false]; exact he
theorem rbookRows_loop (N : Nat) (hN : 200000 ≤ N) (c : vtConfig) (b : vtBook) (hm : b.1.length ≤ 100000) (ha : b.2.1.length ≤ 100000) (hl : b.2.2.1.length ≤ 100000) (hk : okRows b.2.2.1 = true) {e : Bool}
    (he : F52.l12 N N c b 0 = some e) : F52.l6 N N c b 0 = some (decide (∀ j, j < b.2.2.1.length → okRowOf b.1 b.2.1 b.2.2.1 j) && e) := by
  refine scan0 (F := fun n i => F52.l6 N n c b i) (okRowOf b.1 b.2.1 b.2.2.1) (fun n i r hi hp' hr => ?_) (fun n => ?_) N (by omega)
  · unfold F52.l6 F52.l6b
    unfold okRows at hk
    rw [Bool.and_true, decide_eq_true_iff] at hk
    have h1 := (hk i hi).1
    rw [ltB_t (by omega), cond_true, inb_t (by omega) (by omega), cond_true, Int.toNat_natCast, W_i64 (x := (i : Int) + 1) (by omega) (by omega), natCast_succ', hr]
    simp only [there_eq N b ha hN, rStatus_eq N hm hN, Option.bind_some]
    rw [rrows_step]
    have hiff : ((eqI (b.2.2.1.getD i zz3).1 5 → ((findOf b.2.1 (b.2.2.1.getD i zz3).2.1).2 || decide (eqI (b.2.2.1.getD i zz3).2.1 0)) = true) ∧ (eqI (b.2.2.1.getD i zz3).1 6 ∨ eqI (b.2.2.1.getD i zz3).1 7 → ¬ eqI (statusOf b.1 (b.2.2.1.getD i zz3).2.1) 0)) ↔ okRowOf b.1 b.2.1 b.2.2.1 i := by
      unfold okRowOf
      refine and_congr_left fun _ => imp_congr_right fun h5 => ?_
      rw [Bool.or_eq_true, decide_eq_true_iff]
      refine ⟨fun h => h.elim id fun h0 => ?_, .inl⟩
      unfold okKey at h1; unfold eqI at h5 h0; omega
    by_cases hP : okRowOf b.1 b.2.1 b.2.2.1 i
    · rw [if_pos hP, if_pos (hiff.2 hP)]
    · rw [if_neg hP, if_neg (fun h => hP (hiff.1 h))]
  · unfold F52.l6 F52.l6b
    rw [ltB_f (by omega), cond_false]; exact he
end VM
end

section
/- Plain laws: whether a book may be, as the document has it. -/
set_option linter.unusedSimpArgs false
set_option linter.unusedVariables false
namespace VM
open Go VM.F

theorem and_some' {x : Bool} {r : Option Bool} {y : Bool} (h : x = true → r = some y) : cond (!x) (some false) r = some (x && y) := by
  cases x
  · rfl
  · exact h rfl
theorem rBook_eq (N : Nat) (hN : 5000000 ≤ N) {c : vtConfig} {b : vtBook} (w : BookWf b) : F52 N c b = some (okBook c b) := by
  unfold F52 F52.b
  rw [rPlan_eq N (by omega), Option.bind_some]
  have e0 : eqB (sgn (totalOf b.2.2.1)) 0 = decide (eqI (totalOf b.2.2.1) 0) := by rw [eqB_eq, decide_eq_decide]; exact sgn_zero
  refine (and_some' fun _ => ?_).trans (congrArg some (?_ : (okPlan c && (okRoll b.1 b.2.1 && (okRows b.2.2.1 && (okFlat b.2.2.2.1 && (okOrders b.2.2.2.2.2.1 && (decide (eqI b.2.2.2.2.1.length c.1.length) && (decide (eqI (totalOf b.2.2.1) 0) &&
    (decide (∀ j, j < b.2.2.1.length → okRowOf b.1 b.2.1 b.2.2.1 j) && (decide (∀ j, j < b.2.2.2.1.length → okPosOf c b.2.1 b.2.2.2.1 j) && (okPrices b.2.2.2.2.1 && (decide (∀ j, j < b.2.2.2.2.2.1.length → okOrdOf c b.2.1 b.2.2.2.2.2.1 j) && true))))))))))) = okBook c b))
  · rw [rRoll_eq N w.m w.a (by omega), Option.bind_some]
    refine and_some' fun _ => ?_
    rw [rRows_eq N w.r (by omega), Option.bind_some]
    refine and_some' fun hk => ?_
    rw [rFlat_eq N w.qs w.s (by omega), Option.bind_some]
    refine and_some' fun _ => ?_
    rw [rOrders_eq N w.o (by omega), Option.bind_some]
    refine and_some' fun ho => ?_
    rw [eqB_eq]
    refine and_some' fun _ => ?_
    rw [rTotal_eq N w.qr w.r (by omega), Option.bind_some, Sign_eq, Option.bind_some, e0]
    refine and_some' fun _ => ?_
    exact rbookRows_loop N (by omega) c b w.m w.a w.r hk (rbookPos_loop N (by omega) c b w.a w.s (rbookPrice_loop N (by omega) c b w.p (rbookOrd_loop N (by omega) c b w.a w.o ho)))
  · unfold okBook
    generalize okPlan c = x1, okRoll b.1 b.2.1 = x2, okRows b.2.2.1 = x3, okFlat b.2.2.2.1 = x4, okOrders b.2.2.2.2.2.1 = x5, decide (eqI b.2.2.2.2.1.length c.1.length) = x6, decide (eqI (totalOf b.2.2.1) 0) = x7, decide (∀ j, j < b.2.2.1.length → okRowOf b.1 b.2.1 b.2.2.1 j) = x8, decide (∀ j, j < b.2.2.2.1.length → okPosOf c b.2.1 b.2.2.2.1 j) = x9, okPrices b.2.2.2.2.1 = x10, decide (∀ j, j < b.2.2.2.2.2.1.length → okOrdOf c b.2.1 b.2.2.2.2.2.1 j) = x11
    rw [Bool.and_true]
    cases x1 <;> cases x2 <;> cases x3 <;> cases x4 <;> cases x5 <;> cases x6 <;> cases x7 <;> try rfl
    cases x8 <;> cases x9 <;> cases x10 <;> cases x11 <;> rfl
end VM
end

section
/- Plain laws: legs. -/
set_option linter.unusedSimpArgs false
set_option linter.unusedVariables false
namespace VM
open Go VM.F

def okLeg5 (a q n : Int) (i : Nat) (p : Int) : Prop := 0 ≤ a ∧ a < n ∧ q ≠ 0 ∧ okQ q ∧ (0 < i → p < a)
instance (a q n : Int) (i : Nat) (p : Int) : Decidable (okLeg5 a q n i p) := by unfold okLeg5; infer_instance
def okLeg (c : vtConfig) (l : wtI2) (i : Nat) : Prop := okLeg5 (l.getD i zz2).1 (l.getD i zz2).2.1 c.1.length i (l.getD (i - 1) zz2).1
instance (c : vtConfig) (l : wtI2) : DecidablePred (okLeg c l) := fun i => by unfold okLeg; infer_instance
def okLegs (c : vtConfig) (l : wtI2) : Bool := decide (∀ j, j < l.length → okLeg c l j) && okPlan c

theorem Legs_eq (N : Nat) (hN : 200000 ≤ N) (c : vtConfig) {l : wtI2} (hl : l.length ≤ 100000) : F80 N c l = some (okLegs c l) := by
  unfold F80 F80.b
  refine scan0 (F := fun n i => F80.l2 N n l c l (l.length : Int) i) (okLeg c l) (fun n i r hi hp hr => ?_) (fun n => ?_) N (by omega)
  · unfold F80.l2 F80.l2b
    rw [ltB_t (by omega), cond_true, inb_t (by omega) (by omega), cond_true, Int.toNat_natCast, W_i64 (x := (i : Int) + 1) (by omega) (by omega), natCast_succ', hr, Quantity_eq, Option.bind_some, cond_not, cond_dec]
    by_cases h0 : 0 < i
    · have e : W .i64 ((i : Int) - 1) = ((i - 1 : Nat) : Int) := by rw [W_i64 (by omega) (by omega)]; omega
      dsimp only
      rw [ltB_t (x := 0) (y := (i : Int)) (by omega), cond_true, e, Int.toNat_natCast, inb_t (by omega) (by omega), cond_true]
      simp only [cond_ltB, cond_leB, cond_eqB]
      by_cases hP : okLeg c l i
      · rw [if_pos hP]; unfold okLeg okLeg5 at hP
        rw [if_neg (by omega), if_neg (by omega), if_neg hP.2.2.1, if_pos hP.2.2.2.1, if_neg (by omega)]
      · rw [if_neg hP]; unfold okLeg okLeg5 at hP
        have h2 := fun h1 h2 h3 h4 h5 => hP ⟨h1, h2, h3, h4, h5⟩
        repeat' split
        all_goals first | rfl | (exfalso; exact h2 (by omega) (by omega) (by assumption) (by assumption) (by omega))
    · rw [ltB_f (x := 0) (y := (i : Int)) (by omega), cond_false]
      simp only [cond_ltB, cond_leB, cond_eqB]
      by_cases hP : okLeg c l i
      · rw [if_pos hP]; unfold okLeg okLeg5 at hP
        rw [if_neg (by omega), if_neg (by omega), if_neg hP.2.2.1, if_pos hP.2.2.2.1]
      · rw [if_neg hP]; unfold okLeg okLeg5 at hP
        have h2 := fun h1 h2 h3 h4 h5 => hP ⟨h1, h2, h3, h4, h5⟩
        repeat' split
        all_goals first | rfl | (exfalso; exact h2 (by omega) (by omega) (by assumption) (by assumption) (by omega))
  · unfold F80.l2 F80.l2b
    rw [ltB_f (by omega), cond_false, Plan_eq N (by omega), Option.bind_some]
end VM
end

section
/- Plain laws: legs, as the document has them. -/
set_option linter.unusedSimpArgs false
set_option linter.unusedVariables false
namespace VM
open Go VM.F

theorem rLegs_eq (N : Nat) (hN : 200000 ≤ N) (c : vtConfig) {l : wtI2} (hl : l.length ≤ 100000) : F93 N c l = some (okLegs c l) := by
  unfold F93 F93.b
  rw [rPlan_eq N (by omega), Option.bind_some]
  have hsc := scan0 (F := fun n i => F93.l4 N n l c i) (e := true) (okLeg c l) (fun n i r hi hp hr => ?_) (fun n => ?_) N (show l.length < N by omega)
  · rw [and_some hsc]; unfold okLegs
    rw [Bool.and_true, Bool.and_comm]
  · unfold F93.l4 F93.l4b
    rw [ltB_t (by omega), cond_true, inb_t (by omega) (by omega), cond_true, Int.toNat_natCast, W_i64 (x := (i : Int) + 1) (by omega) (by omega), natCast_succ', hr]
    by_cases h0 : 0 < i
    · have e : W .i64 ((i : Int) - 1) = ((i - 1 : Nat) : Int) := by rw [W_i64 (by omega) (by omega)]; omega
      dsimp only
      rw [ltB_t (x := 0) (y := (i : Int)) (by omega), e, Int.toNat_natCast, inb_t (i := ((i - 1 : Nat) : Int)) (by omega) (by omega)]
      simp only [cond_ltB, cond_leB, cond_eqB, cond_true]
      by_cases hP : okLeg c l i
      · rw [if_pos hP]; unfold okLeg okLeg5 at hP
        rw [if_neg (by omega), if_neg (by omega), if_neg hP.2.2.1, if_neg (show ¬ ((l.getD i zz2).2.1 : Int) = -9223372036854775808 from hP.2.2.2.1), if_neg (by omega)]
      · rw [if_neg hP]; unfold okLeg okLeg5 at hP
        have h2 := fun h1 h2 h3 h4 h5 => hP ⟨h1, h2, h3, h4, h5⟩
        repeat' split
        all_goals first | rfl | (exfalso; exact h2 (by omega) (by omega) (by assumption) (by assumption) (by omega))
    · rw [ltB_f (x := 0) (y := (i : Int)) (by omega)]
      simp only [cond_ltB, cond_leB, cond_eqB, cond_true, cond_false]
      by_cases hP : okLeg c l i
      · rw [if_pos hP]; unfold okLeg okLeg5 at hP
        rw [if_neg (by omega), if_neg (by omega), if_neg hP.2.2.1, if_neg (show ¬ ((l.getD i zz2).2.1 : Int) = -9223372036854775808 from hP.2.2.2.1)]
      · rw [if_neg hP]; unfold okLeg okLeg5 at hP
        have h2 := fun h1 h2 h3 h4 h5 => hP ⟨h1, h2, h3, h4, h5⟩
        repeat' split
        all_goals first | rfl | (exfalso; exact h2 (by omega) (by omega) (by assumption) (by assumption) (by omega))
  · unfold F93.l4 F93.l4b
    rw [ltB_f (by omega), cond_false]
end VM
end

section
/- Plain laws: bids. -/
set_option linter.unusedSimpArgs false
set_option linter.unusedVariables false
namespace VM
open Go VM.F
end VM
end

section
/- Plain laws: has a member a bid for a lot? -/
set_option linter.unusedSimpArgs false
set_option linter.unusedVariables false
namespace VM
open Go VM.F
end VM
end

section
/- Plain laws: bids that may be. -/
set_option linter.unusedSimpArgs false
set_option linter.unusedVariables false
namespace VM
open Go VM.F
end VM
end

section
/- Plain laws: rows, put together from rows and entries. -/
set_option linter.unusedSimpArgs false
namespace VM
open Go VM.F
set_option linter.unusedVariables false

/-- The numbers under a key. -/
def valsAt (a b : Int) : wtI3 → List Int
  | [] => []
  | x :: t => if x.1 = a ∧ x.2.1 = b then qty x :: valsAt a b t else valsAt a b t
theorem valsAt_cons (a b : Int) (x : vtI3) (t : wtI3) : valsAt a b (x :: t) = if x.1 = a ∧ x.2.1 = b then qty x :: valsAt a b t else valsAt a b t := rfl
def sumAt (a b : Int) (l : wtI3) : Int := (valsAt a b l).sum
theorem sumAt_nil (a b : Int) : sumAt a b [] = 0 := rfl
theorem sumAt_cons (a b : Int) (x : vtI3) (t : wtI3) : sumAt a b (x :: t) = (if x.1 = a ∧ x.2.1 = b then qty x else 0) + sumAt a b t := by
  unfold sumAt
  rw [valsAt_cons]
  split
  · rw [List.sum_cons]
  · omega
theorem sumAt_zero {a b : Int} : ∀ {l : wtI3}, (∀ x ∈ l, ¬ (x.1 = a ∧ x.2.1 = b)) → sumAt a b l = 0
  | [], _ => rfl
  | x :: t, h => by
    rw [sumAt_cons, if_neg (h x (List.mem_cons_self ..)), sumAt_zero (fun y hy => h y (List.mem_cons_of_mem _ hy))]; rfl

abbrev Key2 := Int × Int
def kLt (x y : Key2) : Prop := keyLt x.1 x.2 y.1 y.2
instance (x y : Key2) : Decidable (kLt x y) := by unfold kLt; infer_instance
def keyOf (x : vtI3) : Key2 := (x.1, x.2.1)
def Srt (K : List Key2) : Prop := K.Pairwise kLt

theorem kLt_irr {x : Key2} (h : kLt x x) : False := by unfold kLt keyLt at h; omega
theorem kLt_asymm {x y : Key2} (h : kLt x y) (k : kLt y x) : False := by unfold kLt keyLt at *; omega
theorem kLt_trans {x y z : Key2} (h : kLt x y) (k : kLt y z) : kLt x z := by unfold kLt keyLt at *; omega
theorem kLt_tri (x y : Key2) : kLt x y ∨ x = y ∨ kLt y x := by
  have : (x.1 = y.1 ∧ x.2 = y.2) → x = y := fun h => Prod.ext h.1 h.2
  unfold kLt keyLt
  by_cases h1 : x.1 = y.1
  · by_cases h2 : x.2 = y.2
    · exact Or.inr (Or.inl (this ⟨h1, h2⟩))
    · omega
  · omega

theorem srt_ext : ∀ {a b : List Key2}, Srt a → Srt b → (∀ x, x ∈ a ↔ x ∈ b) → a = b
  | [], [], _, _, _ => rfl
  | [], y :: t, _, _, h => nomatch (h y).2 (List.mem_cons_self ..)
  | x :: s, [], _, _, h => nomatch (h x).1 (List.mem_cons_self ..)
  | x :: s, y :: t, ha, hb, h => by
    obtain ⟨ha1, ha2⟩ := List.pairwise_cons.1 ha
    obtain ⟨hb1, hb2⟩ := List.pairwise_cons.1 hb
    have hxy : x = y := by
      rcases List.mem_cons.1 ((h x).1 (List.mem_cons_self ..)) with e | e
      · exact e
      · rcases List.mem_cons.1 ((h y).2 (List.mem_cons_self ..)) with f | f
        · exact f.symm
        · exact (kLt_asymm (ha1 y f) (hb1 x e)).elim
    subst hxy
    rw [srt_ext ha2 hb2 fun z => ⟨fun hz => ?_, fun hz => ?_⟩]
    · rcases List.mem_cons.1 ((h z).1 (List.mem_cons_of_mem _ hz)) with e | e
      · subst e; exact (kLt_irr (ha1 z hz)).elim
      · exact e
    · rcases List.mem_cons.1 ((h z).2 (List.mem_cons_of_mem _ hz)) with e | e
      · subst e; exact (kLt_irr (hb1 z hz)).elim
      · exact e

/-- All rows of some keys; none, if one doesn't fit. -/
def coll (P : Int → Prop) [DecidablePred P] (f : Int → Int → Int) : List Key2 → Option wtI3
  | [] => some []
  | k :: t => if P (f k.1 k.2) then (coll P f t).map (fun o => if f k.1 k.2 = 0 then o else (k.1, (k.2, (f k.1 k.2, ()))) :: o) else none
theorem coll_cons (P : Int → Prop) [DecidablePred P] (f : Int → Int → Int) (k : Key2) (t : List Key2) : coll P f (k :: t) = if P (f k.1 k.2) then (coll P f t).map (fun o => if f k.1 k.2 = 0 then o else (k.1, (k.2, (f k.1 k.2, ()))) :: o) else none := rfl

theorem coll_filter {P : Int → Prop} [DecidablePred P] (h0 : P 0) {f : Int → Int → Int} (p : Key2 → Bool) : ∀ {K : List Key2}, (∀ k ∈ K, p k = false → f k.1 k.2 = 0) → coll P f (K.filter p) = coll P f K
  | [], _ => rfl
  | k :: t, h => by
    have ih := coll_filter h0 p (K := t) (fun x hx => h x (List.mem_cons_of_mem _ hx))
    cases hp : p k
    · rw [List.filter_cons_of_neg (by rw [hp]; decide), ih, coll_cons, h k (List.mem_cons_self ..) hp, if_pos h0]
      simp
    · rw [List.filter_cons_of_pos hp, coll_cons, coll_cons, ih]

/-- Over all keys, or over those that matter: the same. -/
theorem coll_sub {P : Int → Prop} [DecidablePred P] (h0 : P 0) {f : Int → Int → Int} {K G : List Key2} (hK : Srt K) (hG : Srt G) (hs : ∀ k ∈ K, k ∈ G) (hz : ∀ k ∈ G, k ∉ K → f k.1 k.2 = 0) : coll P f K = coll P f G := by
  have e : K = G.filter (fun k => decide (k ∈ K)) := by
    refine srt_ext hK (List.Pairwise.sublist List.filter_sublist hG) fun x => ?_
    rw [List.mem_filter]
    exact ⟨fun h => ⟨hs x h, decide_eq_true h⟩, fun h => of_decide_eq_true h.2⟩
  rw [e]
  exact coll_filter h0 _ fun k hk hp => hz k hk (of_decide_eq_false hp)

/-- A key put in its place. -/
def insK (k : Key2) : List Key2 → List Key2
  | [] => [k]
  | x :: t => if kLt x k then x :: insK k t else if x = k then x :: t else k :: x :: t
theorem mem_insK {k x : Key2} : ∀ {K : List Key2}, x ∈ insK k K ↔ x = k ∨ x ∈ K
  | [] => by show x ∈ [k] ↔ _; simp
  | y :: t => by
    show x ∈ (if kLt y k then y :: insK k t else if y = k then y :: t else k :: y :: t) ↔ _
    split
    · rw [List.mem_cons, mem_insK, List.mem_cons]
      exact ⟨fun h => h.elim (fun e => Or.inr (Or.inl e)) (fun h => h.elim Or.inl (fun h => Or.inr (Or.inr h))), fun h => h.elim (fun e => Or.inr (Or.inl e)) (fun h => h.elim Or.inl (fun h => Or.inr (Or.inr h)))⟩
    · split
      · rename_i e
        rw [← e]
        exact ⟨Or.inr, fun h => h.elim (fun e => e ▸ List.mem_cons_self ..) id⟩
      · rw [List.mem_cons]
theorem srt_insK {k : Key2} : ∀ {K : List Key2}, Srt K → Srt (insK k K)
  | [], _ => List.pairwise_cons.2 ⟨fun _ h => (nomatch h), List.Pairwise.nil⟩
  | y :: t, h => by
    obtain ⟨h1, h2⟩ := List.pairwise_cons.1 h
    show Srt (if kLt y k then y :: insK k t else if y = k then y :: t else k :: y :: t)
    split
    · rename_i hy
      exact List.pairwise_cons.2 ⟨fun z hz => (mem_insK.1 hz).elim (fun e => e ▸ hy) (h1 z), srt_insK h2⟩
    · rename_i hy
      split
      · exact h
      · rename_i he
        have hk : kLt k y := (kLt_tri y k).elim (fun h => absurd h hy) (fun h => h.elim (fun h => absurd h he) id)
        exact List.pairwise_cons.2 ⟨fun z hz => (List.mem_cons.1 hz).elim (fun e => e ▸ hk) (fun hz => kLt_trans hk (h1 z hz)), h⟩
def insAll (K : List Key2) (E : wtI3) : List Key2 := E.foldl (fun K x => insK (keyOf x) K) K
theorem insAll_cons (K : List Key2) (x : vtI3) (E : wtI3) : insAll K (x :: E) = insAll (insK (keyOf x) K) E := rfl
theorem srt_insAll : ∀ {E : wtI3} {K : List Key2}, Srt K → Srt (insAll K E)
  | [], _, h => h
  | x :: E, K, h => by rw [insAll_cons]; exact srt_insAll (srt_insK h)
theorem mem_insAll {k : Key2} : ∀ {E : wtI3} {K : List Key2}, k ∈ insAll K E ↔ (k ∈ K ∨ ∃ x ∈ E, keyOf x = k)
  | [], K => by
    show k ∈ K ↔ _
    simp
  | x :: E, K => by
    rw [insAll_cons, mem_insAll, mem_insK]
    constructor
    · rintro ((rfl | h) | ⟨y, hy, e⟩)
      · exact Or.inr ⟨x, List.mem_cons_self .., rfl⟩
      · exact Or.inl h
      · exact Or.inr ⟨y, List.mem_cons_of_mem _ hy, e⟩
    · rintro (h | ⟨y, hy, e⟩)
      · exact Or.inl (Or.inr h)
      · rcases List.mem_cons.1 hy with rfl | hy
        · exact Or.inl (Or.inl e.symm)
        · exact Or.inr ⟨y, hy, e⟩
theorem insK_len (k : Key2) : ∀ K : List Key2, (insK k K).length ≤ K.length + 1
  | [] => Nat.le_refl _
  | y :: t => by
    show (if kLt y k then y :: insK k t else if y = k then y :: t else k :: y :: t).length ≤ _
    have := insK_len k t
    split
    · rw [List.length_cons, List.length_cons]; omega
    · split <;> rw [List.length_cons] <;> (try rw [List.length_cons]) <;> omega
/-- The rows of keys, as they are in l. -/
def rowsOf (l : wtI3) (K : List Key2) : wtI3 := K.map fun k => (k.1, (k.2, (sumAt k.1 k.2 l, ())))
theorem rowsOf_self {l : wtI3} (h : Srt (l.map keyOf)) : rowsOf l (l.map keyOf) = l := by
  have key : ∀ (m : wtI3), Srt (m.map keyOf) → (∀ x ∈ m, sumAt x.1 x.2.1 l = qty x) → rowsOf l (m.map keyOf) = m := by
    intro m
    induction m with
    | nil => intro _ _; rfl
    | cons x t ih =>
      intro hm hx
      have := ih (List.pairwise_cons.1 hm).2 (fun y hy => hx y (List.mem_cons_of_mem _ hy))
      unfold rowsOf at *
      rw [List.map_cons, List.map_cons, this]
      congr 1
      show (x.1, (x.2.1, (sumAt x.1 x.2.1 l, ()))) = x
      rw [hx x (List.mem_cons_self ..)]; rfl
  refine key l h ?_
  clear key
  induction l with
  | nil => intro x hx; nomatch hx
  | cons y t ih =>
    intro x hx
    obtain ⟨h1, h2⟩ := List.pairwise_cons.1 h
    have hne : ∀ z ∈ t, ¬ (z.1 = y.1 ∧ z.2.1 = y.2.1) := fun z hz e => by
      have hk := h1 (keyOf z) (List.mem_map_of_mem hz)
      have he : keyOf z = keyOf y := Prod.ext e.1 e.2
      rw [he] at hk
      exact kLt_irr hk
    rw [sumAt_cons]
    rcases List.mem_cons.1 hx with rfl | hx
    · rw [if_pos ⟨rfl, rfl⟩, sumAt_zero hne]; omega
    · rw [if_neg (fun e => hne x hx ⟨e.1.symm, e.2.symm⟩), ih h2 x hx]; omega
end VM
end

section
/- Plain laws: stock.Post. -/
set_option linter.unusedSimpArgs false
namespace VM
open Go VM.F
set_option linter.unusedVariables false

instance (x : Int) : Decidable (In64 x) := by unfold In64; infer_instance
def Fq (x : Int) : Prop := In64 x ∧ okQ x
instance : DecidablePred Fq := fun x => by unfold Fq; infer_instance
def outS (r : Option wtI3) : Option (wtI3 × Int) := some (match r with | some o => (o, 0) | none => ([], 2))
/-- What a row comes to. -/
def fS (l E : wtI3) (a b : Int) : Int := sumAt a b l + sumAt a b E

theorem insL_eq {α : Type} (N : Nat) {l : List α} {i : Nat} {x : α} (hi : i ≤ l.length) (hl : l.length < 1000000) : insertL N l (i : Int) [x] = some (l.take i ++ x :: l.drop i) := by
  unfold insertL
  rw [if_pos ⟨by omega, by omega, rfl, by unfold big; omega⟩]
  rfl
theorem clL_eq {α : Type} (N : Nat) {l : List α} (hl : l.length ≤ 1000000) : cloneL N l = some l := by
  unfold cloneL
  rw [if_pos (by unfold big; omega)]
theorem wInt_eq' (N : Nat) {v : Int} (h : In128 v) : F79 N (wideN v) = some (toI v) := wInt_eq N h.1 h.2
theorem toI_pos {v : Int} (h : In64 v) : toI v = (v, true) := by unfold toI; exact if_pos h
theorem toI_neg {v : Int} (h : ¬ In64 v) : toI v = (0, false) := by unfold toI; exact if_neg h
theorem in64_snoc {ws : List Int} {x : Int} (h : ∀ y ∈ ws, In64 y) (hx : In64 x) : ∀ y ∈ ws ++ [x], In64 y := fun y hy => by
  rcases List.mem_append.1 hy with hy | hy
  · exact h y hy
  · rw [List.mem_singleton.1 hy]; exact hx
theorem clipP_eq (N : Nat) {l : wtI3} : F231 N l = some l := by
  unfold F231
  rw [okCut_t (by omega) (by omega) (by omega) (by omega), cond_true]
  simp

theorem postP_in (N : Nat) (hN : 2000000 ≤ N) (K : F179.t_l23) {E out R : wtI3} (hq : Qty64 E) (hl : E.length ≤ 100000) (ho : out.length ≤ 1000000) (r : vtI3) (hr : In64 (qty r)) (i : Nat) (hi : i ≤ 1000000) :
    F179.l27 N K N E out r [wideN (qty r)] R (R.length : Int) (i : Int) E (E.length : Int) 0 =
      if Fq (qty r + sumAt r.1 r.2.1 E) then K E (if qty r + sumAt r.1 r.2.1 E = 0 then out else out ++ [(r.1, (r.2.1, (qty r + sumAt r.1 r.2.1 E, ())))]) R (R.length : Int) ((i + 1 : Nat) : Int) else some (ee3, (2 : Int)) := by
  have := lrec E zz3 (fun n j ws => F179.l27 N K n E out r (ws.map wideN) R (R.length : Int) (i : Int) E (E.length : Int) j)
    (fun t ws => if Fq (ws ++ valsAt r.1 r.2.1 t).sum then K E (if (ws ++ valsAt r.1 r.2.1 t).sum = 0 then out else out ++ [(r.1, (r.2.1, ((ws ++ valsAt r.1 r.2.1 t).sum, ())))]) R (R.length : Int) ((i + 1 : Nat) : Int) else some (ee3, (2 : Int)))
    (fun j (ws : List Int) => ws.length ≤ j + 1 ∧ ∀ x ∈ ws, In64 x)
    (fun n j ws hj hI hr' => ?_) (fun n ws hI => ?_) E.length N 0 [qty r] (by omega) (by omega) (by omega) ⟨Nat.le_refl _, fun x hx => by rw [List.mem_singleton.1 hx]; exact hr⟩
  · rw [show ((0 : Nat) : Int) = 0 from rfl, List.drop_zero] at this
    refine this.trans ?_
    have e : ([qty r] ++ valsAt r.1 r.2.1 E).sum = qty r + sumAt r.1 r.2.1 E := by rw [List.singleton_append, List.sum_cons]; rfl
    rw [e]
  · unfold F179.l27 F179.l27b
    have h64 := qty_at hq j
    have h64' := h64
    unfold In64 qty at h64'
    rw [ltB_t (by omega), cond_true, inb_t (by omega) (by omega), cond_true, Int.toNat_natCast, wOf_eq N h64'.1 h64'.2, Option.bind_some, small_t (by rw [List.length_map, List.length_singleton]; omega), cond_true, W_i64 (x := (j : Int) + 1) (by omega) (by omega), natCast_succ', cond_eqB, cond_eqB]
    by_cases h1 : (E.getD j zz3).1 = r.1
    · by_cases h2 : (E.getD j zz3).2.1 = r.2.1
      · have hc : valsAt r.1 r.2.1 (E.getD j zz3 :: E.drop (j + 1)) = qty (E.getD j zz3) :: valsAt r.1 r.2.1 (E.drop (j + 1)) := by rw [valsAt_cons, if_pos ⟨h1, h2⟩]
        rw [if_pos h1, if_pos h2, hc]
        have := hr' (ws ++ [qty (E.getD j zz3)]) ⟨by rw [List.length_append, List.length_singleton]; omega, in64_snoc hI.2 h64⟩
        rw [List.map_append] at this
        refine this.trans ?_
        rw [List.append_assoc]; rfl
      · have hc : valsAt r.1 r.2.1 (E.getD j zz3 :: E.drop (j + 1)) = valsAt r.1 r.2.1 (E.drop (j + 1)) := by rw [valsAt_cons, if_neg (fun h => h2 h.2)]
        rw [if_pos h1, if_neg h2, hc]
        exact hr' ws ⟨by omega, hI.2⟩
    · have hc : valsAt r.1 r.2.1 (E.getD j zz3 :: E.drop (j + 1)) = valsAt r.1 r.2.1 (E.drop (j + 1)) := by rw [valsAt_cons, if_neg (fun h => h1 h.1)]
      rw [if_neg h1, hc]
      exact hr' ws ⟨by omega, hI.2⟩
  · unfold F179.l27 F179.l27b
    have hs := sum_in128 hI.2 (by omega)
    rw [ltB_f (by omega), cond_false, wSum64 N hI.2 (by omega) (by omega), Option.bind_some]
    show _ = if Fq (ws ++ []).sum then K E (if (ws ++ []).sum = 0 then out else out ++ [(r.1, (r.2.1, ((ws ++ []).sum, ())))]) R (R.length : Int) ((i + 1 : Nat) : Int) else some (ee3, (2 : Int))
    rw [List.append_nil, wInt_eq' N hs, Option.bind_some]
    by_cases h1 : In64 ws.sum
    · rw [toI_pos h1]
      dsimp only
      rw [Bool.not_true, cond_false, Quantity_eq, Option.bind_some, cond_not, cond_dec, cond_not, cond_eqB, small_t (by rw [List.length_singleton]; omega), cond_true, W_i64 (x := (i : Int) + 1) (by omega) (by omega), natCast_succ']
      by_cases h2 : okQ ws.sum
      · rw [if_pos h2, if_pos (show Fq ws.sum from ⟨h1, h2⟩)]
        split <;> rfl
      · rw [if_neg h2, if_neg (fun h => h2 h.2)]
    · rw [toI_neg h1, if_neg (fun h => h1 h.1)]
      rfl

theorem postP_out (N : Nat) (hN : 2000000 ≤ N) {l E R : wtI3} (hq : Qty64 E) (hl : E.length ≤ 100000) (hR : R.length ≤ 200000) (hv : ∀ r ∈ R, In64 (qty r) ∧ qty r = sumAt r.1 r.2.1 l) :
    F179.l23 N N E [] R (R.length : Int) 0 = outS (coll Fq (fS l E) (R.map keyOf)) := by
  have := lrec R zz3 (fun n i out => F179.l23 N n E out R (R.length : Int) i) (fun t out => outS ((coll Fq (fS l E) (t.map keyOf)).map (fun o => out ++ o))) (fun i (out : wtI3) => out.length ≤ i)
    (fun n i out hi hI hr => ?_) (fun n out hI => ?_) R.length N 0 [] (by omega) (by omega) (by omega) (Nat.le_refl _)
  · rw [show ((0 : Nat) : Int) = 0 from rfl, List.drop_zero] at this
    refine this.trans ?_
    simp
  · unfold F179.l23 F179.l23b
    have hm : R.getD i zz3 ∈ R := by
      rw [List.getD_eq_getElem?_getD, List.getElem?_eq_getElem hi]; exact List.getElem_mem hi
    have hv' := hv _ hm
    have h64 := hv'.1
    have h64' := h64
    unfold In64 qty at h64'
    rw [ltB_t (by omega), cond_true, inb_t (by omega) (by omega), cond_true, Int.toNat_natCast, wOf_eq N h64'.1 h64'.2, Option.bind_some]
    refine (postP_in N hN _ hq hl (by omega) _ h64 i (by omega)).trans ?_
    rw [List.map_cons, coll_cons]
    have ef : fS l E (keyOf (R.getD i zz3)).1 (keyOf (R.getD i zz3)).2 = qty (R.getD i zz3) + sumAt (R.getD i zz3).1 (R.getD i zz3).2.1 E := by
      show sumAt _ _ l + sumAt _ _ E = _
      rw [hv'.2]; rfl
    rw [ef]
    generalize hS : qty (R.getD i zz3) + sumAt (R.getD i zz3).1 (R.getD i zz3).2.1 E = v
    by_cases hF : Fq v
    · rw [if_pos hF, if_pos hF, hr _ (by
        split
        · omega
        · rw [List.length_append, List.length_singleton]; omega)]
      cases coll Fq (fS l E) ((R.drop (i + 1)).map keyOf) with
      | none => rfl
      | some o =>
        show outS (some _) = outS (some _)
        congr 2
        split
        · rfl
        · exact List.append_assoc _ _ _
    · rw [if_neg hF, if_neg hF]; rfl
  · unfold F179.l23 F179.l23b
    rw [ltB_f (by omega), cond_false, clipP_eq, Option.bind_some]
    show _ = outS (some (out ++ []))
    rw [List.append_nil]; rfl

def rowK (l : wtI3) (k : Key2) : vtI3 := (k.1, (k.2, (sumAt k.1 k.2 l, ())))
theorem rowsOf_len (l : wtI3) (K : List Key2) : (rowsOf l K).length = K.length := List.length_map ..
theorem rowsOf_at (l : wtI3) {K : List Key2} {p : Nat} (h : p < K.length) : (rowsOf l K).getD p zz3 = rowK l (K.getD p (0, 0)) := by
  unfold rowsOf
  rw [List.getD_eq_getElem?_getD, List.getElem?_map, List.getElem?_eq_getElem h, List.getD_eq_getElem?_getD, List.getElem?_eq_getElem h]; rfl
theorem rowsOf_ins (l : wtI3) (K : List Key2) (p : Nat) (k : Key2) : (rowsOf l K).take p ++ rowK l k :: (rowsOf l K).drop p = rowsOf l (K.take p ++ k :: K.drop p) := by
  unfold rowsOf
  rw [List.map_append, List.map_cons, List.map_take, List.map_drop]; rfl
theorem rowsOf_keys (l : wtI3) (K : List Key2) : (rowsOf l K).map keyOf = K := by
  unfold rowsOf
  rw [List.map_map]
  induction K with
  | nil => rfl
  | cons k t ih => rw [List.map_cons, ih]; rfl
theorem ordI_pos {k x : Key2} : 0 < ordI k.1 k.2 x.1 x.2 ↔ kLt x k := by
  unfold ordI kLt keyLt; split <;> omega
theorem ordI_zero {k x : Key2} : ordI k.1 k.2 x.1 x.2 = 0 ↔ x = k := by
  have : x = k ↔ x.1 = k.1 ∧ x.2 = k.2 := ⟨fun h => h ▸ ⟨rfl, rfl⟩, fun h => Prod.ext h.1 h.2⟩
  rw [this]
  unfold ordI; split <;> omega
def fewK (k : Key2) : Prop := few k.1 ∧ few k.2
theorem insK_at {k : Key2} {K : List Key2} {p : Nat} (h : p < K.length) : insK k (K.drop p) = if kLt (K.getD p (0, 0)) k then K.getD p (0, 0) :: insK k (K.drop (p + 1)) else if K.getD p (0, 0) = k then K.drop p else k :: K.drop p := by
  rw [drop_cons h (0, 0)]; rfl
theorem take_drop_at {K : List Key2} {p : Nat} (h : p < K.length) (t : List Key2) : K.take p ++ K.getD p (0, 0) :: t = K.take (p + 1) ++ t := by
  rw [← List.take_append_getElem h, List.append_assoc, List.getD_eq_getElem?_getD, List.getElem?_eq_getElem h]; rfl
/-- Where a key isn't, its row was nothing. -/
def zeroAt (l : wtI3) (K : List Key2) (k : Key2) : Prop := k ∉ K → sumAt k.1 k.2 l = 0
theorem rowK_zero {l : wtI3} {k : Key2} (h : sumAt k.1 k.2 l = 0) : ((k.1, (k.2, ((0 : Int), ()))) : vtI3) = rowK l k := by
  unfold rowK; rw [h]
theorem not_mem_at {k : Key2} {K : List Key2} {p : Nat} (hs : Srt K) (hp : ∀ x ∈ K.take p, kLt x k) (h : ∀ x ∈ K.drop p, kLt k x) : k ∉ K := fun hk => by
  rw [← List.take_append_drop p K] at hk
  rcases List.mem_append.1 hk with hk | hk
  · exact kLt_irr (hp k hk)
  · exact kLt_irr (h k hk)
theorem drop_gt {k : Key2} {K : List Key2} {p : Nat} (hs : Srt K) (h : p < K.length) (h1 : ¬ kLt (K.getD p (0, 0)) k) (h2 : K.getD p (0, 0) ≠ k) : ∀ x ∈ K.drop p, kLt k x := by
  have hk : kLt k (K.getD p (0, 0)) := (kLt_tri (K.getD p (0, 0)) k).elim (fun h => absurd h h1) (fun h => h.elim (fun h => absurd h h2) id)
  have hd : Srt (K.drop p) := List.Pairwise.sublist (List.drop_sublist ..) hs
  rw [drop_cons h (0, 0)] at hd ⊢
  intro x hx
  rcases List.mem_cons.1 hx with rfl | hx
  · exact hk
  · exact kLt_trans hk ((List.pairwise_cons.1 hd).1 x hx)

theorem seekP (N : Nat) (C : F179.t_l13) {l E S : wtI3} {K : List Key2} (hs : Srt K) (hl : K.length ≤ 100000) (hf : ∀ k ∈ K, fewK k) (x : vtI3) (hx : fewK (keyOf x)) (hz : zeroAt l K (keyOf x)) (len : Int) (i : Nat) (hi : i ≤ 1000000) :
    ∀ (m n p : Nat), K.length - p ≤ m → m < n → p ≤ K.length → (∀ y ∈ K.take p, kLt y (keyOf x)) →
      F179.l16 N C n E (rowsOf l K) x (p : Int) S len (i : Int) = C E (rowsOf l (K.take p ++ insK (keyOf x) (K.drop p))) S len ((i + 1 : Nat) : Int)
  | m, 0, p, _, hn, _, _ => by omega
  | m, n + 1, p, hm, hn, hp, hb => by
    unfold F179.l16 F179.l16b F179.j18 F179.j18b
    rw [rowsOf_len, W_i64 (x := (i : Int) + 1) (by omega) (by omega), natCast_succ' i]
    by_cases h : p < K.length
    · have hfk := hf (K.getD p (0, 0)) (by rw [List.getD_eq_getElem?_getD, List.getElem?_eq_getElem h]; exact List.getElem_mem h)
      have ho : F219 N x.1 x.2.1 ((rowsOf l K).getD p zz3) = some (ordI (keyOf x).1 (keyOf x).2 (K.getD p (0, 0)).1 (K.getD p (0, 0)).2) := by
        rw [rowsOf_at l h]
        exact sorder_eq N hx.1 hx.2 hfk.1 hfk.2
      rw [ltB_t (by omega), cond_true, inb_t (by omega) (by omega), cond_true, Int.toNat_natCast, ho, Option.bind_some, eqB_f (x := (p : Int)) (by omega), cond_false, cond_true, Option.bind_some, cond_ltB, cond_not, cond_eqB, insK_at h]
      by_cases h1 : kLt (K.getD p (0, 0)) (keyOf x)
      · rw [if_pos (ordI_pos.2 h1), if_pos h1, W_i64 (x := (p : Int) + 1) (by omega) (by omega), natCast_succ' p, take_drop_at h]
        refine seekP N C hs hl hf x hx hz len i hi (m - 1) n (p + 1) (by omega) (by omega) (by omega) fun y hy => ?_
        rw [← List.take_append_getElem h] at hy
        rcases List.mem_append.1 hy with hy | hy
        · exact hb y hy
        · rw [List.getD_eq_getElem?_getD, List.getElem?_eq_getElem h] at h1
          rw [List.mem_singleton.1 hy]; exact h1
      · rw [if_neg (fun h => h1 (ordI_pos.1 h)), if_neg h1]
        by_cases h2 : K.getD p (0, 0) = keyOf x
        · rw [if_pos (ordI_zero.2 h2), if_pos h2, List.take_append_drop]
        · rw [if_neg (fun h => h2 (ordI_zero.1 h)), if_neg h2, insL_eq N (by rw [rowsOf_len]; omega) (by rw [rowsOf_len]; omega), Option.bind_some]
          have hz' := hz (not_mem_at hs hb (drop_gt hs h h1 h2))
          have e := rowsOf_ins l K p (keyOf x)
          rw [← rowK_zero hz'] at e
          exact congrArg (fun R => C E R S len ((i + 1 : Nat) : Int)) e
    · have hd : K.drop p = [] := List.drop_eq_nil_of_le (by omega)
      rw [ltB_f (by omega), cond_false, eqB_t (by omega), cond_true, insL_eq N (by rw [rowsOf_len]; omega) (by rw [rowsOf_len]; omega), Option.bind_some]
      have hz' := hz (not_mem_at hs hb (by rw [hd]; exact fun x hx => nomatch hx))
      have e := rowsOf_ins l K p (keyOf x)
      rw [← rowK_zero hz'] at e
      have e2 : insK (keyOf x) (K.drop p) = keyOf x :: K.drop p := by rw [hd]; rfl
      rw [e2]
      exact congrArg (fun R => C E R S len ((i + 1 : Nat) : Int)) e
end VM
end

section
/- Plain laws: stock.Post, whole. -/
set_option linter.unusedSimpArgs false
namespace VM
open Go VM.F
set_option linter.unusedVariables false

def flatE (E : wtI3) (i : Nat) : Prop := eqI (qtysIn (i : Int) E).sum 0
instance (E : wtI3) : DecidablePred (flatE E) := fun i => by unfold flatE; infer_instance
theorem flat_in (N : Nat) (hN : 2000000 ≤ N) (K : F229.t_l2) {E : wtI3} (hq : Qty64 E) (hl : E.length ≤ 100000) (a : Nat) (ha : a < 6) :
    F229.l6 N K N E (a : Int) [] (a : Int) E (E.length : Int) 0 = if (qtysIn (a : Int) E).sum = 0 then K E ((a + 1 : Nat) : Int) else some false := by
  have := lrec E zz3 (fun n j ws => F229.l6 N K n E (a : Int) (ws.map wideN) (a : Int) E (E.length : Int) j)
    (fun t ws => if (ws ++ qtysIn (a : Int) t).sum = 0 then K E ((a + 1 : Nat) : Int) else some false)
    (fun j (ws : List Int) => ws.length ≤ j ∧ ∀ x ∈ ws, In64 x)
    (fun n j ws hj hI hr => ?_) (fun n ws hI => ?_) E.length N 0 [] (by omega) (by omega) (by omega) ⟨Nat.le_refl _, fun x hx => nomatch hx⟩
  · rw [show ((0 : Nat) : Int) = 0 from rfl, List.drop_zero] at this
    exact this
  · unfold F229.l6 F229.l6b
    have h64 := qty_at hq j
    have h64' := h64
    unfold In64 qty at h64'
    rw [ltB_t (by omega), cond_true, inb_t (by omega) (by omega), cond_true, Int.toNat_natCast, wOf_eq N h64'.1 h64'.2, Option.bind_some, small_t (by rw [List.length_map, List.length_singleton]; omega), cond_true, W_i64 (x := (j : Int) + 1) (by omega) (by omega), natCast_succ' j, cond_eqB]
    by_cases h1 : (E.getD j zz3).2.1 = (a : Int)
    · have hc : qtysIn (a : Int) (E.getD j zz3 :: E.drop (j + 1)) = qty (E.getD j zz3) :: qtysIn (a : Int) (E.drop (j + 1)) := by rw [qtysIn_cons, if_pos h1]
      rw [if_pos h1, hc]
      have := hr (ws ++ [qty (E.getD j zz3)]) ⟨by rw [List.length_append, List.length_singleton]; omega, in64_snoc hI.2 h64⟩
      rw [List.map_append] at this
      refine this.trans ?_
      rw [List.append_assoc]; rfl
    · have hc : qtysIn (a : Int) (E.getD j zz3 :: E.drop (j + 1)) = qtysIn (a : Int) (E.drop (j + 1)) := by rw [qtysIn_cons, if_neg h1]
      rw [if_neg h1, hc]
      exact hr ws ⟨by omega, hI.2⟩
  · unfold F229.l6 F229.l6b
    rw [ltB_f (by omega), cond_false, wSum64 N hI.2 (by omega) (by omega), Option.bind_some]
    show _ = if (ws ++ []).sum = 0 then K E ((a + 1 : Nat) : Int) else some false
    rw [List.append_nil, Bool.not_true, cond_false, wSign_eq, Option.bind_some, cond_not, cond_eqB, W_i64 (x := (a : Int) + 1) (by omega) (by omega), natCast_succ' a]
    by_cases h : ws.sum = 0
    · rw [if_pos h, if_pos (sgn_zero.2 h)]
    · rw [if_neg h, if_neg (fun k => h (sgn_zero.1 k))]
theorem flatE_eq (N : Nat) (hN : 2000000 ≤ N) {E : wtI3} (hq : Qty64 E) (hl : E.length ≤ 100000) : F229 N E = some (decide (∀ j, j < nInsts → flatE E j) && true) := by
  unfold F229 F229.b
  refine scan0 (len := nInsts) (F := fun n i => F229.l2 N n E i) (flatE E) (fun n i r hi hp hr => ?_) (fun n => ?_) N (by unfold nInsts; omega)
  · unfold F229.l2 F229.l2b
    unfold nInsts at hi
    rw [ltB_t (by omega), cond_true, flat_in N hN _ hq hl i hi, hr]
    unfold flatE eqI
    rfl
  · unfold F229.l2 F229.l2b
    rw [ltB_f (by unfold nInsts; omega), cond_false]

/-- Shifts that may be. -/
structure GoodS (E : wtI3) : Prop where
  place : ∀ x ∈ E, okPlace x.1 x.2.1
  q : ∀ x ∈ E, In64 (qty x) ∧ okQ (qty x)
  len : E.length ≤ 400
  flat : ∀ i : Int, (qtysIn i E).sum = 0

theorem few_place {x : vtI3} (h : okPlace x.1 x.2.1) : fewK (keyOf x) := by
  have h' : okPlace (keyOf x).1 (keyOf x).2 := h
  unfold okPlace at h'
  unfold fewK few
  omega
theorem sumAt_nokey {l : wtI3} {k : Key2} (h : k ∉ l.map keyOf) : sumAt k.1 k.2 l = 0 := sumAt_zero fun x hx e => h (by
  have : keyOf x = k := Prod.ext e.1 e.2
  rw [← this]; exact List.mem_map_of_mem hx)

theorem postP_ins (N : Nat) (hN : 2000000 ≤ N) {l E : wtI3} (hq : Qty64 E) (hE : E.length ≤ 400) (hp : ∀ x ∈ E, fewK (keyOf x)) (hs : Srt (l.map keyOf)) (hl : l.length ≤ 90000) (hlq : Qty64 l) (hlp : ∀ x ∈ l, fewK (keyOf x)) :
    F179.l13 N N E l E (E.length : Int) 0 = outS (coll Fq (fS l E) (insAll (l.map keyOf) E)) := by
  have := lrec E zz3 (fun n i K => F179.l13 N n E (rowsOf l K) E (E.length : Int) i) (fun t K => outS (coll Fq (fS l E) (insAll K t)))
    (fun i (K : List Key2) => K.length ≤ l.length + i ∧ Srt K ∧ (∀ k ∈ K, fewK k) ∧ ∀ x ∈ l, keyOf x ∈ K)
    (fun n i K hi hI hr => ?_) (fun n K hI => ?_) E.length N 0 (l.map keyOf) (by omega) (by omega) (by omega) ⟨by rw [List.length_map]; omega, hs, fun k hk => by
      obtain ⟨x, hx, rfl⟩ := List.mem_map.1 hk
      exact hlp x hx, fun x hx => List.mem_map_of_mem hx⟩
  · rw [show ((0 : Nat) : Int) = 0 from rfl, List.drop_zero] at this
    simp only [rowsOf_self hs] at this
    exact this
  · unfold F179.l13 F179.l13b
    obtain ⟨h1, h2, h3, h4⟩ := hI
    have hm : E.getD i zz3 ∈ E := by
      rw [List.getD_eq_getElem?_getD, List.getElem?_eq_getElem hi]; exact List.getElem_mem hi
    rw [ltB_t (by omega), cond_true, inb_t (by omega) (by omega), cond_true, Int.toNat_natCast]
    refine (seekP N _ h2 (by omega) h3 (E.getD i zz3) (hp _ hm) (fun hk => sumAt_nokey fun hx => hk (by
      obtain ⟨x, hx, e⟩ := List.mem_map.1 hx
      rw [← e]; exact h4 x hx)) (E.length : Int) i (by omega) K.length N 0 (by omega) (by omega) (by omega) (fun y hy => nomatch hy)).trans ?_
    rw [List.take_zero, List.nil_append, List.drop_zero, insAll_cons]
    refine hr (insK (keyOf (E.getD i zz3)) K) ⟨Nat.le_trans (insK_len _ K) (by omega), srt_insK h2, fun k hk => (mem_insK.1 hk).elim (fun e => e ▸ hp _ hm) (h3 k), fun x hx => mem_insK.2 (Or.inr (h4 x hx))⟩
  · unfold F179.l13 F179.l13b
    obtain ⟨h1, h2, h3, h4⟩ := hI
    rw [ltB_f (by omega), cond_false, rowsOf_len, okMake_t (by omega) (by omega) (by omega), cond_true]
    have := postP_out N hN (l := l) (R := rowsOf l K) hq (by omega) (by rw [rowsOf_len]; omega) (fun r hr => by
      unfold rowsOf at hr
      obtain ⟨k, hk, rfl⟩ := List.mem_map.1 hr
      refine ⟨?_, rfl⟩
      show In64 (sumAt k.1 k.2 l)
      by_cases hkl : k ∈ l.map keyOf
      · have e : rowsOf l (l.map keyOf) = l := rowsOf_self hs
        have hm : rowK l k ∈ rowsOf l (l.map keyOf) := List.mem_map_of_mem hkl
        rw [e] at hm
        exact hlq (rowK l k) hm
      · rw [sumAt_nokey hkl]; exact ⟨by decide, by decide⟩)
    rw [rowsOf_keys, rowsOf_len] at this
    exact this

theorem okStock_srt {l : wtI3} (h : okStock l = true) : Srt (l.map keyOf) ∧ (∀ x ∈ l, okPlace x.1 x.2.1 ∧ okQ (qty x)) := by
  unfold okStock at h
  rw [Bool.and_true] at h
  have h' := of_decide_eq_true h
  have get : ∀ (i : Nat) (hi : i < l.length), l.getD i zz3 = l[i] := fun i hi => by rw [List.getD_eq_getElem?_getD, List.getElem?_eq_getElem hi]; rfl
  have hadj : ∀ i, i + 1 < l.length → kLt (keyOf (l.getD i zz3)) (keyOf (l.getD (i + 1) zz3)) := fun i hi => (h' (i + 1) hi).2.2.2 (by omega)
  have hlt : ∀ j, j < l.length → ∀ i, i < j → kLt (keyOf (l.getD i zz3)) (keyOf (l.getD j zz3)) := by
    intro j
    induction j with
    | zero => intro _ i hi; omega
    | succ j ih =>
      intro hj i hi
      by_cases e : i = j
      · rw [e]; exact hadj j hj
      · exact kLt_trans (ih (by omega) i (by omega)) (hadj j hj)
  refine ⟨?_, fun x hx => ?_⟩
  · refine List.pairwise_map.2 (List.pairwise_iff_getElem.2 fun i j hi hj hij => ?_)
    have := hlt j hj i hij
    rw [get i hi, get j hj] at this
    exact this
  · obtain ⟨i, hi, e⟩ := List.getElem_of_mem hx
    have := h' i hi
    unfold okPos okPos6 at this
    rw [get i hi, e] at this
    exact ⟨this.1, this.2.2.1⟩

theorem Post_eq (N : Nat) (hN : 2000000 ≤ N) {l E : wtI3} (hk : okStock l = true) (hl : l.length ≤ 90000) (hlq : Qty64 l) (g : GoodS E) : F179 N l E = outS (coll Fq (fS l E) (insAll (l.map keyOf) E)) := by
  obtain ⟨hs, hlp⟩ := okStock_srt hk
  have hE := g.len
  unfold F179 F179.b
  rw [Stock_eq N (by omega) (by omega), hk, Option.bind_some, Bool.not_true, cond_false, ltB_f (by omega), cond_false]
  refine lrec0 E zz3 (fun n i => F179.l4 N n l E E (E.length : Int) i) (fun _ => outS (coll Fq (fS l E) (insAll (l.map keyOf) E))) (fun n i hi hr => ?_) (fun n => ?_) N (by omega)
  · unfold F179.l4 F179.l4b
    have hm : E.getD i zz3 ∈ E := by
      rw [List.getD_eq_getElem?_getD, List.getElem?_eq_getElem hi]; exact List.getElem_mem hi
    rw [ltB_t (by omega), cond_true, inb_t (by omega) (by omega), cond_true, Int.toNat_natCast, skey_eq, decide_eq_true (g.place _ hm), Option.bind_some, Bool.not_true, cond_false, Quantity_eq, Option.bind_some,
      decide_eq_true (show okQ ((E.getD i zz3).2.2.1) from (g.q _ hm).2), Bool.not_true, cond_false, W_i64 (x := (i : Int) + 1) (by omega) (by omega), natCast_succ' i]
    exact hr
  · unfold F179.l4 F179.l4b
    have hf : F229 N E = some true := by
      rw [flatE_eq N hN (fun x hx => (g.q x hx).1) (by omega), decide_eq_true (p := ∀ j, j < nInsts → flatE E j) (fun j _ => g.flat (j : Int))]; rfl
    rw [ltB_f (by omega), cond_false, hf, Option.bind_some, Bool.not_true, cond_false, clL_eq N (by omega), Option.bind_some]
    exact postP_ins N hN (fun x hx => (g.q x hx).1) hE (fun x hx => few_place (g.place x hx)) hs hl hlq (fun x hx => few_place (hlp x hx).1)
end VM
end

section
/- Plain laws: novationref10.Shifted. -/
set_option linter.unusedSimpArgs false
namespace VM
open Go VM.F
set_option linter.unusedVariables false

def rowG (a b : Nat) : Nat → List Key2
  | 0 => []
  | m + 1 => ((a : Int), (b : Int)) :: rowG a (b + 1) m
def gridG (w a : Nat) : Nat → List Key2
  | 0 => []
  | m + 1 => rowG a 0 w ++ gridG w (a + 1) m
theorem mem_rowG {k : Key2} {a : Nat} : ∀ {m b : Nat}, k ∈ rowG a b m ↔ k.1 = a ∧ (b : Int) ≤ k.2 ∧ k.2 < (b + m : Nat)
  | 0, b => ⟨fun h => (nomatch h), fun h => by omega⟩
  | m + 1, b => by
    show k ∈ ((a : Int), (b : Int)) :: rowG a (b + 1) m ↔ _
    rw [List.mem_cons, mem_rowG]
    have : k = ((a : Int), (b : Int)) ↔ k.1 = a ∧ k.2 = b := ⟨fun h => h ▸ ⟨rfl, rfl⟩, fun h => Prod.ext h.1 h.2⟩
    rw [this]
    omega
theorem mem_gridG {k : Key2} {w : Nat} : ∀ {m a : Nat}, k ∈ gridG w a m ↔ (a : Int) ≤ k.1 ∧ k.1 < (a + m : Nat) ∧ 0 ≤ k.2 ∧ k.2 < w
  | 0, a => ⟨fun h => (nomatch h), fun h => by omega⟩
  | m + 1, a => by
    show k ∈ rowG a 0 w ++ gridG w (a + 1) m ↔ _
    rw [List.mem_append, mem_rowG, mem_gridG]
    omega
theorem srt_rowG (a : Nat) : ∀ (m b : Nat), Srt (rowG a b m)
  | 0, b => List.Pairwise.nil
  | m + 1, b => List.pairwise_cons.2 ⟨fun k hk => by
    have := mem_rowG.1 hk
    show (a : Int) < k.1 ∨ ((a : Int) = k.1 ∧ (b : Int) < k.2)
    omega, srt_rowG a m (b + 1)⟩
theorem srt_gridG (w : Nat) : ∀ (m a : Nat), Srt (gridG w a m)
  | 0, a => List.Pairwise.nil
  | m + 1, a => List.pairwise_append.2 ⟨srt_rowG a w 0, srt_gridG w m (a + 1), fun x hx y hy => by
    have h1 := mem_rowG.1 hx
    have h2 := mem_gridG.1 hy
    show x.1 < y.1 ∨ (x.1 = y.1 ∧ x.2 < y.2)
    omega⟩

/-- A place in sorted rows, on the way through the grid. -/
structure Mark (l : wtI3) (a b p : Nat) : Prop where
  le : p ≤ l.length
  lo : ∀ x ∈ l.take p, kLt (keyOf x) ((a : Int), (b : Int))
  hi : ∀ x ∈ l.drop p, ¬ kLt (keyOf x) ((a : Int), (b : Int))
theorem kLt_next {k : Key2} {a b : Nat} : kLt k ((a : Int), ((b + 1 : Nat) : Int)) ↔ kLt k ((a : Int), (b : Int)) ∨ k = ((a : Int), (b : Int)) := by
  have : k = ((a : Int), (b : Int)) ↔ k.1 = a ∧ k.2 = b := ⟨fun h => h ▸ ⟨rfl, rfl⟩, fun h => Prod.ext h.1 h.2⟩
  rw [this]
  show (k.1 < (a : Int) ∨ (k.1 = (a : Int) ∧ k.2 < ((b + 1 : Nat) : Int))) ↔ (k.1 < (a : Int) ∨ (k.1 = (a : Int) ∧ k.2 < (b : Int))) ∨ _
  omega
theorem Mark.row {l : wtI3} {a w p : Nat} (h : Mark l a w p) (hw : ∀ x ∈ l, 0 ≤ (keyOf x).2 ∧ (keyOf x).2 < w) : Mark l (a + 1) 0 p := by
  have key : ∀ x ∈ l, (kLt (keyOf x) ((a : Int), (w : Int)) ↔ kLt (keyOf x) (((a + 1 : Nat) : Int), ((0 : Nat) : Int))) := fun x hx => by
    have := hw x hx
    show ((keyOf x).1 < (a : Int) ∨ ((keyOf x).1 = (a : Int) ∧ (keyOf x).2 < (w : Int))) ↔ ((keyOf x).1 < ((a + 1 : Nat) : Int) ∨ ((keyOf x).1 = ((a + 1 : Nat) : Int) ∧ (keyOf x).2 < ((0 : Nat) : Int)))
    omega
  exact ⟨h.le, fun x hx => (key x (List.mem_of_mem_take hx)).1 (h.lo x hx), fun x hx k => h.hi x hx ((key x (List.mem_of_mem_drop hx)).2 k)⟩
theorem sumAt_append (a b : Int) (l m : wtI3) : sumAt a b (l ++ m) = sumAt a b l + sumAt a b m := by
  induction l with
  | nil => rw [List.nil_append, sumAt_nil]; omega
  | cons x t ih => rw [List.cons_append, sumAt_cons, sumAt_cons, ih]; omega
theorem Mark.step {l : wtI3} (hs : Srt (l.map keyOf)) {a b p : Nat} (h : Mark l a b p) :
    (p < l.length ∧ (l.getD p zz3).1 = (a : Int) ∧ (l.getD p zz3).2.1 = (b : Int) ∧ sumAt (a : Int) (b : Int) l = qty (l.getD p zz3) ∧ Mark l a (b + 1) (p + 1)) ∨
    ((p < l.length → (l.getD p zz3).1 = (a : Int) → (l.getD p zz3).2.1 = (b : Int) → False) ∧ sumAt (a : Int) (b : Int) l = 0 ∧ Mark l a (b + 1) p) := by
  have no : ∀ {x : vtI3} {k : Key2}, ¬ keyOf x = k → ¬ (x.1 = k.1 ∧ x.2.1 = k.2) := fun h e => h (Prod.ext e.1 e.2)
  have hz : sumAt (a : Int) (b : Int) (l.take p) = 0 := sumAt_zero fun x hx e => by
    have e' : keyOf x = ((a : Int), (b : Int)) := Prod.ext e.1 e.2
    have := h.lo x hx
    rw [e'] at this
    exact kLt_irr this
  have hsum : sumAt (a : Int) (b : Int) l = sumAt (a : Int) (b : Int) (l.drop p) := by
    conv => lhs; rw [← List.take_append_drop p l]
    rw [sumAt_append, hz]; omega
  by_cases hp : p < l.length
  · have hd := drop_cons hp zz3
    have hsd : Srt ((l.drop p).map keyOf) := by
      rw [List.map_drop]; exact List.Pairwise.sublist (List.drop_sublist ..) hs
    have hhi := h.hi
    rw [hd] at hsd hhi hsum
    have hgt := (List.pairwise_cons.1 hsd).1
    have hx0 := hhi _ (List.mem_cons_self ..)
    have htake : l.take (p + 1) = l.take p ++ [l.getD p zz3] := by
      rw [← List.take_append_getElem hp, List.getD_eq_getElem?_getD, List.getElem?_eq_getElem hp]; rfl
    by_cases he : keyOf (l.getD p zz3) = ((a : Int), (b : Int))
    · refine Or.inl ⟨hp, congrArg Prod.fst he, congrArg Prod.snd he, ?_, by omega, fun x hx => ?_, fun x hx hk => ?_⟩
      · rw [hsum, sumAt_cons, if_pos ⟨congrArg Prod.fst he, congrArg Prod.snd he⟩, sumAt_zero fun x hx e => ?_]
        · omega
        · have hg := hgt (keyOf x) (List.mem_map_of_mem hx)
          have e' : keyOf x = ((a : Int), (b : Int)) := Prod.ext e.1 e.2
          rw [he, e'] at hg
          exact kLt_irr hg
      · rw [htake] at hx
        rcases List.mem_append.1 hx with hx | hx
        · exact kLt_next.2 (Or.inl (h.lo x hx))
        · rw [List.mem_singleton.1 hx]; exact kLt_next.2 (Or.inr he)
      · have hg := hgt (keyOf x) (List.mem_map_of_mem hx)
        rw [he] at hg
        rcases kLt_next.1 hk with hk | hk
        · exact kLt_asymm hg hk
        · rw [hk] at hg; exact kLt_irr hg
    · have hall : ∀ x ∈ l.getD p zz3 :: l.drop (p + 1), keyOf x ≠ ((a : Int), (b : Int)) := fun x hx e => by
        rcases List.mem_cons.1 hx with rfl | hx
        · exact he e
        · have hg := hgt (keyOf x) (List.mem_map_of_mem hx)
          rw [e] at hg
          exact hx0 hg
      refine Or.inr ⟨fun _ e1 e2 => he (Prod.ext e1 e2), ?_, h.le, fun x hx => kLt_next.2 (Or.inl (h.lo x hx)), fun x hx hk => ?_⟩
      · rw [hsum]
        exact sumAt_zero fun x hx => no (hall x hx)
      · rw [hd] at hx
        rcases kLt_next.1 hk with hk | hk
        · exact hhi x hx hk
        · exact hall x hx hk
  · have hd : l.drop p = [] := List.drop_eq_nil_of_le (by omega)
    refine Or.inr ⟨fun h => absurd h hp, by rw [hsum, hd]; rfl, h.le, fun x hx => kLt_next.2 (Or.inl (h.lo x hx)), fun x hx => ?_⟩
    rw [hd] at hx; nomatch hx

def outB (out : wtI3) (r : Option wtI3) : Option (wtI3 × Bool) := some (match r with | some o => (out ++ o, true) | none => ([], false))

theorem rQuantity_eq (N : Nat) (v : Int) : F236 N (bigN v) = some (if Fq v then (v, true) else (0, false)) := by
  unfold F236
  rw [Int_eq, Option.bind_some]
  by_cases h : In64 v
  · rw [toI_pos h]
    dsimp only
    rw [Bool.not_true, cond_false, cond_eqB]
    by_cases h2 : okQ v
    · rw [if_neg (show ¬ v = -9223372036854775808 from h2), if_pos (show Fq v from ⟨h, h2⟩)]
    · rw [if_pos (show v = -9223372036854775808 by unfold okQ at h2; omega), if_neg (fun h => h2 h.2)]
  · rw [toI_neg h, if_neg (fun k => h k.1)]
    rfl

theorem shift_in (N : Nat) (hN : 4000000 ≤ N) (C4 : F201.t_l4) (C7 : F201.t_l7) {l E out : wtI3} (hq : Qty64 E) (hl : E.length ≤ 100000) (ho : out.length ≤ 1000000) (p : Int) (a b : Nat) (hb : b ≤ 1000000) (q : Int) (hF : Fq q) :
    F201.l15 N C4 C7 N l E out p (a : Int) (b : Int) q false (false, (([] : List Int), ())) 0 =
      if Fq (q + sumAt (a : Int) (b : Int) E) then C7 l E (if q + sumAt (a : Int) (b : Int) E = 0 then out else out ++ [((a : Int), ((b : Int), (q + sumAt (a : Int) (b : Int) E, ())))]) p (a : Int) ((b + 1 : Nat) : Int) else some ([], false) := by
  have := lrec E zz3 (fun n j ws => F201.l15 N C4 C7 n l E out p (a : Int) (b : Int) q (!ws.isEmpty) (bigN ws.sum) j)
    (fun t ws => if Fq (q + (ws ++ valsAt (a : Int) (b : Int) t).sum) then C7 l E (if q + (ws ++ valsAt (a : Int) (b : Int) t).sum = 0 then out else out ++ [((a : Int), ((b : Int), (q + (ws ++ valsAt (a : Int) (b : Int) t).sum, ())))]) p (a : Int) ((b + 1 : Nat) : Int) else some ([], false))
    (fun j (ws : List Int) => ws.length ≤ j ∧ ∀ x ∈ ws, In64 x)
    (fun n j ws hj hI hr' => ?_) (fun n ws hI => ?_) E.length N 0 [] (by omega) (by omega) (by omega) ⟨Nat.le_refl _, fun x hx => nomatch hx⟩
  · rw [show ((0 : Nat) : Int) = 0 from rfl, List.drop_zero, List.sum_nil, bigN_zero] at this
    exact this
  · unfold F201.l15 F201.l15b
    have h64 := qty_at hq j
    have h64' := h64
    unfold In64 qty at h64'
    have hb := sum64 hI.2
    rw [ltB_t (by omega), cond_true, inb_t (by omega) (by omega), cond_true, cond_true, cond_true, Int.toNat_natCast, Whole_eq N (by omega) h64'.1 h64'.2, Option.bind_some, Plus_eq N (by omega) ((fit_sum (n := ws.length) (by omega) hb.1 hb.2).mono (by omega)) ((Fit.i64 h64'.1 h64'.2).mono (by omega)), Option.bind_some, W_i64 (x := (j : Int) + 1) (by omega) (by omega), natCast_succ' j, cond_eqB, cond_eqB]
    by_cases h1 : (E.getD j zz3).1 = (a : Int)
    · by_cases h2 : (E.getD j zz3).2.1 = (b : Int)
      · have hc : valsAt (a : Int) (b : Int) (E.getD j zz3 :: E.drop (j + 1)) = qty (E.getD j zz3) :: valsAt (a : Int) (b : Int) (E.drop (j + 1)) := by rw [valsAt_cons, if_pos ⟨h1, h2⟩]
        rw [if_pos h1, if_pos h2, hc]
        have := hr' (ws ++ [qty (E.getD j zz3)]) ⟨by rw [List.length_append, List.length_singleton]; omega, in64_snoc hI.2 h64⟩
        rw [List.sum_append, List.sum_cons, List.sum_nil, Int.add_zero, List.append_assoc] at this
        refine Eq.trans ?_ this
        rw [show (!(ws ++ [qty (E.getD j zz3)]).isEmpty) = true by cases ws <;> rfl]
        rfl
      · have hc : valsAt (a : Int) (b : Int) (E.getD j zz3 :: E.drop (j + 1)) = valsAt (a : Int) (b : Int) (E.drop (j + 1)) := by rw [valsAt_cons, if_neg (fun h => h2 h.2)]
        rw [if_pos h1, if_neg h2, hc]
        exact hr' ws ⟨by omega, hI.2⟩
    · have hc : valsAt (a : Int) (b : Int) (E.getD j zz3 :: E.drop (j + 1)) = valsAt (a : Int) (b : Int) (E.drop (j + 1)) := by rw [valsAt_cons, if_neg (fun h => h1 h.1)]
      rw [if_neg h1, hc]
      exact hr' ws ⟨by omega, hI.2⟩
  · unfold F201.l15 F201.l15b
    have hs := sum64 hI.2
    have hF' := hF.1
    unfold In64 at hF'
    rw [ltB_f (by omega), cond_false, Whole_eq N (by omega) hF'.1 hF'.2, Option.bind_some, Plus_eq N (by omega) ((fit_sum (n := ws.length) (by omega) hs.1 hs.2).mono (by omega)) ((Fit.i64 hF'.1 hF'.2).mono (by omega)), Option.bind_some, rQuantity_eq, Option.bind_some, W_i64 (x := (b : Int) + 1) (by omega) (by omega), natCast_succ' b, small_t (by rw [List.length_singleton]; omega), cond_true, small_t (by rw [List.length_singleton]; omega), cond_true, cond_not]
    show _ = if Fq (q + (ws ++ []).sum) then C7 l E (if q + (ws ++ []).sum = 0 then out else out ++ [((a : Int), ((b : Int), (q + (ws ++ []).sum, ())))]) p (a : Int) ((b + 1 : Nat) : Int) else some ([], false)
    rw [List.append_nil, Int.add_comm ws.sum q]
    cases ws with
    | nil =>
      show cond (!eqB q 0) _ _ = _
      rw [cond_not, cond_eqB, List.sum_nil, Int.add_zero, if_pos hF]
      by_cases h : q = 0
      · rw [if_pos h, if_pos h]
      · rw [if_neg h, if_neg h]
    | cons w ws =>
      show cond (!(if Fq (q + (w :: ws).sum) then (q + (w :: ws).sum, true) else (0, false)).2) _ _ = _
      by_cases h2 : Fq (q + (w :: ws).sum)
      · rw [if_pos h2, if_pos h2]
        dsimp only
        rw [Bool.not_true, cond_false, cond_not, cond_eqB]
        by_cases h : q + (w :: ws).sum = 0
        · rw [if_pos h, if_pos h]
        · rw [if_neg h, if_neg h]
      · rw [if_neg h2, if_neg h2]; rfl
end VM
end

section
/- Plain laws: novationref10.Shifted, whole; stock.Post and Shifted are one. -/
set_option linter.unusedSimpArgs false
namespace VM
open Go VM.F
set_option linter.unusedVariables false

theorem outB_next {P : Int → Prop} [DecidablePred P] {f : Int → Int → Int} {k : Key2} {K : List Key2} {out : wtI3} {v : Int} (hv : f k.1 k.2 = v) :
    (if P v then outB (if v = 0 then out else out ++ [(k.1, (k.2, (v, ())))]) (coll P f K) else some ([], false)) = outB out (coll P f (k :: K)) := by
  rw [coll_cons, hv]
  by_cases h : P v
  · rw [if_pos h, if_pos h]
    cases coll P f K with
    | none => rfl
    | some o =>
      show some ((if v = 0 then out else out ++ [(k.1, (k.2, (v, ())))]) ++ o, true) = some (out ++ (if v = 0 then o else (k.1, (k.2, (v, ()))) :: o), true)
      by_cases h0 : v = 0
      · rw [if_pos h0, if_pos h0]
      · rw [if_neg h0, if_neg h0, List.append_assoc]; rfl
  · rw [if_neg h, if_neg h]; rfl

theorem fq_at {l : wtI3} (hs : Srt (l.map keyOf)) (hl : ∀ x ∈ l, Fq (qty x)) (k : Key2) : Fq (sumAt k.1 k.2 l) := by
  by_cases hk : k ∈ l.map keyOf
  · have hm : rowK l k ∈ rowsOf l (l.map keyOf) := List.mem_map_of_mem hk
    rw [rowsOf_self hs] at hm
    exact hl (rowK l k) hm
  · rw [sumAt_nokey hk]; exact ⟨⟨by decide, by decide⟩, by decide⟩

theorem shift_row (N : Nat) (hN : 4000000 ≤ N) (C : F201.t_l4) {l E : wtI3} (hq : Qty64 E) (hl : E.length ≤ 100000) (hs : Srt (l.map keyOf)) (hll : l.length ≤ 100000) (hf : ∀ x ∈ l, Fq (qty x)) (hw : ∀ x ∈ l, 0 ≤ (keyOf x).2 ∧ (keyOf x).2 < (6 : Nat)) (a : Nat) (ha : a ≤ 24) (G : List Key2)
    (hc : ∀ (p : Nat) (out : wtI3), Mark l (a + 1) 0 p → out.length ≤ 6 * (a + 1) → C l E out (p : Int) ((a + 1 : Nat) : Int) = outB out (coll Fq (fS l E) G)) :
    ∀ (m n b p : Nat) (out : wtI3), b + m = 6 → m < n → Mark l a b p → out.length ≤ 6 * a + b → F201.l7 N C n l E out (p : Int) (a : Int) (b : Int) = outB out (coll Fq (fS l E) (rowG a b m ++ G))
  | m, 0, b, p, out, _, hn, _, _ => by omega
  | 0, n + 1, b, p, out, hb, _, hM, ho => by
    have e : b = 6 := by omega
    subst e
    unfold F201.l7 F201.l7b
    rw [ltB_f (by omega), cond_false, W_i64 (x := (a : Int) + 1) (by omega) (by omega), natCast_succ' a]
    exact hc p out (hM.row hw) (by omega)
  | m + 1, n + 1, b, p, out, hb, hn, hM, ho => by
    have hp := hM.le
    have rec' : ∀ (p : Nat) (v : Int), Mark l a (b + 1) p → F201.l7 N C n l E (if v = 0 then out else out ++ [((a : Int), ((b : Int), (v, ())))]) (p : Int) (a : Int) ((b + 1 : Nat) : Int) = outB (if v = 0 then out else out ++ [((a : Int), ((b : Int), (v, ())))]) (coll Fq (fS l E) (rowG a (b + 1) m ++ G)) := fun p v h =>
      shift_row N hN C hq hl hs hll hf hw a ha G hc m n (b + 1) p _ (by omega) (by omega) h (by
        split
        · omega
        · rw [List.length_append, List.length_singleton]; omega)
    have hq0 := fq_at hs hf ((a : Int), (b : Int))
    unfold F201.l7 F201.l7b F201.j13 F201.j13b
    show _ = outB out (coll Fq (fS l E) (((a : Int), (b : Int)) :: (rowG a (b + 1) m ++ G)))
    rw [ltB_t (x := (b : Int)) (by omega), cond_true, cond_ltB, cond_eqB, cond_eqB, Int.toNat_natCast]
    have fin : ∀ (p : Nat) (q : Int), q = sumAt (a : Int) (b : Int) l → Mark l a (b + 1) p → F201.l15 N C (F201.l7 N C n) N l E out (p : Int) (a : Int) (b : Int) q false (false, (([] : List Int), ())) 0 = outB out (coll Fq (fS l E) (((a : Int), (b : Int)) :: (rowG a (b + 1) m ++ G))) := fun p q e h => by
      subst e
      rw [shift_in N hN C _ hq hl (by omega) (p : Int) a b (by omega) _ hq0, rec' p _ h]
      exact outB_next (k := ((a : Int), (b : Int))) rfl
    rcases hM.step hs with ⟨h1, h2, h3, h4, h5⟩ | ⟨h1, h2, h3⟩
    · rw [if_pos (show (p : Int) < (l.length : Int) by omega), inb_t (by omega) (by omega), cond_true, cond_true, if_pos h2, if_pos h3, W_i64 (x := (p : Int) + 1) (by omega) (by omega), natCast_succ' p, cond_true]
      exact fin (p + 1) _ h4.symm h5
    · by_cases g1 : p < l.length
      · rw [if_pos (show (p : Int) < (l.length : Int) by omega), inb_t (by omega) (by omega), cond_true, cond_true]
        by_cases g2 : (l.getD p zz3).1 = (a : Int)
        · rw [if_pos g2, if_neg (fun g3 => h1 g1 g2 g3)]
          exact fin p _ h2.symm h3
        · rw [if_neg g2]
          exact fin p _ h2.symm h3
      · rw [if_neg (show ¬ (p : Int) < (l.length : Int) by omega)]
        exact fin p _ h2.symm h3

theorem shift_all (N : Nat) (hN : 4000000 ≤ N) {l E : wtI3} (hq : Qty64 E) (hl : E.length ≤ 100000) (hs : Srt (l.map keyOf)) (hll : l.length ≤ 100000) (hf : ∀ x ∈ l, Fq (qty x)) (hw : ∀ x ∈ l, 0 ≤ (keyOf x).2 ∧ (keyOf x).2 < (6 : Nat)) :
    ∀ (m n a p : Nat) (out : wtI3), a + m = 25 → m < n → Mark l a 0 p → out.length ≤ 6 * a → F201.l4 N n l E out (p : Int) (a : Int) = outB out (coll Fq (fS l E) (gridG 6 a m))
  | m, 0, a, p, out, _, hn, _, _ => by omega
  | 0, n + 1, a, p, out, ha, _, hM, ho => by
    unfold F201.l4 F201.l4b
    rw [leB_f (by omega), cond_false]
    show some (out, true) = some (out ++ [], true)
    rw [List.append_nil]
  | m + 1, n + 1, a, p, out, ha, hn, hM, ho => by
    unfold F201.l4 F201.l4b
    rw [leB_t (by omega), cond_true]
    exact shift_row N hN _ hq hl hs hll hf hw a (by omega) (gridG 6 (a + 1) m) (fun p out h ho => shift_all N hN hq hl hs hll hf hw m n (a + 1) p out (by omega) (by omega) h ho) 6 N 0 p out (by omega) (by omega) hM (by omega)

/-- stock.Post's answer, with the document's. -/
def stockG : List Key2 := gridG 6 0 25
theorem Shifted_eq (N : Nat) (hN : 4000000 ≤ N) {l E : wtI3} (hk : okStock l = true) (hl : l.length ≤ 90000) (hlq : Qty64 l) (hq : Qty64 E) (hE : E.length ≤ 100000) : F201 N l E = outB [] (coll Fq (fS l E) stockG) := by
  obtain ⟨hs, hlp⟩ := okStock_srt hk
  unfold F201 F201.b
  refine shift_all N hN hq hE hs (by omega) (fun x hx => ⟨hlq x hx, (hlp x hx).2⟩) (fun x hx => ?_) 25 N 0 0 [] (by omega) (by omega) ⟨by omega, fun x hx => (nomatch hx), fun x hx hlt => ?_⟩ (by simp)
  · have h : okPlace (keyOf x).1 (keyOf x).2 := (hlp x hx).1
    unfold okPlace at h; omega
  · have h : okPlace (keyOf x).1 (keyOf x).2 := (hlp x (List.mem_of_mem_drop hx)).1
    unfold okPlace at h
    have hlt' : (keyOf x).1 < ((0 : Nat) : Int) ∨ ((keyOf x).1 = ((0 : Nat) : Int) ∧ (keyOf x).2 < ((0 : Nat) : Int)) := hlt
    omega
theorem stock_one {l E : wtI3} (hk : okStock l = true) (hp : ∀ x ∈ E, okPlace x.1 x.2.1) : coll Fq (fS l E) (insAll (l.map keyOf) E) = coll Fq (fS l E) stockG := by
  obtain ⟨hs, hlp⟩ := okStock_srt hk
  refine coll_sub ⟨⟨by decide, by decide⟩, by decide⟩ (srt_insAll hs) (srt_gridG 6 25 0) (fun k hk => ?_) (fun k hk hn => ?_)
  · have : okPlace k.1 k.2 := by
      rcases mem_insAll.1 hk with h | ⟨x, hx, rfl⟩
      · obtain ⟨x, hx, rfl⟩ := List.mem_map.1 h
        exact (hlp x hx).1
      · exact hp x hx
    unfold okPlace at this
    exact mem_gridG.2 (by omega)
  · have h1 : k ∉ l.map keyOf := fun h => hn (mem_insAll.2 (Or.inl h))
    have h2 : k ∉ E.map keyOf := fun h => by
      obtain ⟨x, hx, e⟩ := List.mem_map.1 h
      exact hn (mem_insAll.2 (Or.inr ⟨x, hx, e⟩))
    unfold fS
    rw [sumAt_nokey h1, sumAt_nokey h2]; rfl
end VM
end

