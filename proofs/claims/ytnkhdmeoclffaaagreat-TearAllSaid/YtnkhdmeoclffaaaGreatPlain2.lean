/- A part of the proof of TearAll, of layer 29: what the functions compute, in plain words. -/
import Derived.Test.YtnkhdmeoclffaaaGreatPlain1
set_option linter.all false
section
/- Plain laws: accounts, as the document has them. -/
set_option linter.unusedSimpArgs false
set_option linter.unusedVariables false
namespace VM
open Go VM.F

theorem twin_loop (N : Nat) (K : List (Ty.den tI4) → Int → Option Bool) {l : List (Ty.den tI4)} (hl : l.length ≤ 100000) {i : Nat} (hi : i < l.length) : ∀ (m n k : Nat), i - k ≤ m → m < n → k ≤ i → (eqI (l.getD i ((0 : Int), ((0 : Int), ((0 : Int), ((0 : Int), ()))))).2.2.1 1 → ownSome l k (l.getD i ((0 : Int), ((0 : Int), ((0 : Int), ((0 : Int), ()))))).2.1 = false) →
    novationref10_Accs.l8 N K n l (i : Int) (l.getD i ((0 : Int), ((0 : Int), ((0 : Int), ((0 : Int), ()))))) (k : Int) = if noTwin l i then K l ((i + 1 : Nat) : Int) else some false
  | m, 0, k, _, hn, _, _ => by omega
  | m, n + 1, k, hm, hn, hk, h => by
    unfold novationref10_Accs.l8 novationref10_Accs.l8b
    by_cases hki : k < i
    · rw [ltB_t (by omega), cond_true, inb_t (by omega) (by omega), cond_true, cond_true, Int.toNat_natCast, W_i64 (x := (k : Int) + 1) (by omega) (by omega), natCast_succ', cond_eqB, cond_eqB, cond_eqB]
      by_cases h1 : eqI (l.getD i ((0 : Int), ((0 : Int), ((0 : Int), ((0 : Int), ()))))).2.2.1 1
      · have h1' := h1
        unfold eqI at h1'
        rw [if_pos h1']
        by_cases h2 : ownAt l k (l.getD i ((0 : Int), ((0 : Int), ((0 : Int), ((0 : Int), ()))))).2.1
        · have h2' := h2
          unfold ownAt eqI at h2'
          have hno : ¬ noTwin l i := fun h3 => h3 ⟨h1, ownSome_iff.2 ⟨k, hki, h2⟩⟩
          rw [if_pos h2'.1, if_pos h2'.2, if_neg hno]
        · have hrec := twin_loop N K hl hi (m - 1) n (k + 1) (by omega) (by omega) (by omega) (fun _ => by rw [ownSome_succ, h h1, decide_eq_false h2]; rfl)
          split
          · split
            · rename_i h3 h4
              exact absurd (show ownAt l k (l.getD i ((0 : Int), ((0 : Int), ((0 : Int), ((0 : Int), ()))))).2.1 from ⟨h3, h4⟩) h2
            · exact hrec
          · exact hrec
      · have h1' := h1
        unfold eqI at h1'
        rw [if_neg h1']
        exact twin_loop N K hl hi (m - 1) n (k + 1) (by omega) (by omega) (by omega) (fun h => absurd h h1)
    · have : k = i := by omega
      subst this
      have hno : noTwin l k := fun h3 => by rw [h h3.1] at h3; exact nomatch h3.2
      rw [ltB_f (by omega), cond_false, if_pos hno, W_i64 (x := (k : Int) + 1) (by omega) (by omega)]; rfl

set_option maxHeartbeats 2000000 in
theorem rAccs_eq (N : Nat) {l : List (Ty.den tI4)} (hl : l.length ≤ 100000) (hN : 200000 ≤ N) : novationref10_Accs N l = some (okAccs l) := by
  unfold novationref10_Accs novationref10_Accs.b
  refine scan0 (F := fun n i => novationref10_Accs.l2 N n l i) (okAcc l) (fun n i r hi hp hr => ?_) (fun n => ?_) N (by omega)
  · unfold novationref10_Accs.l2 novationref10_Accs.l2b
    have hT : novationref10_Accs.j7 N (novationref10_Accs.l2 N n) l (i : Int) (l.getD i ((0 : Int), ((0 : Int), ((0 : Int), ((0 : Int), ()))))) = if noTwin l i then r else some false := by
      unfold novationref10_Accs.j7 novationref10_Accs.j7b
      have := twin_loop N (novationref10_Accs.l2 N n) hl hi i N 0 (by omega) (by omega) (by omega) (fun _ => rfl)
      rw [hr] at this
      exact this
    rw [ltB_t (by omega), cond_true, inb_t (by omega) (by omega), cond_true]
    simp only [Int.toNat_natCast]
    rw [hT]
    have hD : (if okAcc l i then r else some false) = if okAcc5 (l.getD i ((0 : Int), ((0 : Int), ((0 : Int), ((0 : Int), ()))))).1 (l.getD i ((0 : Int), ((0 : Int), ((0 : Int), ((0 : Int), ()))))).2.1 (l.getD i ((0 : Int), ((0 : Int), ((0 : Int), ((0 : Int), ()))))).2.2.1 (l.getD i ((0 : Int), ((0 : Int), ((0 : Int), ((0 : Int), ()))))).2.2.2.1 ∧ lt2 i (l.getD (i - 1) ((0 : Int), ((0 : Int), ((0 : Int), ((0 : Int), ()))))).1 (l.getD i ((0 : Int), ((0 : Int), ((0 : Int), ((0 : Int), ()))))).1 then (if noTwin l i then r else some false) else some false := by
      unfold okAcc
      by_cases h1 : lt2 i (l.getD (i - 1) ((0 : Int), ((0 : Int), ((0 : Int), ((0 : Int), ()))))).1 (l.getD i ((0 : Int), ((0 : Int), ((0 : Int), ((0 : Int), ()))))).1 <;> by_cases h2 : noTwin l i <;> by_cases h3 : okAcc5 (l.getD i ((0 : Int), ((0 : Int), ((0 : Int), ((0 : Int), ()))))).1 (l.getD i ((0 : Int), ((0 : Int), ((0 : Int), ((0 : Int), ()))))).2.1 (l.getD i ((0 : Int), ((0 : Int), ((0 : Int), ((0 : Int), ()))))).2.2.1 (l.getD i ((0 : Int), ((0 : Int), ((0 : Int), ((0 : Int), ()))))).2.2.2.1 <;> simp [h1, h2, h3]
    rw [hD]
    generalize (if noTwin l i then r else some false) = t
    by_cases h0 : 0 < i
    · have e : W .i64 ((i : Int) - 1) = ((i - 1 : Nat) : Int) := by rw [W_i64 (by omega) (by omega)]; omega
      rw [ltB_t (x := 0) (y := (i : Int)) (by omega), e]
      simp only [cond_true, Int.toNat_natCast]
      rw [inb_t (i := ((i - 1 : Nat) : Int)) (by omega) (by omega)]
      simp only [cond_not, cond_ltB, cond_leB, cond_eqB, cond_true]
      by_cases hP : okAcc5 (l.getD i ((0 : Int), ((0 : Int), ((0 : Int), ((0 : Int), ()))))).1 (l.getD i ((0 : Int), ((0 : Int), ((0 : Int), ((0 : Int), ()))))).2.1 (l.getD i ((0 : Int), ((0 : Int), ((0 : Int), ((0 : Int), ()))))).2.2.1 (l.getD i ((0 : Int), ((0 : Int), ((0 : Int), ((0 : Int), ()))))).2.2.2.1 ∧ lt2 i (l.getD (i - 1) ((0 : Int), ((0 : Int), ((0 : Int), ((0 : Int), ()))))).1 (l.getD i ((0 : Int), ((0 : Int), ((0 : Int), ((0 : Int), ()))))).1
      · rw [if_pos hP]; unfold okAcc5 lt2 at hP
        repeat' split
        all_goals first | rfl | omega
      · rw [if_neg hP]; unfold okAcc5 lt2 at hP
        repeat' split
        all_goals first | rfl | omega
    · rw [ltB_f (x := 0) (y := (i : Int)) (by omega)]
      simp only [cond_not, cond_ltB, cond_leB, cond_eqB, cond_true, cond_false]
      by_cases hP : okAcc5 (l.getD i ((0 : Int), ((0 : Int), ((0 : Int), ((0 : Int), ()))))).1 (l.getD i ((0 : Int), ((0 : Int), ((0 : Int), ((0 : Int), ()))))).2.1 (l.getD i ((0 : Int), ((0 : Int), ((0 : Int), ((0 : Int), ()))))).2.2.1 (l.getD i ((0 : Int), ((0 : Int), ((0 : Int), ((0 : Int), ()))))).2.2.2.1 ∧ lt2 i (l.getD (i - 1) ((0 : Int), ((0 : Int), ((0 : Int), ((0 : Int), ()))))).1 (l.getD i ((0 : Int), ((0 : Int), ((0 : Int), ((0 : Int), ()))))).1
      · rw [if_pos hP]; unfold okAcc5 lt2 at hP
        repeat' split
        all_goals first | rfl | omega
      · rw [if_neg hP]; unfold okAcc5 lt2 at hP
        repeat' split
        all_goals first | rfl | omega
  · unfold novationref10_Accs.l2 novationref10_Accs.l2b
    rw [ltB_f (by omega), cond_false]
end VM
end

section
/- Plain laws: members and accounts together. -/
set_option linter.unusedSimpArgs false
set_option linter.unusedVariables false
namespace VM
open Go VM.F

def findOf (a : List (Ty.den tI4)) (id : Int) : Ty.den tI4 × Bool := if okAccs a then findL id a else (((0 : Int), ((0 : Int), ((0 : Int), ((0 : Int), ())))), false)
theorem Find_eq (N : Nat) {a : List (Ty.den tI4)} (hl : a.length ≤ 100000) (hN : 200000 ≤ N) (id : Int) : roll_Find N a id = some (findOf a id) := by
  unfold roll_Find roll_Find.b findOf
  rw [Accs_eq N hl hN, Option.bind_some, cond_not, find_loop N hl hN]
  cases okAccs a <;> rfl
theorem rFind_eq (N : Nat) {a : List (Ty.den tI4)} (hl : a.length ≤ 100000) (hN : 200000 ≤ N) (id : Int) : novationref10_Find N a id = some (findOf a id) := by
  unfold novationref10_Find findOf
  rw [rAccs_eq N hl hN, Option.bind_some, cond_not, rfind_eq N hl hN]
  cases okAccs a <;> rfl
def hasMember (m : List (Ty.den tI2)) (a : List (Ty.den tI4)) (i : Nat) : Prop := ¬ eqI (statusL (a.getD i ((0 : Int), ((0 : Int), ((0 : Int), ((0 : Int), ()))))).2.1 m) 0
instance (m : List (Ty.den tI2)) (a : List (Ty.den tI4)) : DecidablePred (hasMember m a) := fun i => by unfold hasMember; infer_instance
def okRoll (m : List (Ty.den tI2)) (a : List (Ty.den tI4)) : Bool := okMembers m && (okAccs a && (decide (∀ j, j < a.length → hasMember m a j) && true))

theorem Roll_eq (N : Nat) {m : List (Ty.den tI2)} {a : List (Ty.den tI4)} (hm : m.length ≤ 100000) (hl : a.length ≤ 100000) (hN : 200000 ≤ N) : roll_Right N m a = some (okRoll m a) := by
  unfold roll_Right roll_Right.b okRoll
  rw [Members_eq N hm hN, Option.bind_some, cond_not, Accs_eq N hl hN, Option.bind_some, cond_not]
  cases hM : okMembers m
  · rfl
  cases okAccs a
  · rfl
  rw [Bool.true_and, Bool.true_and, cond_true, cond_true]
  refine scan0 (F := fun n i => roll_Right.l4 N n m a (a.length : Int) i) (hasMember m a) (fun n i r hi hp hr => ?_) (fun n => ?_) N (by omega)
  · unfold roll_Right.l4 roll_Right.l4b
    rw [ltB_t (by omega), cond_true, inb_t (by omega) (by omega), cond_true, Int.toNat_natCast, W_i64 (x := (i : Int) + 1) (by omega) (by omega), natCast_succ', Status_eq N hm hN, Option.bind_some, cond_eqB]
    unfold statusOf
    rw [hM, if_pos rfl]
    by_cases hP : hasMember m a i
    · rw [if_pos hP, if_neg (show ¬ ((statusL (a.getD i ((0 : Int), ((0 : Int), ((0 : Int), ((0 : Int), ()))))).2.1 m : Int) = 0) from fun h => hP h)]; exact hr
    · rw [if_neg hP, if_pos (show (statusL (a.getD i ((0 : Int), ((0 : Int), ((0 : Int), ((0 : Int), ()))))).2.1 m : Int) = 0 by unfold hasMember at hP; exact Decidable.not_not.1 hP)]
  · unfold roll_Right.l4 roll_Right.l4b
    rw [ltB_f (by omega), cond_false]

theorem rRoll_eq (N : Nat) {m : List (Ty.den tI2)} {a : List (Ty.den tI4)} (hm : m.length ≤ 100000) (hl : a.length ≤ 100000) (hN : 200000 ≤ N) : novationref10_RightRoll N m a = some (okRoll m a) := by
  unfold novationref10_RightRoll novationref10_RightRoll.b okRoll
  rw [rMembers_eq N hm hN, Option.bind_some, cond_not, rAccs_eq N hl hN, Option.bind_some, cond_not]
  cases hM : okMembers m
  · rfl
  cases okAccs a
  · rfl
  rw [Bool.true_and, Bool.true_and, cond_true, cond_true]
  refine scan0 (F := fun n i => novationref10_RightRoll.l4 N n m a i) (hasMember m a) (fun n i r hi hp hr => ?_) (fun n => ?_) N (by omega)
  · unfold novationref10_RightRoll.l4 novationref10_RightRoll.l4b
    rw [ltB_t (by omega), cond_true, inb_t (by omega) (by omega), cond_true, Int.toNat_natCast, W_i64 (x := (i : Int) + 1) (by omega) (by omega), natCast_succ', rstatus_eq N hm hN, Option.bind_some, cond_eqB]
    by_cases hP : hasMember m a i
    · rw [if_pos hP, if_neg (show ¬ ((statusL (a.getD i ((0 : Int), ((0 : Int), ((0 : Int), ((0 : Int), ()))))).2.1 m : Int) = 0) from fun h => hP h)]; exact hr
    · rw [if_neg hP, if_pos (show (statusL (a.getD i ((0 : Int), ((0 : Int), ((0 : Int), ((0 : Int), ()))))).2.1 m : Int) = 0 by unfold hasMember at hP; exact Decidable.not_not.1 hP)]
  · unfold novationref10_RightRoll.l4 novationref10_RightRoll.l4b
    rw [ltB_f (by omega), cond_false]
end VM
end

section
/- Plain laws: Wides held against one another; sums of rows and positions. -/
set_option linter.unusedSimpArgs false
set_option linter.unusedVariables false
namespace VM
open Go VM.F

theorem teq_wide (a b : Ty.den tWide) : teq (.pair (.int .i64) (.pair (.int .u64) .unit)) a b = (eqB a.1 b.1 && (eqB a.2.1 b.2.1 && true)) := rfl
theorem wCmp_eq (N : Nat) {u v : Int} : wide_Cmp N (wideN u) (wideN v) = some (sgn (u - v)) := by
  unfold wide_Cmp
  rw [teq_wide]
  unfold wideN
  dsimp only
  unfold sgn
  rw [cond_ltB, cond_eqB, cond_ltB, Bool.and_true, eqB_eq, eqB_eq]
  have hu : u = u / 18446744073709551616 * 18446744073709551616 + u % 18446744073709551616 := by omega
  have hv : v = v / 18446744073709551616 * 18446744073709551616 + v % 18446744073709551616 := by omega
  by_cases h1 : u / 18446744073709551616 < v / 18446744073709551616
  · rw [if_pos h1]; congr 1; split <;> (try split) <;> omega
  · rw [if_neg h1]
    by_cases h2 : u / 18446744073709551616 = v / 18446744073709551616
    · rw [if_pos h2, decide_eq_true h2, Bool.true_and]
      by_cases h3 : u % 18446744073709551616 < v % 18446744073709551616
      · rw [if_pos h3]; congr 1; split <;> (try split) <;> omega
      · rw [if_neg h3]
        by_cases h4 : u % 18446744073709551616 = v % 18446744073709551616
        · rw [decide_eq_true h4, cond_true]; congr 1; split <;> (try split) <;> omega
        · rw [decide_eq_false h4, cond_false]; congr 1; split <;> (try split) <;> omega
    · rw [if_neg h2, decide_eq_false h2, Bool.false_and, cond_false]; congr 1; split <;> (try split) <;> omega
theorem wideN_zero : wideN 0 = ((0 : Int), ((0 : Int), ())) := rfl
theorem wSign_eq (N : Nat) {u : Int} : wide_Sign N (wideN u) = some (sgn u) := by
  unfold wide_Sign
  rw [← wideN_zero, wCmp_eq, Option.bind_some, Int.sub_zero]
end VM
end

section
/- Plain laws: the sum of all rows. -/
set_option linter.unusedSimpArgs false
set_option linter.unusedVariables false
namespace VM
open Go VM.F

def qty (r : Ty.den tI3) : Int := r.2.2.1
def In64 (x : Int) : Prop := -9223372036854775808 ≤ x ∧ x < 9223372036854775808
def Qty64 (l : List (Ty.den tI3)) : Prop := ∀ x ∈ l, In64 (qty x)
theorem qty_at {l : List (Ty.den tI3)} (h : Qty64 l) (i : Nat) : In64 (qty (l.getD i ((0 : Int), ((0 : Int), ((0 : Int), ()))))) := by
  by_cases hi : i < l.length
  · rw [List.getD_eq_getElem?_getD, List.getElem?_eq_getElem hi]; exact h _ (List.getElem_mem hi)
  · rw [List.getD_eq_getElem?_getD, List.getElem?_eq_none (by omega)]; exact ⟨by decide, by decide⟩
theorem sum64 {ws : List Int} (h : ∀ x ∈ ws, In64 x) : -(9223372036854775808 * (ws.length : Int)) ≤ ws.sum ∧ ws.sum ≤ 9223372036854775808 * (ws.length : Int) := sum_fit ws h
theorem sum_in128 {ws : List Int} (h : ∀ x ∈ ws, In64 x) (hl : ws.length ≤ 1000000) : In128 ws.sum := by
  have := sum64 h
  unfold In128; omega
theorem all_in128 {ws : List Int} (h : ∀ x ∈ ws, In64 x) : ∀ x ∈ ws, In128 x := fun x hx => by
  have := h x hx
  unfold In64 at this; unfold In128; omega
theorem wSum64 (N : Nat) {ws : List Int} (h : ∀ x ∈ ws, In64 x) (hl : ws.length ≤ 1000000) (hN : 1000000 < N) : wide_Sum N (ws.map wideN) = some (wideN ws.sum, true) := by
  rw [wSum_eq N (all_in128 h) hl hN]
  unfold sumW
  rw [if_pos (sum_in128 h hl)]

def totalOf (l : List (Ty.den tI3)) : Int := if okRows l then (l.map qty).sum else 0
theorem total_loop (N : Nat) {l : List (Ty.den tI3)} (hq : Qty64 l) (hl : l.length ≤ 100000) (hN : 2000000 ≤ N) : ledger_Total.l5 N N ((0 : Int), ((0 : Int), ())) [] l (l.length : Int) 0 = some (wideN (l.map qty).sum) := by
  have := lrec l ((0 : Int), ((0 : Int), ((0 : Int), ()))) (fun n i ws => ledger_Total.l5 N n ((0 : Int), ((0 : Int), ())) (ws.map wideN) l (l.length : Int) i) (fun t ws => some (wideN (ws ++ t.map qty).sum)) (fun i (ws : List Int) => ws.length = i ∧ ∀ x ∈ ws, In64 x)
    (fun n i ws hi hI hr => ?_) (fun n ws hI => ?_) l.length N 0 [] (by omega) (by omega) (by omega) ⟨rfl, fun x hx => nomatch hx⟩
  · simpa using this
  · unfold ledger_Total.l5 ledger_Total.l5b
    have h64 := qty_at hq i
    have h64' := h64
    unfold In64 qty at h64'
    rw [ltB_t (by omega), cond_true, inb_t (by omega) (by omega), cond_true, Int.toNat_natCast, wOf_eq N h64'.1 h64'.2, Option.bind_some, small_t (by rw [List.length_map, List.length_singleton]; omega), cond_true, W_i64 (by omega) (by omega), natCast_succ']
    have := hr (ws ++ [qty (l.getD i ((0 : Int), ((0 : Int), ((0 : Int), ()))))]) ⟨by rw [List.length_append, hI.1]; rfl, fun x hx => by
      rcases List.mem_append.1 hx with hx | hx
      · exact hI.2 x hx
      · rw [List.mem_singleton.1 hx]; exact h64⟩
    rw [List.map_append] at this
    refine this.trans ?_
    rw [List.map_cons, List.append_assoc]; rfl
  · unfold ledger_Total.l5 ledger_Total.l5b
    rw [ltB_f (by omega), cond_false, wSum64 N hI.2 (by omega) (by omega), Option.bind_some, List.map_nil, List.append_nil]
theorem Total_eq (N : Nat) {l : List (Ty.den tI3)} (hq : Qty64 l) (hl : l.length ≤ 100000) (hN : 2000000 ≤ N) : ledger_Total N l = some (wideN (totalOf l)) := by
  unfold ledger_Total ledger_Total.b totalOf
  rw [Rows_eq N hl (by omega), Option.bind_some, cond_not, total_loop N hq hl hN]
  cases okRows l <;> rfl

theorem rtotal_loop (N : Nat) {l : List (Ty.den tI3)} (hq : Qty64 l) (hl : l.length ≤ 100000) (hN : 4000000 ≤ N) : novationref10_Total.l5 N N l (bigN 0) (bigN 0) 0 = some (bigN (l.map qty).sum) := by
  have := lrec l ((0 : Int), ((0 : Int), ((0 : Int), ()))) (fun n i ws => novationref10_Total.l5 N n l (bigN 0) (bigN ws.sum) i) (fun t ws => some (bigN (ws ++ t.map qty).sum)) (fun i (ws : List Int) => ws.length = i ∧ ∀ x ∈ ws, In64 x)
    (fun n i ws hi hI hr => ?_) (fun n ws hI => ?_) l.length N 0 [] (by omega) (by omega) (by omega) ⟨rfl, fun x hx => nomatch hx⟩
  · simpa using this
  · unfold novationref10_Total.l5 novationref10_Total.l5b
    have h64 := qty_at hq i
    have h64' := h64
    unfold In64 qty at h64'
    have hb := sum64 hI.2
    rw [hI.1] at hb
    rw [ltB_t (by omega), cond_true, inb_t (by omega) (by omega), cond_true, Int.toNat_natCast, Whole_eq N (by omega) h64'.1 h64'.2, Option.bind_some, Plus_eq N (by omega) ((fit_sum (n := i) (by omega) hb.1 hb.2).mono (by omega)) ((Fit.i64 h64'.1 h64'.2).mono (by omega)), Option.bind_some, W_i64 (by omega) (by omega), natCast_succ']
    have := hr (ws ++ [qty (l.getD i ((0 : Int), ((0 : Int), ((0 : Int), ()))))]) ⟨by rw [List.length_append, hI.1]; rfl, fun x hx => by
      rcases List.mem_append.1 hx with hx | hx
      · exact hI.2 x hx
      · rw [List.mem_singleton.1 hx]; exact h64⟩
    rw [List.sum_append, List.sum_cons, List.sum_nil, Int.add_zero] at this
    refine this.trans ?_
    rw [List.map_cons, List.append_assoc]; rfl
  · unfold novationref10_Total.l5 novationref10_Total.l5b
    rw [ltB_f (by omega), cond_false, List.map_nil, List.append_nil]
theorem rTotal_eq (N : Nat) {l : List (Ty.den tI3)} (hq : Qty64 l) (hl : l.length ≤ 100000) (hN : 4000000 ≤ N) : novationref10_Total N l = some (bigN (totalOf l)) := by
  unfold novationref10_Total novationref10_Total.b totalOf
  rw [rRows_eq N hl (by omega), Option.bind_some, cond_not]
  have := rtotal_loop N hq hl hN
  rw [bigN_zero] at this
  rw [this]
  cases okRows l
  · rw [cond_false]; exact congrArg some bigN_zero.symm
  · rfl
end VM
end

section
/- Plain laws: the sums of positions. -/
set_option linter.unusedSimpArgs false
set_option linter.unusedVariables false
namespace VM
open Go VM.F

/-- The quantities in an instrument. -/
def qtysIn (inst : Int) : List (Ty.den tI3) → List Int
  | [] => []
  | x :: t => if x.2.1 = inst then qty x :: qtysIn inst t else qtysIn inst t
theorem qtysIn_cons (inst : Int) (x : Ty.den tI3) (t : List (Ty.den tI3)) : qtysIn inst (x :: t) = if x.2.1 = inst then qty x :: qtysIn inst t else qtysIn inst t := rfl

theorem ssum_loop (N : Nat) {l : List (Ty.den tI3)} (hq : Qty64 l) (hl : l.length ≤ 100000) (hN : 2000000 ≤ N) (inst : Int) : stock_Sum.l5 N N inst ((0 : Int), ((0 : Int), ())) [] l (l.length : Int) 0 = some (wideN (qtysIn inst l).sum) := by
  have := lrec l ((0 : Int), ((0 : Int), ((0 : Int), ()))) (fun n i ws => stock_Sum.l5 N n inst ((0 : Int), ((0 : Int), ())) (ws.map wideN) l (l.length : Int) i) (fun t ws => some (wideN (ws ++ qtysIn inst t).sum)) (fun i (ws : List Int) => ws.length ≤ i ∧ ∀ x ∈ ws, In64 x)
    (fun n i ws hi hI hr => ?_) (fun n ws hI => ?_) l.length N 0 [] (by omega) (by omega) (by omega) ⟨Nat.le_refl _, fun x hx => nomatch hx⟩
  · simpa using this
  · unfold stock_Sum.l5 stock_Sum.l5b
    have h64 := qty_at hq i
    have h64' := h64
    unfold In64 qty at h64'
    rw [ltB_t (by omega), cond_true, inb_t (by omega) (by omega), cond_true, Int.toNat_natCast, wOf_eq N h64'.1 h64'.2, Option.bind_some, small_t (by rw [List.length_map, List.length_singleton]; omega), cond_true, W_i64 (by omega) (by omega), natCast_succ', cond_eqB, qtysIn_cons]
    split
    · have := hr (ws ++ [qty (l.getD i ((0 : Int), ((0 : Int), ((0 : Int), ()))))]) ⟨by rw [List.length_append, List.length_singleton]; omega, fun x hx => by
        rcases List.mem_append.1 hx with hx | hx
        · exact hI.2 x hx
        · rw [List.mem_singleton.1 hx]; exact h64⟩
      rw [List.map_append] at this
      refine this.trans ?_
      rw [List.append_assoc]; rfl
    · exact hr ws ⟨by omega, hI.2⟩
  · unfold stock_Sum.l5 stock_Sum.l5b
    rw [ltB_f (by omega), cond_false, wSum64 N hI.2 (by omega) (by omega), Option.bind_some]
    show _ = some (wideN (ws ++ []).sum)
    rw [List.append_nil]
def instSum (l : List (Ty.den tI3)) (inst : Int) : Int := if okStock l then (qtysIn inst l).sum else 0
theorem sSum_eq (N : Nat) {l : List (Ty.den tI3)} (hq : Qty64 l) (hl : l.length ≤ 100000) (hN : 2000000 ≤ N) (inst : Int) : stock_Sum N l inst = some (wideN (instSum l inst)) := by
  unfold stock_Sum stock_Sum.b instSum
  rw [Stock_eq N hl (by omega), Option.bind_some, cond_not, ssum_loop N hq hl hN]
  cases okStock l <;> rfl

theorem rssum_loop (N : Nat) {l : List (Ty.den tI3)} (hq : Qty64 l) (hl : l.length ≤ 100000) (hN : 4000000 ≤ N) (inst : Int) : novationref10_SumInst.l5 N N l inst (bigN 0) (bigN 0) 0 = some (bigN (qtysIn inst l).sum) := by
  have := lrec l ((0 : Int), ((0 : Int), ((0 : Int), ()))) (fun n i ws => novationref10_SumInst.l5 N n l inst (bigN 0) (bigN ws.sum) i) (fun t ws => some (bigN (ws ++ qtysIn inst t).sum)) (fun i (ws : List Int) => ws.length ≤ i ∧ ∀ x ∈ ws, In64 x)
    (fun n i ws hi hI hr => ?_) (fun n ws hI => ?_) l.length N 0 [] (by omega) (by omega) (by omega) ⟨Nat.le_refl _, fun x hx => nomatch hx⟩
  · simpa using this
  · unfold novationref10_SumInst.l5 novationref10_SumInst.l5b
    have h64 := qty_at hq i
    have h64' := h64
    unfold In64 qty at h64'
    have hb := sum64 hI.2
    rw [ltB_t (by omega), cond_true, inb_t (by omega) (by omega), cond_true, cond_true, Int.toNat_natCast, Whole_eq N (by omega) h64'.1 h64'.2, Option.bind_some, Plus_eq N (by omega) ((fit_sum (n := ws.length) (by omega) hb.1 hb.2).mono (by omega)) ((Fit.i64 h64'.1 h64'.2).mono (by omega)), Option.bind_some, W_i64 (by omega) (by omega), natCast_succ', cond_eqB, qtysIn_cons]
    split
    · have := hr (ws ++ [qty (l.getD i ((0 : Int), ((0 : Int), ((0 : Int), ()))))]) ⟨by rw [List.length_append, List.length_singleton]; omega, fun x hx => by
        rcases List.mem_append.1 hx with hx | hx
        · exact hI.2 x hx
        · rw [List.mem_singleton.1 hx]; exact h64⟩
      rw [List.sum_append, List.sum_cons, List.sum_nil, Int.add_zero] at this
      refine this.trans ?_
      rw [List.append_assoc]; rfl
    · exact hr ws ⟨by omega, hI.2⟩
  · unfold novationref10_SumInst.l5 novationref10_SumInst.l5b
    rw [ltB_f (by omega), cond_false]
    show _ = some (bigN (ws ++ []).sum)
    rw [List.append_nil]
theorem rSumInst_eq (N : Nat) {l : List (Ty.den tI3)} (hq : Qty64 l) (hl : l.length ≤ 100000) (hN : 4000000 ≤ N) (inst : Int) : novationref10_SumInst N l inst = some (bigN (instSum l inst)) := by
  unfold novationref10_SumInst novationref10_SumInst.b instSum
  rw [rStock_eq N hl (by omega), Option.bind_some, cond_not]
  have := rssum_loop N hq hl hN inst
  rw [bigN_zero] at this
  rw [this]
  cases okStock l
  · rw [cond_false]; exact congrArg some bigN_zero.symm
  · rfl

def flatAt (l : List (Ty.den tI3)) (i : Nat) : Prop := eqI (instSum l (i : Int)) 0
instance (l : List (Ty.den tI3)) : DecidablePred (flatAt l) := fun i => by unfold flatAt; infer_instance
def nInsts : Nat := 6
def okFlat (l : List (Ty.den tI3)) : Bool := decide (∀ j, j < nInsts → flatAt l j) && okStock l
theorem sgn_zero {x : Int} : sgn x = 0 ↔ x = 0 := by unfold sgn; split <;> (try split) <;> omega
theorem Flat_eq (N : Nat) {l : List (Ty.den tI3)} (hq : Qty64 l) (hl : l.length ≤ 100000) (hN : 2000000 ≤ N) : stock_Flat N l = some (okFlat l) := by
  unfold stock_Flat stock_Flat.b
  refine scan0 (len := nInsts) (F := fun n i => stock_Flat.l2 N n l i) (flatAt l) (fun n i r hi hp hr => ?_) (fun n => ?_) N (by unfold nInsts; omega)
  · unfold stock_Flat.l2 stock_Flat.l2b
    unfold nInsts at hi
    rw [ltB_t (by omega), cond_true, sSum_eq N hq hl hN, Option.bind_some, wSign_eq, Option.bind_some, cond_not, cond_eqB, W_i64 (by omega) (by omega), natCast_succ', hr]
    by_cases hP : flatAt l i
    · rw [if_pos hP, if_pos (sgn_zero.2 hP)]
    · rw [if_neg hP, if_neg (fun h => hP (sgn_zero.1 h))]
  · unfold stock_Flat.l2 stock_Flat.l2b
    rw [ltB_f (by unfold nInsts; omega), cond_false, Stock_eq N hl (by omega), Option.bind_some]
theorem rFlat_eq (N : Nat) {l : List (Ty.den tI3)} (hq : Qty64 l) (hl : l.length ≤ 100000) (hN : 4000000 ≤ N) : novationref10_Flat N l = some (okFlat l) := by
  unfold novationref10_Flat novationref10_Flat.b
  refine scan0 (len := nInsts) (F := fun n i => novationref10_Flat.l2 N n l i) (flatAt l) (fun n i r hi hp hr => ?_) (fun n => ?_) N (by unfold nInsts; omega)
  · unfold novationref10_Flat.l2 novationref10_Flat.l2b
    unfold nInsts at hi
    rw [ltB_t (by omega), cond_true, rSumInst_eq N hq hl hN, Option.bind_some, Sign_eq, Option.bind_some, cond_not, cond_eqB, W_i64 (by omega) (by omega), natCast_succ', hr]
    by_cases hP : flatAt l i
    · rw [if_pos hP, if_pos (sgn_zero.2 hP)]
    · rw [if_neg hP, if_neg (fun h => hP (sgn_zero.1 h))]
  · unfold novationref10_Flat.l2 novationref10_Flat.l2b
    rw [ltB_f (by unfold nInsts; omega), cond_false, rStock_eq N hl (by omega), Option.bind_some]
end VM
end

section
/- Plain laws: books: what rows, positions, orders are about. -/
set_option linter.unusedSimpArgs false
set_option linter.unusedVariables false
namespace VM
open Go VM.F

def okRowOf (m : List (Ty.den tI2)) (a : List (Ty.den tI4)) (l : List (Ty.den tI3)) (i : Nat) : Prop :=
  (eqI (l.getD i ((0 : Int), ((0 : Int), ((0 : Int), ())))).1 5 → (findOf a (l.getD i ((0 : Int), ((0 : Int), ((0 : Int), ())))).2.1).2 = true) ∧ (eqI (l.getD i ((0 : Int), ((0 : Int), ((0 : Int), ())))).1 6 ∨ eqI (l.getD i ((0 : Int), ((0 : Int), ((0 : Int), ())))).1 7 → ¬ eqI (statusOf m (l.getD i ((0 : Int), ((0 : Int), ((0 : Int), ())))).2.1) 0)
instance (m : List (Ty.den tI2)) (a : List (Ty.den tI4)) (l : List (Ty.den tI3)) : DecidablePred (okRowOf m a l) := fun i => by unfold okRowOf; infer_instance

theorem Acc_eq (N : Nat) (b : Ty.den tBook) (hl : b.2.1.length ≤ 100000) (hN : 200000 ≤ N) (id : Int) : book_Acc N b id = some (findOf b.2.1 id).2 := by
  unfold book_Acc
  rw [Find_eq N hl hN, Option.bind_some]

theorem rows_step {k : Int} {f : Bool} {z : Int} {r : Option Bool} : cond (eqB k 5) (cond (!f) (some false) r) (cond (eqB k 6) (cond (eqB z 0) (some false) r) (cond (eqB k 7) (cond (eqB z 0) (some false) r) r)) =
    if (eqI k 5 → f = true) ∧ (eqI k 6 ∨ eqI k 7 → ¬ eqI z 0) then r else some false := by
  unfold eqI
  rw [cond_eqB, cond_eqB, cond_eqB, cond_eqB, cond_not]
  by_cases h5 : k = 5
  · have h6 : ¬ (k = 6) := by omega
    have h7 : ¬ (k = 7) := by omega
    cases f <;> simp [h5, h6, h7]
  · by_cases h6 : k = 6
    · by_cases hz : z = 0 <;> simp [h5, h6, hz]
    · by_cases h7 : k = 7
      · by_cases hz : z = 0 <;> simp [h5, h6, h7, hz]
      · simp [h5, h6, h7]

theorem bookRows_loop (N : Nat) (hN : 200000 ≤ N) (c : Ty.den tConfig) (b : Ty.den tBook) (hm : b.1.length ≤ 100000) (ha : b.2.1.length ≤ 100000) (hl : b.2.2.1.length ≤ 100000) {e : Bool}
    (he : book_Right.l16 N N c b b.2.2.2.1 (b.2.2.2.1.length : Int) 0 = some e) : book_Right.l4 N N c b b.2.2.1 (b.2.2.1.length : Int) 0 = some (decide (∀ j, j < b.2.2.1.length → okRowOf b.1 b.2.1 b.2.2.1 j) && e) := by
  refine scan0 (F := fun n i => book_Right.l4 N n c b b.2.2.1 (b.2.2.1.length : Int) i) (okRowOf b.1 b.2.1 b.2.2.1) (fun n i r hi hp hr => ?_) (fun n => ?_) N (by omega)
  · unfold book_Right.l4 book_Right.l4b
    rw [ltB_t (by omega), cond_true, inb_t (by omega) (by omega), cond_true, Int.toNat_natCast, W_i64 (x := (i : Int) + 1) (by omega) (by omega), natCast_succ', hr]
    simp only [Acc_eq N b ha hN, Status_eq N hm hN, Option.bind_some]
    rw [rows_step]
    rfl
  · unfold book_Right.l4 book_Right.l4b
    rw [ltB_f (by omega), cond_false]; exact he

def ltI (a b : Int) : Prop := a < b
instance (a b : Int) : Decidable (ltI a b) := by unfold ltI; infer_instance
def okPosOf (c : Ty.den tConfig) (a : List (Ty.den tI4)) (l : List (Ty.den tI3)) (i : Nat) : Prop :=
  (eqI (l.getD i ((0 : Int), ((0 : Int), ((0 : Int), ())))).1 0 ∨ (findOf a (l.getD i ((0 : Int), ((0 : Int), ((0 : Int), ())))).1).2 = true) ∧ ltI (l.getD i ((0 : Int), ((0 : Int), ((0 : Int), ())))).2.1 c.1.length
instance (c : Ty.den tConfig) (a : List (Ty.den tI4)) (l : List (Ty.den tI3)) : DecidablePred (okPosOf c a l) := fun i => by unfold okPosOf; infer_instance
theorem pos_step {k x n : Int} {f : Bool} {r : Option Bool} : cond (!eqB k 0) (cond (!f) (some false) (cond (leB n x) (some false) r)) (cond (leB n x) (some false) r) = if (eqI k 0 ∨ f = true) ∧ ltI x n then r else some false := by
  unfold eqI ltI
  rw [cond_not, cond_eqB, cond_leB, cond_not]
  by_cases h0 : k = 0
  · by_cases hx : n ≤ x
    · have : ¬ x < n := by omega
      simp [h0, hx, this]
    · have : x < n := by omega
      simp [h0, hx, this]
  · by_cases hx : n ≤ x
    · have : ¬ x < n := by omega
      cases f <;> simp [h0, hx, this]
    · have : x < n := by omega
      cases f <;> simp [h0, hx, this]
theorem bookPos_loop (N : Nat) (hN : 200000 ≤ N) (c : Ty.den tConfig) (b : Ty.den tBook) (ha : b.2.1.length ≤ 100000) (hl : b.2.2.2.1.length ≤ 100000) {e : Bool}
    (he : book_Right.l22 N N c b b.2.2.2.2.2.1 (b.2.2.2.2.2.1.length : Int) 0 = some e) : book_Right.l16 N N c b b.2.2.2.1 (b.2.2.2.1.length : Int) 0 = some (decide (∀ j, j < b.2.2.2.1.length → okPosOf c b.2.1 b.2.2.2.1 j) && e) := by
  refine scan0 (F := fun n i => book_Right.l16 N n c b b.2.2.2.1 (b.2.2.2.1.length : Int) i) (okPosOf c b.2.1 b.2.2.2.1) (fun n i r hi hp hr => ?_) (fun n => ?_) N (by omega)
  · unfold book_Right.l16 book_Right.l16b
    rw [ltB_t (by omega), cond_true, inb_t (by omega) (by omega), cond_true, Int.toNat_natCast, W_i64 (x := (i : Int) + 1) (by omega) (by omega), natCast_succ', hr]
    simp only [Acc_eq N b ha hN, Option.bind_some]
    rw [pos_step]
    rfl
  · unfold book_Right.l16 book_Right.l16b
    rw [ltB_f (by omega), cond_false]; exact he
end VM
end

section
/- Plain laws: books: orders and prices; whether a book may be. -/
set_option linter.unusedSimpArgs false
set_option linter.unusedVariables false
namespace VM
open Go VM.F

def okPrice (l : List Int) (i : Nat) : Prop := 1 ≤ l.getD i 0 ∧ l.getD i 0 ≤ 1000000000000
instance (l : List Int) : DecidablePred (okPrice l) := fun i => by unfold okPrice; infer_instance
def okPrices (l : List Int) : Bool := decide (∀ j, j < l.length → okPrice l j)

theorem bad_eq (N : Nat) (p : Int) : book_Right_1 N p = some (!decide (1 ≤ p ∧ p ≤ 1000000000000)) := by
  unfold book_Right_1
  rw [mprice_eq, Option.bind_some]
theorem price_loop (N : Nat) {l : List Int} (hl : l.length ≤ 100000) : ∀ (m n i : Nat), l.length - i ≤ m → m < n → i ≤ l.length → (∀ j, j < i → okPrice l j) →
    ∃ r, slices_IndexFunc_int64__book_Right_1.l2 N n l () (l.length : Int) (i : Int) = some r ∧ (leB 0 r = !okPrices l)
  | m, 0, i, _, hn, _, _ => by omega
  | m, n + 1, i, hm, hn, hi, hp => by
    unfold slices_IndexFunc_int64__book_Right_1.l2 slices_IndexFunc_int64__book_Right_1.l2b
    by_cases h : i < l.length
    · rw [ltB_t (by omega), cond_true, inb_t (by omega) (by omega), cond_true, Int.toNat_natCast, bad_eq, Option.bind_some, cond_not, cond_dec]
      by_cases hP : okPrice l i
      · have hP' := hP
        unfold okPrice at hP'
        rw [if_pos hP', W_i64 (by omega) (by omega)]
        exact price_loop N hl (m - 1) n (i + 1) (by omega) (by omega) (by omega) (fun j hj => by
          by_cases hji : j = i
          · subst hji; exact hP
          · exact hp j (by omega))
      · have hP' := hP
        unfold okPrice at hP'
        rw [if_neg hP']
        refine ⟨_, rfl, ?_⟩
        rw [leB_t (by omega)]
        unfold okPrices
        rw [decide_eq_false (fun h' => hP (h' i h))]; rfl
    · rw [ltB_f (by omega), cond_false]
      refine ⟨_, rfl, ?_⟩
      rw [leB_f (by omega)]
      unfold okPrices
      rw [decide_eq_true (fun j hj => hp j (by omega))]; rfl
theorem prices_eq (N : Nat) {l : List Int} (hl : l.length ≤ 100000) (hN : 200000 ≤ N) : slices_ContainsFunc_int64__book_Right_1 N l () = some (!okPrices l) := by
  unfold slices_ContainsFunc_int64__book_Right_1 slices_IndexFunc_int64__book_Right_1 slices_IndexFunc_int64__book_Right_1.b
  obtain ⟨r, e, h⟩ := price_loop N hl l.length N 0 (by omega) (by omega) (by omega) (fun j hj => absurd hj (by omega))
  rw [show ((0 : Nat) : Int) = 0 from rfl] at e
  rw [e, Option.bind_some, h]

def okOrdOf (c : Ty.den tConfig) (a : List (Ty.den tI4)) (l : List (Ty.den tI6)) (i : Nat) : Prop :=
  (findOf a (l.getD i ((0 : Int), ((0 : Int), ((0 : Int), ((0 : Int), ((0 : Int), ((0 : Int), ()))))))).2.1).2 = true ∧ ltI (l.getD i ((0 : Int), ((0 : Int), ((0 : Int), ((0 : Int), ((0 : Int), ((0 : Int), ()))))))).2.2.1 c.1.length
instance (c : Ty.den tConfig) (a : List (Ty.den tI4)) (l : List (Ty.den tI6)) : DecidablePred (okOrdOf c a l) := fun i => by unfold okOrdOf; infer_instance
theorem ord_step {x n : Int} {f : Bool} {r : Option Bool} : cond (!f) (some false) (cond (leB n x) (some false) r) = if f = true ∧ ltI x n then r else some false := by
  unfold ltI
  rw [cond_leB, cond_not]
  by_cases hx : n ≤ x
  · have : ¬ x < n := by omega
    cases f <;> simp [hx, this]
  · have : x < n := by omega
    cases f <;> simp [hx, this]
theorem bookOrd_loop (N : Nat) (hN : 200000 ≤ N) (c : Ty.den tConfig) (b : Ty.den tBook) (ha : b.2.1.length ≤ 100000) (hl : b.2.2.2.2.2.1.length ≤ 100000) (hp : b.2.2.2.2.1.length ≤ 100000) :
    book_Right.l22 N N c b b.2.2.2.2.2.1 (b.2.2.2.2.2.1.length : Int) 0 = some (decide (∀ j, j < b.2.2.2.2.2.1.length → okOrdOf c b.2.1 b.2.2.2.2.2.1 j) && okPrices b.2.2.2.2.1) := by
  refine scan0 (F := fun n i => book_Right.l22 N n c b b.2.2.2.2.2.1 (b.2.2.2.2.2.1.length : Int) i) (okOrdOf c b.2.1 b.2.2.2.2.2.1) (fun n i r hi hp' hr => ?_) (fun n => ?_) N (by omega)
  · unfold book_Right.l22 book_Right.l22b
    rw [ltB_t (by omega), cond_true, inb_t (by omega) (by omega), cond_true, Int.toNat_natCast, W_i64 (x := (i : Int) + 1) (by omega) (by omega), natCast_succ', hr]
    simp only [Acc_eq N b ha hN, Option.bind_some]
    rw [ord_step]
    rfl
  · unfold book_Right.l22 book_Right.l22b
    rw [ltB_f (by omega), cond_false, prices_eq N hp hN, Option.bind_some, Bool.not_not]

/-- A book that may be. -/
def okBook (c : Ty.den tConfig) (b : Ty.den tBook) : Bool :=
  okPlan c && (okRoll b.1 b.2.1 && (okRows b.2.2.1 && (decide (eqI (totalOf b.2.2.1) 0) && (okFlat b.2.2.2.1 && (okOrders b.2.2.2.2.2.1 && (decide (eqI b.2.2.2.2.1.length c.1.length) &&
    (decide (∀ j, j < b.2.2.1.length → okRowOf b.1 b.2.1 b.2.2.1 j) && (decide (∀ j, j < b.2.2.2.1.length → okPosOf c b.2.1 b.2.2.2.1 j) && (decide (∀ j, j < b.2.2.2.2.2.1.length → okOrdOf c b.2.1 b.2.2.2.2.2.1 j) && okPrices b.2.2.2.2.1)))))))))
/-- A book of a size. -/
structure BookWf (b : Ty.den tBook) : Prop where
  m : b.1.length ≤ 100000
  a : b.2.1.length ≤ 100000
  r : b.2.2.1.length ≤ 100000
  s : b.2.2.2.1.length ≤ 100000
  p : b.2.2.2.2.1.length ≤ 100000
  o : b.2.2.2.2.2.1.length ≤ 100000
  qr : Qty64 b.2.2.1
  qs : Qty64 b.2.2.2.1
theorem and_some {x : Bool} {r : Option Bool} {y : Bool} (h : r = some y) : cond (!x) (some false) r = some (x && y) := by subst h; cases x <;> rfl
theorem Book_eq (N : Nat) (hN : 4000000 ≤ N) {c : Ty.den tConfig} {b : Ty.den tBook} (w : BookWf b) : book_Right N c b = some (okBook c b) := by
  unfold book_Right book_Right.b okBook
  rw [Plan_eq N (by omega), Option.bind_some]
  refine and_some ?_
  rw [Roll_eq N w.m w.a (by omega), Option.bind_some]
  refine and_some ?_
  rw [Rows_eq N w.r (by omega), Option.bind_some]
  refine and_some ?_
  rw [Total_eq N w.qr w.r (by omega), Option.bind_some, wSign_eq, Option.bind_some]
  have e0 : eqB (sgn (totalOf b.2.2.1)) 0 = decide (eqI (totalOf b.2.2.1) 0) := by rw [eqB_eq, decide_eq_decide]; exact sgn_zero
  rw [e0]
  refine and_some ?_
  rw [Flat_eq N w.qs w.s (by omega), Option.bind_some]
  refine and_some ?_
  rw [Orders_eq N w.o (by omega), Option.bind_some]
  refine and_some ?_
  rw [eqB_eq]
  refine and_some ?_
  exact bookRows_loop N (by omega) c b w.m w.a w.r (bookPos_loop N (by omega) c b w.a w.s (bookOrd_loop N (by omega) c b w.a w.o w.p))
end VM
end

section
/- Plain laws: books, as the document has them. -/
set_option linter.unusedSimpArgs false
set_option linter.unusedVariables false
namespace VM
open Go VM.F

theorem there_eq (N : Nat) (b : Ty.den tBook) (hl : b.2.1.length ≤ 100000) (hN : 200000 ≤ N) (id : Int) : novationref15_there N b id = some ((findOf b.2.1 id).2 || decide (eqI id 0)) := by
  unfold novationref15_there
  rw [rFind_eq N hl hN, Option.bind_some, eqB_eq]
  cases (findOf b.2.1 id).2 <;> rfl
theorem rrows_step {k : Int} {f : Bool} {z : Int} {r : Option Bool} : cond (eqB k 5) (cond (!f) (some false) (cond (eqB k 6) (cond (eqB z 0) (some false) r) (cond (eqB k 7) (cond (eqB z 0) (some false) r) r))) (cond (eqB k 6) (cond (eqB z 0) (some false) r) (cond (eqB k 7) (cond (eqB z 0) (some false) r) r)) =
    if (eqI k 5 → f = true) ∧ (eqI k 6 ∨ eqI k 7 → ¬ eqI z 0) then r else some false := by
  unfold eqI
  rw [cond_eqB, cond_eqB, cond_eqB, cond_eqB, cond_not]
  by_cases h5 : k = 5
  · have h6 : ¬ (k = 6) := by omega
    have h7 : ¬ (k = 7) := by omega
    cases f <;> simp [h5, h6, h7]
  · by_cases h6 : k = 6
    · by_cases hz : z = 0 <;> simp [h5, h6, hz]
    · by_cases h7 : k = 7
      · by_cases hz : z = 0 <;> simp [h5, h6, h7, hz]
      · simp [h5, h6, h7]
theorem rbookOrd_loop (N : Nat) (hN : 200000 ≤ N) (c : Ty.den tConfig) (b : Ty.den tBook) (ha : b.2.1.length ≤ 100000) (hl : b.2.2.2.2.2.1.length ≤ 100000) (ho : okOrders b.2.2.2.2.2.1 = true) :
    novationref15_RightBook.l22 N N c b 0 = some (decide (∀ j, j < b.2.2.2.2.2.1.length → okOrdOf c b.2.1 b.2.2.2.2.2.1 j) && true) := by
  refine scan0 (F := fun n i => novationref15_RightBook.l22 N n c b i) (okOrdOf c b.2.1 b.2.2.2.2.2.1) (fun n i r hi hp' hr => ?_) (fun n => ?_) N (by omega)
  · unfold novationref15_RightBook.l22 novationref15_RightBook.l22b
    unfold okOrders at ho
    rw [Bool.and_eq_true, decide_eq_true_iff] at ho
    have h1 := (ho.1 i hi).1
    unfold okOrd okOrd6 at h1
    have h2 : decide (eqI (b.2.2.2.2.2.1.getD i ((0 : Int), ((0 : Int), ((0 : Int), ((0 : Int), ((0 : Int), ((0 : Int), ()))))))).2.1 0) = false := decide_eq_false (by unfold eqI; omega)
    rw [ltB_t (by omega), cond_true, inb_t (by omega) (by omega), cond_true, Int.toNat_natCast, W_i64 (x := (i : Int) + 1) (by omega) (by omega), natCast_succ', hr]
    simp only [there_eq N b ha hN, Option.bind_some, cond_true]
    rw [h2, Bool.or_false, ord_step]
    rfl
  · unfold novationref15_RightBook.l22 novationref15_RightBook.l22b
    rw [ltB_f (by omega), cond_false]
theorem rbookPrice_loop (N : Nat) (hN : 200000 ≤ N) (c : Ty.den tConfig) (b : Ty.den tBook) (hl : b.2.2.2.2.1.length ≤ 100000) {e : Bool} (he : novationref15_RightBook.l22 N N c b 0 = some e) :
    novationref15_RightBook.l17 N N c b 0 = some (okPrices b.2.2.2.2.1 && e) := by
  refine scan0 (F := fun n i => novationref15_RightBook.l17 N n c b i) (okPrice b.2.2.2.2.1) (fun n i r hi hp' hr => ?_) (fun n => ?_) N (by omega)
  · unfold novationref15_RightBook.l17 novationref15_RightBook.l17b
    rw [ltB_t (by omega), cond_true, inb_t (by omega) (by omega), cond_true, Int.toNat_natCast, W_i64 (x := (i : Int) + 1) (by omega) (by omega), natCast_succ', hr, rprice_eq, Option.bind_some, cond_not, cond_dec]
    rfl
  · unfold novationref15_RightBook.l17 novationref15_RightBook.l17b
    rw [ltB_f (by omega), cond_false]; exact he
theorem rbookPos_loop (N : Nat) (hN : 200000 ≤ N) (c : Ty.den tConfig) (b : Ty.den tBook) (ha : b.2.1.length ≤ 100000) (hl : b.2.2.2.1.length ≤ 100000) {e : Bool} (he : novationref15_RightBook.l17 N N c b 0 = some e) :
    novationref15_RightBook.l12 N N c b 0 = some (decide (∀ j, j < b.2.2.2.1.length → okPosOf c b.2.1 b.2.2.2.1 j) && e) := by
  refine scan0 (F := fun n i => novationref15_RightBook.l12 N n c b i) (okPosOf c b.2.1 b.2.2.2.1) (fun n i r hi hp' hr => ?_) (fun n => ?_) N (by omega)
  · unfold novationref15_RightBook.l12 novationref15_RightBook.l12b
    rw [ltB_t (by omega), cond_true, inb_t (by omega) (by omega), cond_true, Int.toNat_natCast, W_i64 (x := (i : Int) + 1) (by omega) (by omega), natCast_succ', hr]
    simp only [there_eq N b ha hN, Option.bind_some, cond_true]
    rw [ord_step]
    have hiff : ((((findOf b.2.1 (b.2.2.2.1.getD i ((0 : Int), ((0 : Int), ((0 : Int), ())))).1).2 || decide (eqI (b.2.2.2.1.getD i ((0 : Int), ((0 : Int), ((0 : Int), ())))).1 0)) = true) ∧ ltI (b.2.2.2.1.getD i ((0 : Int), ((0 : Int), ((0 : Int), ())))).2.1 c.1.length) ↔ okPosOf c b.2.1 b.2.2.2.1 i := by
      unfold okPosOf
      rw [Bool.or_eq_true, decide_eq_true_iff]
      exact ⟨fun h => ⟨h.1.symm, h.2⟩, fun h => ⟨h.1.symm, h.2⟩⟩
    by_cases hP : okPosOf c b.2.1 b.2.2.2.1 i
    · rw [if_pos hP, if_pos (hiff.2 hP)]
    · rw [if_neg hP, if_neg (fun h => hP (hiff.1 h))]
  · unfold novationref15_RightBook.l12 novationref15_RightBook.l12b
    rw [ltB_f (by omega), cond_false]; exact he
theorem rbookRows_loop (N : Nat) (hN : 200000 ≤ N) (c : Ty.den tConfig) (b : Ty.den tBook) (hm : b.1.length ≤ 100000) (ha : b.2.1.length ≤ 100000) (hl : b.2.2.1.length ≤ 100000) (hk : okRows b.2.2.1 = true) {e : Bool}
    (he : novationref15_RightBook.l12 N N c b 0 = some e) : novationref15_RightBook.l6 N N c b 0 = some (decide (∀ j, j < b.2.2.1.length → okRowOf b.1 b.2.1 b.2.2.1 j) && e) := by
  refine scan0 (F := fun n i => novationref15_RightBook.l6 N n c b i) (okRowOf b.1 b.2.1 b.2.2.1) (fun n i r hi hp' hr => ?_) (fun n => ?_) N (by omega)
  · unfold novationref15_RightBook.l6 novationref15_RightBook.l6b
    unfold okRows at hk
    rw [Bool.and_true, decide_eq_true_iff] at hk
    have h1 := (hk i hi).1
    rw [ltB_t (by omega), cond_true, inb_t (by omega) (by omega), cond_true, Int.toNat_natCast, W_i64 (x := (i : Int) + 1) (by omega) (by omega), natCast_succ', hr]
    simp only [there_eq N b ha hN, rStatus_eq N hm hN, Option.bind_some]
    rw [rrows_step]
    have hiff : ((eqI (b.2.2.1.getD i ((0 : Int), ((0 : Int), ((0 : Int), ())))).1 5 → ((findOf b.2.1 (b.2.2.1.getD i ((0 : Int), ((0 : Int), ((0 : Int), ())))).2.1).2 || decide (eqI (b.2.2.1.getD i ((0 : Int), ((0 : Int), ((0 : Int), ())))).2.1 0)) = true) ∧ (eqI (b.2.2.1.getD i ((0 : Int), ((0 : Int), ((0 : Int), ())))).1 6 ∨ eqI (b.2.2.1.getD i ((0 : Int), ((0 : Int), ((0 : Int), ())))).1 7 → ¬ eqI (statusOf b.1 (b.2.2.1.getD i ((0 : Int), ((0 : Int), ((0 : Int), ())))).2.1) 0)) ↔ okRowOf b.1 b.2.1 b.2.2.1 i := by
      unfold okRowOf
      refine and_congr_left fun _ => imp_congr_right fun h5 => ?_
      rw [Bool.or_eq_true, decide_eq_true_iff]
      refine ⟨fun h => h.elim id fun h0 => ?_, .inl⟩
      unfold okKey at h1; unfold eqI at h5 h0; omega
    by_cases hP : okRowOf b.1 b.2.1 b.2.2.1 i
    · rw [if_pos hP, if_pos (hiff.2 hP)]
    · rw [if_neg hP, if_neg (fun h => hP (hiff.1 h))]
  · unfold novationref15_RightBook.l6 novationref15_RightBook.l6b
    rw [ltB_f (by omega), cond_false]; exact he
end VM
end

section
/- Plain laws: whether a book may be, as the document has it. -/
set_option linter.unusedSimpArgs false
set_option linter.unusedVariables false
namespace VM
open Go VM.F

theorem and_some' {x : Bool} {r : Option Bool} {y : Bool} (h : x = true → r = some y) : cond (!x) (some false) r = some (x && y) := by
  cases x
  · rfl
  · exact h rfl
theorem rBook_eq (N : Nat) (hN : 5000000 ≤ N) {c : Ty.den tConfig} {b : Ty.den tBook} (w : BookWf b) : novationref15_RightBook N c b = some (okBook c b) := by
  unfold novationref15_RightBook novationref15_RightBook.b
  rw [rPlan_eq N (by omega), Option.bind_some]
  have e0 : eqB (sgn (totalOf b.2.2.1)) 0 = decide (eqI (totalOf b.2.2.1) 0) := by rw [eqB_eq, decide_eq_decide]; exact sgn_zero
  refine (and_some' fun _ => ?_).trans (congrArg some (?_ : (okPlan c && (okRoll b.1 b.2.1 && (okRows b.2.2.1 && (okFlat b.2.2.2.1 && (okOrders b.2.2.2.2.2.1 && (decide (eqI b.2.2.2.2.1.length c.1.length) && (decide (eqI (totalOf b.2.2.1) 0) &&
    (decide (∀ j, j < b.2.2.1.length → okRowOf b.1 b.2.1 b.2.2.1 j) && (decide (∀ j, j < b.2.2.2.1.length → okPosOf c b.2.1 b.2.2.2.1 j) && (okPrices b.2.2.2.2.1 && (decide (∀ j, j < b.2.2.2.2.2.1.length → okOrdOf c b.2.1 b.2.2.2.2.2.1 j) && true))))))))))) = okBook c b))
  · rw [rRoll_eq N w.m w.a (by omega), Option.bind_some]
    refine and_some' fun _ => ?_
    rw [rRows_eq N w.r (by omega), Option.bind_some]
    refine and_some' fun hk => ?_
    rw [rFlat_eq N w.qs w.s (by omega), Option.bind_some]
    refine and_some' fun _ => ?_
    rw [rOrders_eq N w.o (by omega), Option.bind_some]
    refine and_some' fun ho => ?_
    rw [eqB_eq]
    refine and_some' fun _ => ?_
    rw [rTotal_eq N w.qr w.r (by omega), Option.bind_some, Sign_eq, Option.bind_some, e0]
    refine and_some' fun _ => ?_
    exact rbookRows_loop N (by omega) c b w.m w.a w.r hk (rbookPos_loop N (by omega) c b w.a w.s (rbookPrice_loop N (by omega) c b w.p (rbookOrd_loop N (by omega) c b w.a w.o ho)))
  · unfold okBook
    generalize okPlan c = x1, okRoll b.1 b.2.1 = x2, okRows b.2.2.1 = x3, okFlat b.2.2.2.1 = x4, okOrders b.2.2.2.2.2.1 = x5, decide (eqI b.2.2.2.2.1.length c.1.length) = x6, decide (eqI (totalOf b.2.2.1) 0) = x7, decide (∀ j, j < b.2.2.1.length → okRowOf b.1 b.2.1 b.2.2.1 j) = x8, decide (∀ j, j < b.2.2.2.1.length → okPosOf c b.2.1 b.2.2.2.1 j) = x9, okPrices b.2.2.2.2.1 = x10, decide (∀ j, j < b.2.2.2.2.2.1.length → okOrdOf c b.2.1 b.2.2.2.2.2.1 j) = x11
    rw [Bool.and_true]
    cases x1 <;> cases x2 <;> cases x3 <;> cases x4 <;> cases x5 <;> cases x6 <;> cases x7 <;> try rfl
    cases x8 <;> cases x9 <;> cases x10 <;> cases x11 <;> rfl
end VM
end

section
/- Plain laws: legs. -/
set_option linter.unusedSimpArgs false
set_option linter.unusedVariables false
namespace VM
open Go VM.F
end VM
end

section
/- Plain laws: legs, as the document has them. -/
set_option linter.unusedSimpArgs false
set_option linter.unusedVariables false
namespace VM
open Go VM.F
end VM
end

section
/- Plain laws: bids. -/
set_option linter.unusedSimpArgs false
set_option linter.unusedVariables false
namespace VM
open Go VM.F
end VM
end

section
/- Plain laws: has a member a bid for a lot? -/
set_option linter.unusedSimpArgs false
set_option linter.unusedVariables false
namespace VM
open Go VM.F
end VM
end

section
/- Plain laws: bids that may be. -/
set_option linter.unusedSimpArgs false
set_option linter.unusedVariables false
namespace VM
open Go VM.F
end VM
end

section
/- Plain laws: rows, put together from rows and entries. -/
set_option linter.unusedSimpArgs false
namespace VM
open Go VM.F
set_option linter.unusedVariables false

/-- The numbers under a key. -/
def valsAt (a b : Int) : List (Ty.den tI3) → List Int
  | [] => []
  | x :: t => if x.1 = a ∧ x.2.1 = b then qty x :: valsAt a b t else valsAt a b t
theorem valsAt_cons (a b : Int) (x : Ty.den tI3) (t : List (Ty.den tI3)) : valsAt a b (x :: t) = if x.1 = a ∧ x.2.1 = b then qty x :: valsAt a b t else valsAt a b t := rfl
def sumAt (a b : Int) (l : List (Ty.den tI3)) : Int := (valsAt a b l).sum
theorem sumAt_nil (a b : Int) : sumAt a b [] = 0 := rfl
theorem sumAt_cons (a b : Int) (x : Ty.den tI3) (t : List (Ty.den tI3)) : sumAt a b (x :: t) = (if x.1 = a ∧ x.2.1 = b then qty x else 0) + sumAt a b t := by
  unfold sumAt
  rw [valsAt_cons]
  split
  · rw [List.sum_cons]
  · omega
theorem sumAt_zero {a b : Int} : ∀ {l : List (Ty.den tI3)}, (∀ x ∈ l, ¬ (x.1 = a ∧ x.2.1 = b)) → sumAt a b l = 0
  | [], _ => rfl
  | x :: t, h => by
    rw [sumAt_cons, if_neg (h x (List.mem_cons_self ..)), sumAt_zero (fun y hy => h y (List.mem_cons_of_mem _ hy))]; rfl

abbrev Key2 := Int × Int
def kLt (x y : Key2) : Prop := keyLt x.1 x.2 y.1 y.2
instance (x y : Key2) : Decidable (kLt x y) := by unfold kLt; infer_instance
def keyOf (x : Ty.den tI3) : Key2 := (x.1, x.2.1)
def Srt (K : List Key2) : Prop := K.Pairwise kLt

theorem kLt_irr {x : Key2} (h : kLt x x) : False := by unfold kLt keyLt at h; omega
theorem kLt_asymm {x y : Key2} (h : kLt x y) (k : kLt y x) : False := by unfold kLt keyLt at *; omega
theorem kLt_trans {x y z : Key2} (h : kLt x y) (k : kLt y z) : kLt x z := by unfold kLt keyLt at *; omega
theorem kLt_tri (x y : Key2) : kLt x y ∨ x = y ∨ kLt y x := by
  have : (x.1 = y.1 ∧ x.2 = y.2) → x = y := fun h => Prod.ext h.1 h.2
  unfold kLt keyLt
  by_cases h1 : x.1 = y.1
  · by_cases h2 : x.2 = y.2
    · exact Or.inr (Or.inl (this ⟨h1, h2⟩))
    · omega
  · omega

theorem srt_ext : ∀ {a b : List Key2}, Srt a → Srt b → (∀ x, x ∈ a ↔ x ∈ b) → a = b
  | [], [], _, _, _ => rfl
  | [], y :: t, _, _, h => nomatch (h y).2 (List.mem_cons_self ..)
  | x :: s, [], _, _, h => nomatch (h x).1 (List.mem_cons_self ..)
  | x :: s, y :: t, ha, hb, h => by
    obtain ⟨ha1, ha2⟩ := List.pairwise_cons.1 ha
    obtain ⟨hb1, hb2⟩ := List.pairwise_cons.1 hb
    have hxy : x = y := by
      rcases List.mem_cons.1 ((h x).1 (List.mem_cons_self ..)) with e | e
      · exact e
      · rcases List.mem_cons.1 ((h y).2 (List.mem_cons_self ..)) with f | f
        · exact f.symm
        · exact (kLt_asymm (ha1 y f) (hb1 x e)).elim
    subst hxy
    rw [srt_ext ha2 hb2 fun z => ⟨fun hz => ?_, fun hz => ?_⟩]
    · rcases List.mem_cons.1 ((h z).1 (List.mem_cons_of_mem _ hz)) with e | e
      · subst e; exact (kLt_irr (ha1 z hz)).elim
      · exact e
    · rcases List.mem_cons.1 ((h z).2 (List.mem_cons_of_mem _ hz)) with e | e
      · subst e; exact (kLt_irr (hb1 z hz)).elim
      · exact e

/-- All rows of some keys; none, if one doesn't fit. -/
def coll (P : Int → Prop) [DecidablePred P] (f : Int → Int → Int) : List Key2 → Option (List (Ty.den tI3))
  | [] => some []
  | k :: t => if P (f k.1 k.2) then (coll P f t).map (fun o => if f k.1 k.2 = 0 then o else (k.1, (k.2, (f k.1 k.2, ()))) :: o) else none
theorem coll_cons (P : Int → Prop) [DecidablePred P] (f : Int → Int → Int) (k : Key2) (t : List Key2) : coll P f (k :: t) = if P (f k.1 k.2) then (coll P f t).map (fun o => if f k.1 k.2 = 0 then o else (k.1, (k.2, (f k.1 k.2, ()))) :: o) else none := rfl

theorem coll_filter {P : Int → Prop} [DecidablePred P] (h0 : P 0) {f : Int → Int → Int} (p : Key2 → Bool) : ∀ {K : List Key2}, (∀ k ∈ K, p k = false → f k.1 k.2 = 0) → coll P f (K.filter p) = coll P f K
  | [], _ => rfl
  | k :: t, h => by
    have ih := coll_filter h0 p (K := t) (fun x hx => h x (List.mem_cons_of_mem _ hx))
    cases hp : p k
    · rw [List.filter_cons_of_neg (by rw [hp]; decide), ih, coll_cons, h k (List.mem_cons_self ..) hp, if_pos h0]
      simp
    · rw [List.filter_cons_of_pos hp, coll_cons, coll_cons, ih]

/-- Over all keys, or over those that matter: the same. -/
theorem coll_sub {P : Int → Prop} [DecidablePred P] (h0 : P 0) {f : Int → Int → Int} {K G : List Key2} (hK : Srt K) (hG : Srt G) (hs : ∀ k ∈ K, k ∈ G) (hz : ∀ k ∈ G, k ∉ K → f k.1 k.2 = 0) : coll P f K = coll P f G := by
  have e : K = G.filter (fun k => decide (k ∈ K)) := by
    refine srt_ext hK (List.Pairwise.sublist List.filter_sublist hG) fun x => ?_
    rw [List.mem_filter]
    exact ⟨fun h => ⟨hs x h, decide_eq_true h⟩, fun h => of_decide_eq_true h.2⟩
  rw [e]
  exact coll_filter h0 _ fun k hk hp => hz k hk (of_decide_eq_false hp)

/-- A key put in its place. -/
def insK (k : Key2) : List Key2 → List Key2
  | [] => [k]
  | x :: t => if kLt x k then x :: insK k t else if x = k then x :: t else k :: x :: t
theorem mem_insK {k x : Key2} : ∀ {K : List Key2}, x ∈ insK k K ↔ x = k ∨ x ∈ K
  | [] => by show x ∈ [k] ↔ _; simp
  | y :: t => by
    show x ∈ (if kLt y k then y :: insK k t else if y = k then y :: t else k :: y :: t) ↔ _
    split
    · rw [List.mem_cons, mem_insK, List.mem_cons]
      exact ⟨fun h => h.elim (fun e => Or.inr (Or.inl e)) (fun h => h.elim Or.inl (fun h => Or.inr (Or.inr h))), fun h => h.elim (fun e => Or.inr (Or.inl e)) (fun h => h.elim Or.inl (fun h => Or.inr (Or.inr h)))⟩
    · split
      · rename_i e
        rw [← e]
        exact ⟨Or.inr, fun h => h.elim (fun e => e ▸ List.mem_cons_self ..) id⟩
      · rw [List.mem_cons]
theorem srt_insK {k : Key2} : ∀ {K : List Key2}, Srt K → Srt (insK k K)
  | [], _ => List.pairwise_cons.2 ⟨fun _ h => (nomatch h), List.Pairwise.nil⟩
  | y :: t, h => by
    obtain ⟨h1, h2⟩ := List.pairwise_cons.1 h
    show Srt (if kLt y k then y :: insK k t else if y = k then y :: t else k :: y :: t)
    split
    · rename_i hy
      exact List.pairwise_cons.2 ⟨fun z hz => (mem_insK.1 hz).elim (fun e => e ▸ hy) (h1 z), srt_insK h2⟩
    · rename_i hy
      split
      · exact h
      · rename_i he
        have hk : kLt k y := (kLt_tri y k).elim (fun h => absurd h hy) (fun h => h.elim (fun h => absurd h he) id)
        exact List.pairwise_cons.2 ⟨fun z hz => (List.mem_cons.1 hz).elim (fun e => e ▸ hk) (fun hz => kLt_trans hk (h1 z hz)), h⟩
def insAll (K : List Key2) (E : List (Ty.den tI3)) : List Key2 := E.foldl (fun K x => insK (keyOf x) K) K
theorem insAll_cons (K : List Key2) (x : Ty.den tI3) (E : List (Ty.den tI3)) : insAll K (x :: E) = insAll (insK (keyOf x) K) E := rfl
theorem srt_insAll : ∀ {E : List (Ty.den tI3)} {K : List Key2}, Srt K → Srt (insAll K E)
  | [], _, h => h
  | x :: E, K, h => by rw [insAll_cons]; exact srt_insAll (srt_insK h)
theorem mem_insAll {k : Key2} : ∀ {E : List (Ty.den tI3)} {K : List Key2}, k ∈ insAll K E ↔ (k ∈ K ∨ ∃ x ∈ E, keyOf x = k)
  | [], K => by
    show k ∈ K ↔ _
    simp
  | x :: E, K => by
    rw [insAll_cons, mem_insAll, mem_insK]
    constructor
    · rintro ((rfl | h) | ⟨y, hy, e⟩)
      · exact Or.inr ⟨x, List.mem_cons_self .., rfl⟩
      · exact Or.inl h
      · exact Or.inr ⟨y, List.mem_cons_of_mem _ hy, e⟩
    · rintro (h | ⟨y, hy, e⟩)
      · exact Or.inl (Or.inr h)
      · rcases List.mem_cons.1 hy with rfl | hy
        · exact Or.inl (Or.inl e.symm)
        · exact Or.inr ⟨y, hy, e⟩
theorem insK_len (k : Key2) : ∀ K : List Key2, (insK k K).length ≤ K.length + 1
  | [] => Nat.le_refl _
  | y :: t => by
    show (if kLt y k then y :: insK k t else if y = k then y :: t else k :: y :: t).length ≤ _
    have := insK_len k t
    split
    · rw [List.length_cons, List.length_cons]; omega
    · split <;> rw [List.length_cons] <;> (try rw [List.length_cons]) <;> omega
/-- The rows of keys, as they are in l. -/
def rowsOf (l : List (Ty.den tI3)) (K : List Key2) : List (Ty.den tI3) := K.map fun k => (k.1, (k.2, (sumAt k.1 k.2 l, ())))
theorem rowsOf_self {l : List (Ty.den tI3)} (h : Srt (l.map keyOf)) : rowsOf l (l.map keyOf) = l := by
  have key : ∀ (m : List (Ty.den tI3)), Srt (m.map keyOf) → (∀ x ∈ m, sumAt x.1 x.2.1 l = qty x) → rowsOf l (m.map keyOf) = m := by
    intro m
    induction m with
    | nil => intro _ _; rfl
    | cons x t ih =>
      intro hm hx
      have := ih (List.pairwise_cons.1 hm).2 (fun y hy => hx y (List.mem_cons_of_mem _ hy))
      unfold rowsOf at *
      rw [List.map_cons, List.map_cons, this]
      congr 1
      show (x.1, (x.2.1, (sumAt x.1 x.2.1 l, ()))) = x
      rw [hx x (List.mem_cons_self ..)]; rfl
  refine key l h ?_
  clear key
  induction l with
  | nil => intro x hx; nomatch hx
  | cons y t ih =>
    intro x hx
    obtain ⟨h1, h2⟩ := List.pairwise_cons.1 h
    have hne : ∀ z ∈ t, ¬ (z.1 = y.1 ∧ z.2.1 = y.2.1) := fun z hz e => by
      have hk := h1 (keyOf z) (List.mem_map_of_mem hz)
      have he : keyOf z = keyOf y := Prod.ext e.1 e.2
      rw [he] at hk
      exact kLt_irr hk
    rw [sumAt_cons]
    rcases List.mem_cons.1 hx with rfl | hx
    · rw [if_pos ⟨rfl, rfl⟩, sumAt_zero hne]; omega
    · rw [if_neg (fun e => hne x hx ⟨e.1.symm, e.2.symm⟩), ih h2 x hx]; omega
end VM
end

section
/- Plain laws: stock.Post. -/
set_option linter.unusedSimpArgs false
namespace VM
open Go VM.F
set_option linter.unusedVariables false

instance (x : Int) : Decidable (In64 x) := by unfold In64; infer_instance
def Fq (x : Int) : Prop := In64 x ∧ okQ x
instance : DecidablePred Fq := fun x => by unfold Fq; infer_instance
def outS (r : Option (List (Ty.den tI3))) : Option (List (Ty.den tI3) × Int) := some (match r with | some o => (o, 0) | none => ([], 2))
/-- What a row comes to. -/
def fS (l E : List (Ty.den tI3)) (a b : Int) : Int := sumAt a b l + sumAt a b E

theorem insL_eq {α : Type} (N : Nat) {l : List α} {i : Nat} {x : α} (hi : i ≤ l.length) (hl : l.length < 1000000) : insertL N l (i : Int) [x] = some (l.take i ++ x :: l.drop i) := by
  unfold insertL
  rw [if_pos ⟨by omega, by omega, rfl, by unfold big; omega⟩]
  rfl
theorem clL_eq {α : Type} (N : Nat) {l : List α} (hl : l.length ≤ 1000000) : cloneL N l = some l := by
  unfold cloneL
  rw [if_pos (by unfold big; omega)]
theorem wInt_eq' (N : Nat) {v : Int} (h : In128 v) : wide_Int N (wideN v) = some (toI v) := wInt_eq N h.1 h.2
theorem toI_pos {v : Int} (h : In64 v) : toI v = (v, true) := by unfold toI; exact if_pos h
theorem toI_neg {v : Int} (h : ¬ In64 v) : toI v = (0, false) := by unfold toI; exact if_neg h
theorem in64_snoc {ws : List Int} {x : Int} (h : ∀ y ∈ ws, In64 y) (hx : In64 x) : ∀ y ∈ ws ++ [x], In64 y := fun y hy => by
  rcases List.mem_append.1 hy with hy | hy
  · exact h y hy
  · rw [List.mem_singleton.1 hy]; exact hx
theorem clipP_eq (N : Nat) {l : List (Ty.den tI3)} : slices_Clip_Pos N l = some l := by
  unfold slices_Clip_Pos
  rw [okCut_t (by omega) (by omega) (by omega) (by omega), cond_true]
  simp

theorem postP_in (N : Nat) (hN : 2000000 ≤ N) (K : stock_Post.t_l23) {E out R : List (Ty.den tI3)} (hq : Qty64 E) (hl : E.length ≤ 100000) (ho : out.length ≤ 1000000) (r : Ty.den tI3) (hr : In64 (qty r)) (i : Nat) (hi : i ≤ 1000000) :
    stock_Post.l27 N K N E out r [wideN (qty r)] R (R.length : Int) (i : Int) E (E.length : Int) 0 =
      if Fq (qty r + sumAt r.1 r.2.1 E) then K E (if qty r + sumAt r.1 r.2.1 E = 0 then out else out ++ [(r.1, (r.2.1, (qty r + sumAt r.1 r.2.1 E, ())))]) R (R.length : Int) ((i + 1 : Nat) : Int) else some (([] : List ((Int) × ((Int) × ((Int) × (Unit))))), (2 : Int)) := by
  have := lrec E ((0 : Int), ((0 : Int), ((0 : Int), ()))) (fun n j ws => stock_Post.l27 N K n E out r (ws.map wideN) R (R.length : Int) (i : Int) E (E.length : Int) j)
    (fun t ws => if Fq (ws ++ valsAt r.1 r.2.1 t).sum then K E (if (ws ++ valsAt r.1 r.2.1 t).sum = 0 then out else out ++ [(r.1, (r.2.1, ((ws ++ valsAt r.1 r.2.1 t).sum, ())))]) R (R.length : Int) ((i + 1 : Nat) : Int) else some (([] : List ((Int) × ((Int) × ((Int) × (Unit))))), (2 : Int)))
    (fun j (ws : List Int) => ws.length ≤ j + 1 ∧ ∀ x ∈ ws, In64 x)
    (fun n j ws hj hI hr' => ?_) (fun n ws hI => ?_) E.length N 0 [qty r] (by omega) (by omega) (by omega) ⟨Nat.le_refl _, fun x hx => by rw [List.mem_singleton.1 hx]; exact hr⟩
  · rw [show ((0 : Nat) : Int) = 0 from rfl, List.drop_zero] at this
    refine this.trans ?_
    have e : ([qty r] ++ valsAt r.1 r.2.1 E).sum = qty r + sumAt r.1 r.2.1 E := by rw [List.singleton_append, List.sum_cons]; rfl
    rw [e]
  · unfold stock_Post.l27 stock_Post.l27b
    have h64 := qty_at hq j
    have h64' := h64
    unfold In64 qty at h64'
    rw [ltB_t (by omega), cond_true, inb_t (by omega) (by omega), cond_true, Int.toNat_natCast, wOf_eq N h64'.1 h64'.2, Option.bind_some, small_t (by rw [List.length_map, List.length_singleton]; omega), cond_true, W_i64 (x := (j : Int) + 1) (by omega) (by omega), natCast_succ', cond_eqB, cond_eqB]
    by_cases h1 : (E.getD j ((0 : Int), ((0 : Int), ((0 : Int), ())))).1 = r.1
    · by_cases h2 : (E.getD j ((0 : Int), ((0 : Int), ((0 : Int), ())))).2.1 = r.2.1
      · have hc : valsAt r.1 r.2.1 (E.getD j ((0 : Int), ((0 : Int), ((0 : Int), ()))) :: E.drop (j + 1)) = qty (E.getD j ((0 : Int), ((0 : Int), ((0 : Int), ())))) :: valsAt r.1 r.2.1 (E.drop (j + 1)) := by rw [valsAt_cons, if_pos ⟨h1, h2⟩]
        rw [if_pos h1, if_pos h2, hc]
        have := hr' (ws ++ [qty (E.getD j ((0 : Int), ((0 : Int), ((0 : Int), ()))))]) ⟨by rw [List.length_append, List.length_singleton]; omega, in64_snoc hI.2 h64⟩
        rw [List.map_append] at this
        refine this.trans ?_
        rw [List.append_assoc]; rfl
      · have hc : valsAt r.1 r.2.1 (E.getD j ((0 : Int), ((0 : Int), ((0 : Int), ()))) :: E.drop (j + 1)) = valsAt r.1 r.2.1 (E.drop (j + 1)) := by rw [valsAt_cons, if_neg (fun h => h2 h.2)]
        rw [if_pos h1, if_neg h2, hc]
        exact hr' ws ⟨by omega, hI.2⟩
    · have hc : valsAt r.1 r.2.1 (E.getD j ((0 : Int), ((0 : Int), ((0 : Int), ()))) :: E.drop (j + 1)) = valsAt r.1 r.2.1 (E.drop (j + 1)) := by rw [valsAt_cons, if_neg (fun h => h1 h.1)]
      rw [if_neg h1, hc]
      exact hr' ws ⟨by omega, hI.2⟩
  · unfold stock_Post.l27 stock_Post.l27b
    have hs := sum_in128 hI.2 (by omega)
    rw [ltB_f (by omega), cond_false, wSum64 N hI.2 (by omega) (by omega), Option.bind_some]
    show _ = if Fq (ws ++ []).sum then K E (if (ws ++ []).sum = 0 then out else out ++ [(r.1, (r.2.1, ((ws ++ []).sum, ())))]) R (R.length : Int) ((i + 1 : Nat) : Int) else some (([] : List ((Int) × ((Int) × ((Int) × (Unit))))), (2 : Int))
    rw [List.append_nil, wInt_eq' N hs, Option.bind_some]
    by_cases h1 : In64 ws.sum
    · rw [toI_pos h1]
      dsimp only
      rw [Bool.not_true, cond_false, Quantity_eq, Option.bind_some, cond_not, cond_dec, cond_not, cond_eqB, small_t (by rw [List.length_singleton]; omega), cond_true, W_i64 (x := (i : Int) + 1) (by omega) (by omega), natCast_succ']
      by_cases h2 : okQ ws.sum
      · rw [if_pos h2, if_pos (show Fq ws.sum from ⟨h1, h2⟩)]
        split <;> rfl
      · rw [if_neg h2, if_neg (fun h => h2 h.2)]
    · rw [toI_neg h1, if_neg (fun h => h1 h.1)]
      rfl

theorem postP_out (N : Nat) (hN : 2000000 ≤ N) {l E R : List (Ty.den tI3)} (hq : Qty64 E) (hl : E.length ≤ 100000) (hR : R.length ≤ 200000) (hv : ∀ r ∈ R, In64 (qty r) ∧ qty r = sumAt r.1 r.2.1 l) :
    stock_Post.l23 N N E [] R (R.length : Int) 0 = outS (coll Fq (fS l E) (R.map keyOf)) := by
  have := lrec R ((0 : Int), ((0 : Int), ((0 : Int), ()))) (fun n i out => stock_Post.l23 N n E out R (R.length : Int) i) (fun t out => outS ((coll Fq (fS l E) (t.map keyOf)).map (fun o => out ++ o))) (fun i (out : List (Ty.den tI3)) => out.length ≤ i)
    (fun n i out hi hI hr => ?_) (fun n out hI => ?_) R.length N 0 [] (by omega) (by omega) (by omega) (Nat.le_refl _)
  · rw [show ((0 : Nat) : Int) = 0 from rfl, List.drop_zero] at this
    refine this.trans ?_
    simp
  · unfold stock_Post.l23 stock_Post.l23b
    have hm : R.getD i ((0 : Int), ((0 : Int), ((0 : Int), ()))) ∈ R := by
      rw [List.getD_eq_getElem?_getD, List.getElem?_eq_getElem hi]; exact List.getElem_mem hi
    have hv' := hv _ hm
    have h64 := hv'.1
    have h64' := h64
    unfold In64 qty at h64'
    rw [ltB_t (by omega), cond_true, inb_t (by omega) (by omega), cond_true, Int.toNat_natCast, wOf_eq N h64'.1 h64'.2, Option.bind_some]
    refine (postP_in N hN _ hq hl (by omega) _ h64 i (by omega)).trans ?_
    rw [List.map_cons, coll_cons]
    have ef : fS l E (keyOf (R.getD i ((0 : Int), ((0 : Int), ((0 : Int), ()))))).1 (keyOf (R.getD i ((0 : Int), ((0 : Int), ((0 : Int), ()))))).2 = qty (R.getD i ((0 : Int), ((0 : Int), ((0 : Int), ())))) + sumAt (R.getD i ((0 : Int), ((0 : Int), ((0 : Int), ())))).1 (R.getD i ((0 : Int), ((0 : Int), ((0 : Int), ())))).2.1 E := by
      show sumAt _ _ l + sumAt _ _ E = _
      rw [hv'.2]; rfl
    rw [ef]
    generalize hS : qty (R.getD i ((0 : Int), ((0 : Int), ((0 : Int), ())))) + sumAt (R.getD i ((0 : Int), ((0 : Int), ((0 : Int), ())))).1 (R.getD i ((0 : Int), ((0 : Int), ((0 : Int), ())))).2.1 E = v
    by_cases hF : Fq v
    · rw [if_pos hF, if_pos hF, hr _ (by
        split
        · omega
        · rw [List.length_append, List.length_singleton]; omega)]
      cases coll Fq (fS l E) ((R.drop (i + 1)).map keyOf) with
      | none => rfl
      | some o =>
        show outS (some _) = outS (some _)
        congr 2
        split
        · rfl
        · exact List.append_assoc _ _ _
    · rw [if_neg hF, if_neg hF]; rfl
  · unfold stock_Post.l23 stock_Post.l23b
    rw [ltB_f (by omega), cond_false, clipP_eq, Option.bind_some]
    show _ = outS (some (out ++ []))
    rw [List.append_nil]; rfl

def rowK (l : List (Ty.den tI3)) (k : Key2) : Ty.den tI3 := (k.1, (k.2, (sumAt k.1 k.2 l, ())))
theorem rowsOf_len (l : List (Ty.den tI3)) (K : List Key2) : (rowsOf l K).length = K.length := List.length_map ..
theorem rowsOf_at (l : List (Ty.den tI3)) {K : List Key2} {p : Nat} (h : p < K.length) : (rowsOf l K).getD p ((0 : Int), ((0 : Int), ((0 : Int), ()))) = rowK l (K.getD p (0, 0)) := by
  unfold rowsOf
  rw [List.getD_eq_getElem?_getD, List.getElem?_map, List.getElem?_eq_getElem h, List.getD_eq_getElem?_getD, List.getElem?_eq_getElem h]; rfl
theorem rowsOf_ins (l : List (Ty.den tI3)) (K : List Key2) (p : Nat) (k : Key2) : (rowsOf l K).take p ++ rowK l k :: (rowsOf l K).drop p = rowsOf l (K.take p ++ k :: K.drop p) := by
  unfold rowsOf
  rw [List.map_append, List.map_cons, List.map_take, List.map_drop]; rfl
theorem rowsOf_keys (l : List (Ty.den tI3)) (K : List Key2) : (rowsOf l K).map keyOf = K := by
  unfold rowsOf
  rw [List.map_map]
  induction K with
  | nil => rfl
  | cons k t ih => rw [List.map_cons, ih]; rfl
theorem ordI_pos {k x : Key2} : 0 < ordI k.1 k.2 x.1 x.2 ↔ kLt x k := by
  unfold ordI kLt keyLt; split <;> omega
theorem ordI_zero {k x : Key2} : ordI k.1 k.2 x.1 x.2 = 0 ↔ x = k := by
  have : x = k ↔ x.1 = k.1 ∧ x.2 = k.2 := ⟨fun h => h ▸ ⟨rfl, rfl⟩, fun h => Prod.ext h.1 h.2⟩
  rw [this]
  unfold ordI; split <;> omega
def fewK (k : Key2) : Prop := few k.1 ∧ few k.2
theorem insK_at {k : Key2} {K : List Key2} {p : Nat} (h : p < K.length) : insK k (K.drop p) = if kLt (K.getD p (0, 0)) k then K.getD p (0, 0) :: insK k (K.drop (p + 1)) else if K.getD p (0, 0) = k then K.drop p else k :: K.drop p := by
  rw [drop_cons h (0, 0)]; rfl
theorem take_drop_at {K : List Key2} {p : Nat} (h : p < K.length) (t : List Key2) : K.take p ++ K.getD p (0, 0) :: t = K.take (p + 1) ++ t := by
  rw [← List.take_append_getElem h, List.append_assoc, List.getD_eq_getElem?_getD, List.getElem?_eq_getElem h]; rfl
/-- Where a key isn't, its row was nothing. -/
def zeroAt (l : List (Ty.den tI3)) (K : List Key2) (k : Key2) : Prop := k ∉ K → sumAt k.1 k.2 l = 0
theorem rowK_zero {l : List (Ty.den tI3)} {k : Key2} (h : sumAt k.1 k.2 l = 0) : ((k.1, (k.2, ((0 : Int), ()))) : Ty.den tI3) = rowK l k := by
  unfold rowK; rw [h]
theorem not_mem_at {k : Key2} {K : List Key2} {p : Nat} (hs : Srt K) (hp : ∀ x ∈ K.take p, kLt x k) (h : ∀ x ∈ K.drop p, kLt k x) : k ∉ K := fun hk => by
  rw [← List.take_append_drop p K] at hk
  rcases List.mem_append.1 hk with hk | hk
  · exact kLt_irr (hp k hk)
  · exact kLt_irr (h k hk)
theorem drop_gt {k : Key2} {K : List Key2} {p : Nat} (hs : Srt K) (h : p < K.length) (h1 : ¬ kLt (K.getD p (0, 0)) k) (h2 : K.getD p (0, 0) ≠ k) : ∀ x ∈ K.drop p, kLt k x := by
  have hk : kLt k (K.getD p (0, 0)) := (kLt_tri (K.getD p (0, 0)) k).elim (fun h => absurd h h1) (fun h => h.elim (fun h => absurd h h2) id)
  have hd : Srt (K.drop p) := List.Pairwise.sublist (List.drop_sublist ..) hs
  rw [drop_cons h (0, 0)] at hd ⊢
  intro x hx
  rcases List.mem_cons.1 hx with rfl | hx
  · exact hk
  · exact kLt_trans hk ((List.pairwise_cons.1 hd).1 x hx)

theorem seekP (N : Nat) (C : stock_Post.t_l13) {l E S : List (Ty.den tI3)} {K : List Key2} (hs : Srt K) (hl : K.length ≤ 100000) (hf : ∀ k ∈ K, fewK k) (x : Ty.den tI3) (hx : fewK (keyOf x)) (hz : zeroAt l K (keyOf x)) (len : Int) (i : Nat) (hi : i ≤ 1000000) :
    ∀ (m n p : Nat), K.length - p ≤ m → m < n → p ≤ K.length → (∀ y ∈ K.take p, kLt y (keyOf x)) →
      stock_Post.l16 N C n E (rowsOf l K) x (p : Int) S len (i : Int) = C E (rowsOf l (K.take p ++ insK (keyOf x) (K.drop p))) S len ((i + 1 : Nat) : Int)
  | m, 0, p, _, hn, _, _ => by omega
  | m, n + 1, p, hm, hn, hp, hb => by
    unfold stock_Post.l16 stock_Post.l16b stock_Post.j18 stock_Post.j18b
    rw [rowsOf_len, W_i64 (x := (i : Int) + 1) (by omega) (by omega), natCast_succ' i]
    by_cases h : p < K.length
    · have hfk := hf (K.getD p (0, 0)) (by rw [List.getD_eq_getElem?_getD, List.getElem?_eq_getElem h]; exact List.getElem_mem h)
      have ho : stock_order N x.1 x.2.1 ((rowsOf l K).getD p ((0 : Int), ((0 : Int), ((0 : Int), ())))) = some (ordI (keyOf x).1 (keyOf x).2 (K.getD p (0, 0)).1 (K.getD p (0, 0)).2) := by
        rw [rowsOf_at l h]
        exact sorder_eq N hx.1 hx.2 hfk.1 hfk.2
      rw [ltB_t (by omega), cond_true, inb_t (by omega) (by omega), cond_true, Int.toNat_natCast, ho, Option.bind_some, eqB_f (x := (p : Int)) (by omega), cond_false, cond_true, Option.bind_some, cond_ltB, cond_not, cond_eqB, insK_at h]
      by_cases h1 : kLt (K.getD p (0, 0)) (keyOf x)
      · rw [if_pos (ordI_pos.2 h1), if_pos h1, W_i64 (x := (p : Int) + 1) (by omega) (by omega), natCast_succ' p, take_drop_at h]
        refine seekP N C hs hl hf x hx hz len i hi (m - 1) n (p + 1) (by omega) (by omega) (by omega) fun y hy => ?_
        rw [← List.take_append_getElem h] at hy
        rcases List.mem_append.1 hy with hy | hy
        · exact hb y hy
        · rw [List.getD_eq_getElem?_getD, List.getElem?_eq_getElem h] at h1
          rw [List.mem_singleton.1 hy]; exact h1
      · rw [if_neg (fun h => h1 (ordI_pos.1 h)), if_neg h1]
        by_cases h2 : K.getD p (0, 0) = keyOf x
        · rw [if_pos (ordI_zero.2 h2), if_pos h2, List.take_append_drop]
        · rw [if_neg (fun h => h2 (ordI_zero.1 h)), if_neg h2, insL_eq N (by rw [rowsOf_len]; omega) (by rw [rowsOf_len]; omega), Option.bind_some]
          have hz' := hz (not_mem_at hs hb (drop_gt hs h h1 h2))
          have e := rowsOf_ins l K p (keyOf x)
          rw [← rowK_zero hz'] at e
          exact congrArg (fun R => C E R S len ((i + 1 : Nat) : Int)) e
    · have hd : K.drop p = [] := List.drop_eq_nil_of_le (by omega)
      rw [ltB_f (by omega), cond_false, eqB_t (by omega), cond_true, insL_eq N (by rw [rowsOf_len]; omega) (by rw [rowsOf_len]; omega), Option.bind_some]
      have hz' := hz (not_mem_at hs hb (by rw [hd]; exact fun x hx => nomatch hx))
      have e := rowsOf_ins l K p (keyOf x)
      rw [← rowK_zero hz'] at e
      have e2 : insK (keyOf x) (K.drop p) = keyOf x :: K.drop p := by rw [hd]; rfl
      rw [e2]
      exact congrArg (fun R => C E R S len ((i + 1 : Nat) : Int)) e
end VM
end

section
/- Plain laws: stock.Post, whole. -/
set_option linter.unusedSimpArgs false
namespace VM
open Go VM.F
set_option linter.unusedVariables false

def flatE (E : List (Ty.den tI3)) (i : Nat) : Prop := eqI (qtysIn (i : Int) E).sum 0
instance (E : List (Ty.den tI3)) : DecidablePred (flatE E) := fun i => by unfold flatE; infer_instance
theorem flat_in (N : Nat) (hN : 2000000 ≤ N) (K : stock_flat.t_l2) {E : List (Ty.den tI3)} (hq : Qty64 E) (hl : E.length ≤ 100000) (a : Nat) (ha : a < 6) :
    stock_flat.l6 N K N E (a : Int) [] (a : Int) E (E.length : Int) 0 = if (qtysIn (a : Int) E).sum = 0 then K E ((a + 1 : Nat) : Int) else some false := by
  have := lrec E ((0 : Int), ((0 : Int), ((0 : Int), ()))) (fun n j ws => stock_flat.l6 N K n E (a : Int) (ws.map wideN) (a : Int) E (E.length : Int) j)
    (fun t ws => if (ws ++ qtysIn (a : Int) t).sum = 0 then K E ((a + 1 : Nat) : Int) else some false)
    (fun j (ws : List Int) => ws.length ≤ j ∧ ∀ x ∈ ws, In64 x)
    (fun n j ws hj hI hr => ?_) (fun n ws hI => ?_) E.length N 0 [] (by omega) (by omega) (by omega) ⟨Nat.le_refl _, fun x hx => nomatch hx⟩
  · rw [show ((0 : Nat) : Int) = 0 from rfl, List.drop_zero] at this
    exact this
  · unfold stock_flat.l6 stock_flat.l6b
    have h64 := qty_at hq j
    have h64' := h64
    unfold In64 qty at h64'
    rw [ltB_t (by omega), cond_true, inb_t (by omega) (by omega), cond_true, Int.toNat_natCast, wOf_eq N h64'.1 h64'.2, Option.bind_some, small_t (by rw [List.length_map, List.length_singleton]; omega), cond_true, W_i64 (x := (j : Int) + 1) (by omega) (by omega), natCast_succ' j, cond_eqB]
    by_cases h1 : (E.getD j ((0 : Int), ((0 : Int), ((0 : Int), ())))).2.1 = (a : Int)
    · have hc : qtysIn (a : Int) (E.getD j ((0 : Int), ((0 : Int), ((0 : Int), ()))) :: E.drop (j + 1)) = qty (E.getD j ((0 : Int), ((0 : Int), ((0 : Int), ())))) :: qtysIn (a : Int) (E.drop (j + 1)) := by rw [qtysIn_cons, if_pos h1]
      rw [if_pos h1, hc]
      have := hr (ws ++ [qty (E.getD j ((0 : Int), ((0 : Int), ((0 : Int), ()))))]) ⟨by rw [List.length_append, List.length_singleton]; omega, in64_snoc hI.2 h64⟩
      rw [List.map_append] at this
      refine this.trans ?_
      rw [List.append_assoc]; rfl
    · have hc : qtysIn (a : Int) (E.getD j ((0 : Int), ((0 : Int), ((0 : Int), ()))) :: E.drop (j + 1)) = qtysIn (a : Int) (E.drop (j + 1)) := by rw [qtysIn_cons, if_neg h1]
      rw [if_neg h1, hc]
      exact hr ws ⟨by omega, hI.2⟩
  · unfold stock_flat.l6 stock_flat.l6b
    rw [ltB_f (by omega), cond_false, wSum64 N hI.2 (by omega) (by omega), Option.bind_some]
    show _ = if (ws ++ []).sum = 0 then K E ((a + 1 : Nat) : Int) else some false
    rw [List.append_nil, Bool.not_true, cond_false, wSign_eq, Option.bind_some, cond_not, cond_eqB, W_i64 (x := (a : Int) + 1) (by omega) (by omega), natCast_succ' a]
    by_cases h : ws.sum = 0
    · rw [if_pos h, if_pos (sgn_zero.2 h)]
    · rw [if_neg h, if_neg (fun k => h (sgn_zero.1 k))]
theorem flatE_eq (N : Nat) (hN : 2000000 ≤ N) {E : List (Ty.den tI3)} (hq : Qty64 E) (hl : E.length ≤ 100000) : stock_flat N E = some (decide (∀ j, j < nInsts → flatE E j) && true) := by
  unfold stock_flat stock_flat.b
  refine scan0 (len := nInsts) (F := fun n i => stock_flat.l2 N n E i) (flatE E) (fun n i r hi hp hr => ?_) (fun n => ?_) N (by unfold nInsts; omega)
  · unfold stock_flat.l2 stock_flat.l2b
    unfold nInsts at hi
    rw [ltB_t (by omega), cond_true, flat_in N hN _ hq hl i hi, hr]
    unfold flatE eqI
    rfl
  · unfold stock_flat.l2 stock_flat.l2b
    rw [ltB_f (by unfold nInsts; omega), cond_false]

/-- Shifts that may be. -/
structure GoodS (E : List (Ty.den tI3)) : Prop where
  place : ∀ x ∈ E, okPlace x.1 x.2.1
  q : ∀ x ∈ E, In64 (qty x) ∧ okQ (qty x)
  len : E.length ≤ 400
  flat : ∀ i : Int, (qtysIn i E).sum = 0

theorem few_place {x : Ty.den tI3} (h : okPlace x.1 x.2.1) : fewK (keyOf x) := by
  have h' : okPlace (keyOf x).1 (keyOf x).2 := h
  unfold okPlace at h'
  unfold fewK few
  omega
theorem sumAt_nokey {l : List (Ty.den tI3)} {k : Key2} (h : k ∉ l.map keyOf) : sumAt k.1 k.2 l = 0 := sumAt_zero fun x hx e => h (by
  have : keyOf x = k := Prod.ext e.1 e.2
  rw [← this]; exact List.mem_map_of_mem hx)

theorem postP_ins (N : Nat) (hN : 2000000 ≤ N) {l E : List (Ty.den tI3)} (hq : Qty64 E) (hE : E.length ≤ 400) (hp : ∀ x ∈ E, fewK (keyOf x)) (hs : Srt (l.map keyOf)) (hl : l.length ≤ 90000) (hlq : Qty64 l) (hlp : ∀ x ∈ l, fewK (keyOf x)) :
    stock_Post.l13 N N E l E (E.length : Int) 0 = outS (coll Fq (fS l E) (insAll (l.map keyOf) E)) := by
  have := lrec E ((0 : Int), ((0 : Int), ((0 : Int), ()))) (fun n i K => stock_Post.l13 N n E (rowsOf l K) E (E.length : Int) i) (fun t K => outS (coll Fq (fS l E) (insAll K t)))
    (fun i (K : List Key2) => K.length ≤ l.length + i ∧ Srt K ∧ (∀ k ∈ K, fewK k) ∧ ∀ x ∈ l, keyOf x ∈ K)
    (fun n i K hi hI hr => ?_) (fun n K hI => ?_) E.length N 0 (l.map keyOf) (by omega) (by omega) (by omega) ⟨by rw [List.length_map]; omega, hs, fun k hk => by
      obtain ⟨x, hx, rfl⟩ := List.mem_map.1 hk
      exact hlp x hx, fun x hx => List.mem_map_of_mem hx⟩
  · rw [show ((0 : Nat) : Int) = 0 from rfl, List.drop_zero] at this
    simp only [rowsOf_self hs] at this
    exact this
  · unfold stock_Post.l13 stock_Post.l13b
    obtain ⟨h1, h2, h3, h4⟩ := hI
    have hm : E.getD i ((0 : Int), ((0 : Int), ((0 : Int), ()))) ∈ E := by
      rw [List.getD_eq_getElem?_getD, List.getElem?_eq_getElem hi]; exact List.getElem_mem hi
    rw [ltB_t (by omega), cond_true, inb_t (by omega) (by omega), cond_true, Int.toNat_natCast]
    refine (seekP N _ h2 (by omega) h3 (E.getD i ((0 : Int), ((0 : Int), ((0 : Int), ())))) (hp _ hm) (fun hk => sumAt_nokey fun hx => hk (by
      obtain ⟨x, hx, e⟩ := List.mem_map.1 hx
      rw [← e]; exact h4 x hx)) (E.length : Int) i (by omega) K.length N 0 (by omega) (by omega) (by omega) (fun y hy => nomatch hy)).trans ?_
    rw [List.take_zero, List.nil_append, List.drop_zero, insAll_cons]
    refine hr (insK (keyOf (E.getD i ((0 : Int), ((0 : Int), ((0 : Int), ()))))) K) ⟨Nat.le_trans (insK_len _ K) (by omega), srt_insK h2, fun k hk => (mem_insK.1 hk).elim (fun e => e ▸ hp _ hm) (h3 k), fun x hx => mem_insK.2 (Or.inr (h4 x hx))⟩
  · unfold stock_Post.l13 stock_Post.l13b
    obtain ⟨h1, h2, h3, h4⟩ := hI
    rw [ltB_f (by omega), cond_false, rowsOf_len, okMake_t (by omega) (by omega) (by omega), cond_true]
    have := postP_out N hN (l := l) (R := rowsOf l K) hq (by omega) (by rw [rowsOf_len]; omega) (fun r hr => by
      unfold rowsOf at hr
      obtain ⟨k, hk, rfl⟩ := List.mem_map.1 hr
      refine ⟨?_, rfl⟩
      show In64 (sumAt k.1 k.2 l)
      by_cases hkl : k ∈ l.map keyOf
      · have e : rowsOf l (l.map keyOf) = l := rowsOf_self hs
        have hm : rowK l k ∈ rowsOf l (l.map keyOf) := List.mem_map_of_mem hkl
        rw [e] at hm
        exact hlq (rowK l k) hm
      · rw [sumAt_nokey hkl]; exact ⟨by decide, by decide⟩)
    rw [rowsOf_keys, rowsOf_len] at this
    exact this

theorem okStock_srt {l : List (Ty.den tI3)} (h : okStock l = true) : Srt (l.map keyOf) ∧ (∀ x ∈ l, okPlace x.1 x.2.1 ∧ okQ (qty x)) := by
  unfold okStock at h
  rw [Bool.and_true] at h
  have h' := of_decide_eq_true h
  have get : ∀ (i : Nat) (hi : i < l.length), l.getD i ((0 : Int), ((0 : Int), ((0 : Int), ()))) = l[i] := fun i hi => by rw [List.getD_eq_getElem?_getD, List.getElem?_eq_getElem hi]; rfl
  have hadj : ∀ i, i + 1 < l.length → kLt (keyOf (l.getD i ((0 : Int), ((0 : Int), ((0 : Int), ()))))) (keyOf (l.getD (i + 1) ((0 : Int), ((0 : Int), ((0 : Int), ()))))) := fun i hi => (h' (i + 1) hi).2.2.2 (by omega)
  have hlt : ∀ j, j < l.length → ∀ i, i < j → kLt (keyOf (l.getD i ((0 : Int), ((0 : Int), ((0 : Int), ()))))) (keyOf (l.getD j ((0 : Int), ((0 : Int), ((0 : Int), ()))))) := by
    intro j
    induction j with
    | zero => intro _ i hi; omega
    | succ j ih =>
      intro hj i hi
      by_cases e : i = j
      · rw [e]; exact hadj j hj
      · exact kLt_trans (ih (by omega) i (by omega)) (hadj j hj)
  refine ⟨?_, fun x hx => ?_⟩
  · refine List.pairwise_map.2 (List.pairwise_iff_getElem.2 fun i j hi hj hij => ?_)
    have := hlt j hj i hij
    rw [get i hi, get j hj] at this
    exact this
  · obtain ⟨i, hi, e⟩ := List.getElem_of_mem hx
    have := h' i hi
    unfold okPos okPos6 at this
    rw [get i hi, e] at this
    exact ⟨this.1, this.2.2.1⟩

theorem Post_eq (N : Nat) (hN : 2000000 ≤ N) {l E : List (Ty.den tI3)} (hk : okStock l = true) (hl : l.length ≤ 90000) (hlq : Qty64 l) (g : GoodS E) : stock_Post N l E = outS (coll Fq (fS l E) (insAll (l.map keyOf) E)) := by
  obtain ⟨hs, hlp⟩ := okStock_srt hk
  have hE := g.len
  unfold stock_Post stock_Post.b
  rw [Stock_eq N (by omega) (by omega), hk, Option.bind_some, Bool.not_true, cond_false, ltB_f (by omega), cond_false]
  refine lrec0 E ((0 : Int), ((0 : Int), ((0 : Int), ()))) (fun n i => stock_Post.l4 N n l E E (E.length : Int) i) (fun _ => outS (coll Fq (fS l E) (insAll (l.map keyOf) E))) (fun n i hi hr => ?_) (fun n => ?_) N (by omega)
  · unfold stock_Post.l4 stock_Post.l4b
    have hm : E.getD i ((0 : Int), ((0 : Int), ((0 : Int), ()))) ∈ E := by
      rw [List.getD_eq_getElem?_getD, List.getElem?_eq_getElem hi]; exact List.getElem_mem hi
    rw [ltB_t (by omega), cond_true, inb_t (by omega) (by omega), cond_true, Int.toNat_natCast, skey_eq, decide_eq_true (g.place _ hm), Option.bind_some, Bool.not_true, cond_false, Quantity_eq, Option.bind_some,
      decide_eq_true (show okQ ((E.getD i ((0 : Int), ((0 : Int), ((0 : Int), ())))).2.2.1) from (g.q _ hm).2), Bool.not_true, cond_false, W_i64 (x := (i : Int) + 1) (by omega) (by omega), natCast_succ' i]
    exact hr
  · unfold stock_Post.l4 stock_Post.l4b
    have hf : stock_flat N E = some true := by
      rw [flatE_eq N hN (fun x hx => (g.q x hx).1) (by omega), decide_eq_true (p := ∀ j, j < nInsts → flatE E j) (fun j _ => g.flat (j : Int))]; rfl
    rw [ltB_f (by omega), cond_false, hf, Option.bind_some, Bool.not_true, cond_false, clL_eq N (by omega), Option.bind_some]
    exact postP_ins N hN (fun x hx => (g.q x hx).1) hE (fun x hx => few_place (g.place x hx)) hs hl hlq (fun x hx => few_place (hlp x hx).1)
end VM
end

