/- A part of the proof of WindAll, of layer 21: what the functions compute, in plain words. -/
import Derived.Test.YtnkhdmeoclffaaaGreatPlain2
import Derived.Test.YtnkhdmeoclffaaaGreatVm6
set_option linter.all false
section
/- Plain laws: AwardAll. -/
set_option linter.unusedSimpArgs false
namespace VM
open Go VM.F
set_option linter.unusedVariables false

theorem eqB_self (x : Int) : eqB x x = true := eqB_t rfl
theorem teq_i2 (x : Ty.den tI2) : teq (.pair (.int .i64) (.pair (.int .i64) .unit)) x x = true := by
  show (eqB x.1 x.1 && (eqB x.2.1 x.2.1 && true)) = true
  rw [eqB_self, eqB_self]; rfl
theorem teq_i3 (x : Ty.den tI3) : teq (.pair (.int .i64) (.pair (.int .i64) (.pair (.int .i64) .unit))) x x = true := by
  show (eqB x.1 x.1 && teq (.pair (.int .i64) (.pair (.int .i64) .unit)) x.2 x.2) = true
  rw [eqB_self, teq_i2]; rfl
theorem teq_i4 (x : Ty.den tI4) : teq (.pair (.int .i64) (.pair (.int .i64) (.pair (.int .i64) (.pair (.int .i64) .unit)))) x x = true := by
  show (eqB x.1 x.1 && teq (.pair (.int .i64) (.pair (.int .i64) (.pair (.int .i64) .unit))) x.2 x.2) = true
  rw [eqB_self, teq_i3]; rfl
theorem teq_i6 (x : Ty.den tI6) : teq (.pair (.int .i64) (.pair (.int .i64) (.pair (.int .i64) (.pair (.int .i64) (.pair (.int .i64) (.pair (.int .i64) .unit)))))) x x = true := by
  show (eqB x.1 x.1 && (eqB x.2.1 x.2.1 && teq (.pair (.int .i64) (.pair (.int .i64) (.pair (.int .i64) (.pair (.int .i64) .unit)))) x.2.2 x.2.2)) = true
  rw [eqB_self, eqB_self, teq_i4]; rfl

theorem same_loop {F : Nat → Int → Option Bool} {len : Nat} (hs : ∀ n (i : Nat), i < len → F n ((i + 1 : Nat) : Int) = some true → F (n + 1) (i : Int) = some true) (he : ∀ n, F (n + 1) (len : Int) = some true) : ∀ (m n i : Nat), len - i ≤ m → m < n → i ≤ len → F n (i : Int) = some true
  | m, 0, i, _, hn, _ => by omega
  | m, n + 1, i, hm, hn, hi => by
    by_cases h : i < len
    · exact hs n i h (same_loop hs he (m - 1) n (i + 1) (by omega) (by omega) (by omega))
    · have : i = len := by omega
      subst this; exact he n
theorem hMembers_eq (N : Nat) {l : List (Ty.den tI2)} (hl : l.length ≤ 100000) (hN : 200000 ≤ N) : novationhelp_Members N l l = some true := by
  unfold novationhelp_Members novationhelp_Members.b
  rw [eqB_self, Bool.not_true, cond_false]
  refine same_loop (F := fun n i => novationhelp_Members.l4 N n l l i) (len := l.length) (fun n i hi hr => ?_) (fun n => ?_) l.length N 0 (by omega) (by omega) (by omega)
  · unfold novationhelp_Members.l4 novationhelp_Members.l4b
    rw [ltB_t (by omega), cond_true, inb_t (by omega) (by omega), cond_true, cond_true, teq_i2, Bool.not_true, cond_false, W_i64 (x := (i : Int) + 1) (by omega) (by omega), natCast_succ' i]
    exact hr
  · unfold novationhelp_Members.l4 novationhelp_Members.l4b
    rw [ltB_f (by omega), cond_false]
theorem hAccs_eq (N : Nat) {l : List (Ty.den tI4)} (hl : l.length ≤ 100000) (hN : 200000 ≤ N) : novationhelp_Accs N l l = some true := by
  unfold novationhelp_Accs novationhelp_Accs.b
  rw [eqB_self, Bool.not_true, cond_false]
  refine same_loop (F := fun n i => novationhelp_Accs.l4 N n l l i) (len := l.length) (fun n i hi hr => ?_) (fun n => ?_) l.length N 0 (by omega) (by omega) (by omega)
  · unfold novationhelp_Accs.l4 novationhelp_Accs.l4b
    rw [ltB_t (by omega), cond_true, inb_t (by omega) (by omega), cond_true, cond_true, teq_i4, Bool.not_true, cond_false, W_i64 (x := (i : Int) + 1) (by omega) (by omega), natCast_succ' i]
    exact hr
  · unfold novationhelp_Accs.l4 novationhelp_Accs.l4b
    rw [ltB_f (by omega), cond_false]
theorem hRows_eq (N : Nat) {l : List (Ty.den tI3)} (hl : l.length ≤ 100000) (hN : 200000 ≤ N) : novationhelp_Rows N l l = some true := by
  unfold novationhelp_Rows novationhelp_Rows.b
  rw [eqB_self, Bool.not_true, cond_false]
  refine same_loop (F := fun n i => novationhelp_Rows.l4 N n l l i) (len := l.length) (fun n i hi hr => ?_) (fun n => ?_) l.length N 0 (by omega) (by omega) (by omega)
  · unfold novationhelp_Rows.l4 novationhelp_Rows.l4b
    rw [ltB_t (by omega), cond_true, inb_t (by omega) (by omega), cond_true, cond_true, teq_i3, Bool.not_true, cond_false, W_i64 (x := (i : Int) + 1) (by omega) (by omega), natCast_succ' i]
    exact hr
  · unfold novationhelp_Rows.l4 novationhelp_Rows.l4b
    rw [ltB_f (by omega), cond_false]
theorem hStock_eq (N : Nat) {l : List (Ty.den tI3)} (hl : l.length ≤ 100000) (hN : 200000 ≤ N) : novationhelp_Stock N l l = some true := by
  unfold novationhelp_Stock novationhelp_Stock.b
  rw [eqB_self, Bool.not_true, cond_false]
  refine same_loop (F := fun n i => novationhelp_Stock.l4 N n l l i) (len := l.length) (fun n i hi hr => ?_) (fun n => ?_) l.length N 0 (by omega) (by omega) (by omega)
  · unfold novationhelp_Stock.l4 novationhelp_Stock.l4b
    rw [ltB_t (by omega), cond_true, inb_t (by omega) (by omega), cond_true, cond_true, teq_i3, Bool.not_true, cond_false, W_i64 (x := (i : Int) + 1) (by omega) (by omega), natCast_succ' i]
    exact hr
  · unfold novationhelp_Stock.l4 novationhelp_Stock.l4b
    rw [ltB_f (by omega), cond_false]
theorem hOrders_eq (N : Nat) {l : List (Ty.den tI6)} (hl : l.length ≤ 100000) (hN : 200000 ≤ N) : novationhelp_Orders N l l = some true := by
  unfold novationhelp_Orders novationhelp_Orders.b
  rw [eqB_self, Bool.not_true, cond_false]
  refine same_loop (F := fun n i => novationhelp_Orders.l4 N n l l i) (len := l.length) (fun n i hi hr => ?_) (fun n => ?_) l.length N 0 (by omega) (by omega) (by omega)
  · unfold novationhelp_Orders.l4 novationhelp_Orders.l4b
    rw [ltB_t (by omega), cond_true, inb_t (by omega) (by omega), cond_true, cond_true, teq_i6, Bool.not_true, cond_false, W_i64 (x := (i : Int) + 1) (by omega) (by omega), natCast_succ' i]
    exact hr
  · unfold novationhelp_Orders.l4 novationhelp_Orders.l4b
    rw [ltB_f (by omega), cond_false]
theorem hInts_eq (N : Nat) {l : List (Int)} (hl : l.length ≤ 100000) (hN : 200000 ≤ N) : novationhelp_Ints N l l = some true := by
  unfold novationhelp_Ints novationhelp_Ints.b
  rw [eqB_self, Bool.not_true, cond_false]
  refine same_loop (F := fun n i => novationhelp_Ints.l4 N n l l i) (len := l.length) (fun n i hi hr => ?_) (fun n => ?_) l.length N 0 (by omega) (by omega) (by omega)
  · unfold novationhelp_Ints.l4 novationhelp_Ints.l4b
    rw [ltB_t (by omega), cond_true, inb_t (by omega) (by omega), cond_true, cond_true, eqB_self, Bool.not_true, cond_false, W_i64 (x := (i : Int) + 1) (by omega) (by omega), natCast_succ' i]
    exact hr
  · unfold novationhelp_Ints.l4 novationhelp_Ints.l4b
    rw [ltB_f (by omega), cond_false]
theorem hBook_eq (N : Nat) (hN : 200000 ≤ N) {b : Ty.den tBook} (h1 : b.1.length ≤ 100000) (h2 : b.2.1.length ≤ 100000) (h3 : b.2.2.1.length ≤ 100000) (h4 : b.2.2.2.1.length ≤ 100000) (h5 : b.2.2.2.2.1.length ≤ 100000) (h6 : b.2.2.2.2.2.1.length ≤ 100000) : novationhelp_Book N b b = some true := by
  unfold novationhelp_Book
  rw [hMembers_eq N h1 hN, Option.bind_some, cond_true, hAccs_eq N h2 hN, Option.bind_some, cond_true, hRows_eq N h3 hN, Option.bind_some, cond_true, hStock_eq N h4 hN, Option.bind_some, cond_true, hInts_eq N h5 hN, Option.bind_some, cond_true, hOrders_eq N h6 hN, Option.bind_some]
theorem coll_len {P : Int → Prop} [DecidablePred P] {f : Int → Int → Int} : ∀ {K : List Key2} {o : List (Ty.den tI3)}, coll P f K = some o → o.length ≤ K.length
  | [], o, h => by
    have : some [] = some o := h
    rw [← Option.some.inj this]; exact Nat.le_refl _
  | k :: t, o, h => by
    rw [coll_cons] at h
    by_cases hP : P (f k.1 k.2)
    · rw [if_pos hP] at h
      cases hc : coll P f t with
      | none => rw [hc] at h; exact absurd h (by simp)
      | some r =>
        have ih := coll_len hc
        rw [hc] at h
        have h' := Option.some.inj h
        rw [← h', List.length_cons]
        dsimp only
        split
        · omega
        · rw [List.length_cons]; omega
    · rw [if_neg hP] at h; exact absurd h (by simp)
theorem stockG_len : stockG.length = 150 := by decide +kernel
theorem rowsG_len : rowsG.length = 175 := by decide +kernel
/-- A book whose parts are not too long. -/
structure Short (b : Ty.den tBook) : Prop where
  m : b.1.length ≤ 100000
  a : b.2.1.length ≤ 100000
  r : b.2.2.1.length ≤ 100000
  s : b.2.2.2.1.length ≤ 100000
  p : b.2.2.2.2.1.length ≤ 100000
  o : b.2.2.2.2.2.1.length ≤ 100000
theorem short_nil : Short (([] : List (Ty.den tI2)), (([] : List (Ty.den tI4)), (([] : List (Ty.den tI3)), (([] : List (Ty.den tI3)), (([] : List Int), (([] : List (Ty.den tI6)), ())))))) := ⟨Nat.zero_le _, Nat.zero_le _, Nat.zero_le _, Nat.zero_le _, Nat.zero_le _, Nat.zero_le _⟩
theorem moved_short {b : Ty.den tBook} (w : BookWf b) (s e : List (Ty.den tI3)) : Short (movedOf b s e).1 := by
  unfold movedOf
  cases h1 : coll Fq (fS b.2.2.2.1 s) stockG with
  | none => exact short_nil
  | some s' =>
    cases h2 : coll In64 (fS b.2.2.1 e) rowsG with
    | none => exact short_nil
    | some r' =>
      have g1 := coll_len h1
      have g2 := coll_len h2
      rw [stockG_len] at g1
      rw [rowsG_len] at g2
      exact ⟨w.m, w.a, by show r'.length ≤ _; omega, by show s'.length ≤ _; omega, w.p, w.o⟩
end VM
end

section
/- Plain laws: AwardAll, whole. -/
set_option linter.unusedSimpArgs false
namespace VM
open Go VM.F Go.RowKit
set_option linter.unusedVariables false

def firstAt (a b : Int) : List (Ty.den tI3) → Int
  | [] => 0
  | x :: t => if x.1 = a then (if x.2.1 = b then x.2.2.1 else firstAt a b t) else firstAt a b t
theorem firstAt_cons (a b : Int) (x : Ty.den tI3) (t : List (Ty.den tI3)) : firstAt a b (x :: t) = if x.1 = a then (if x.2.1 = b then x.2.2.1 else firstAt a b t) else firstAt a b t := rfl
def heldOf (l : List (Ty.den tI3)) (a b : Int) : Int := if okStock l then firstAt a b l else 0
def getOf (l : List (Ty.den tI3)) (a b : Int) : Int := if okRows l then firstAt a b l else 0
theorem Held_eq (N : Nat) {l : List (Ty.den tI3)} (hl : l.length ≤ 100000) (hN : 200000 ≤ N) (a b : Int) : novationref10_Held N l a b = some (heldOf l a b) := by
  unfold novationref10_Held novationref10_Held.b heldOf
  rw [rStock_eq N hl hN, Option.bind_some, cond_not]
  have := lrec0 l ((0 : Int), ((0 : Int), ((0 : Int), ()))) (fun n i => novationref10_Held.l4 N n l a b i) (fun t => some (firstAt a b t)) (fun n i hi hr => ?_) (fun n => ?_) N (by omega)
  · rw [this]; cases okStock l <;> rfl
  · unfold novationref10_Held.l4 novationref10_Held.l4b
    rw [ltB_t (by omega), cond_true, inb_t (by omega) (by omega), cond_true, cond_true, cond_true, Int.toNat_natCast, W_i64 (x := (i : Int) + 1) (by omega) (by omega), natCast_succ' i, hr, cond_eqB, cond_eqB, firstAt_cons]
    split
    · split <;> rfl
    · rfl
  · unfold novationref10_Held.l4 novationref10_Held.l4b
    rw [ltB_f (by omega), cond_false]; rfl
theorem Get_eq (N : Nat) {l : List (Ty.den tI3)} (hl : l.length ≤ 100000) (hN : 200000 ≤ N) (a b : Int) : novationref10_Get N l a b = some (getOf l a b) := by
  unfold novationref10_Get novationref10_Get.b getOf
  rw [rRows_eq N hl hN, Option.bind_some, cond_not]
  have := lrec0 l ((0 : Int), ((0 : Int), ((0 : Int), ()))) (fun n i => novationref10_Get.l4 N n l a b i) (fun t => some (firstAt a b t)) (fun n i hi hr => ?_) (fun n => ?_) N (by omega)
  · rw [this]; cases okRows l <;> rfl
  · unfold novationref10_Get.l4 novationref10_Get.l4b
    rw [ltB_t (by omega), cond_true, inb_t (by omega) (by omega), cond_true, cond_true, cond_true, Int.toNat_natCast, W_i64 (x := (i : Int) + 1) (by omega) (by omega), natCast_succ' i, hr, cond_eqB, cond_eqB, firstAt_cons]
    split
    · split <;> rfl
    · rfl
  · unfold novationref10_Get.l4 novationref10_Get.l4b
    rw [ltB_f (by omega), cond_false]; rfl

theorem mem_q64 {l : List (Ty.den tI3)} (h : ∀ i, i < l.length → In64 (qty (l.getD i ((0 : Int), ((0 : Int), ((0 : Int), ())))))) : Qty64 l := fun x hx => by
  obtain ⟨i, hi, e⟩ := List.getElem_of_mem hx
  have := h i hi
  rw [List.getD_eq_getElem?_getD, List.getElem?_eq_getElem hi] at this
  rw [← e]; exact this
theorem i64_of {x : Int} (h : (Lit.int .i64 x).wf = true) : In64 x := by
  have := wf_i64.1 h
  unfold In64; omega
theorem qty_wf {l : List (Ty.den tI3)} (h : WF (.slice tI3) l) : Qty64 l := fun x hx => by
  obtain ⟨i, hi, rfl⟩ := List.getElem_of_mem hx
  have h3 := h.2 i hi
  exact i64_of h3.2.2.1
namespace Pure
end Pure
end VM
end

section
/- Plain laws: an account's positions, what it costs to close them out. -/
set_option linter.unusedSimpArgs false
namespace VM
open Go VM.F
set_option linter.unusedVariables false

theorem wNeg_eq (N : Nat) {x : Int} (h : In64 x) : wide_Neg N (wideN x) = some (wideN (-x), true) := by
  unfold wide_Neg wide_Sub wideN
  unfold In64 at h
  dsimp only
  rw [W_mod, W_mod, sub64_eq N (by omega) (by omega) (by omega) (by omega) (by omega) (by omega), Option.bind_some]
  dsimp only
  have hb : (0 : Int) ≤ (if (0 : Int) < x % 18446744073709551616 + 0 then 1 else 0) ∧ (if (0 : Int) < x % 18446744073709551616 + 0 then (1 : Int) else 0) ≤ 1 := by split <;> omega
  rw [sub64_eq N (by omega) (by omega) (by omega) (by omega) hb.1 hb.2, Option.bind_some]
  dsimp only
  have key : ∀ {z : Ty.den tWide}, z = wideN (-x) → ((some (z, true) : Option (Ty.den tWide × Bool)).bind fun r1 => some (r1.1, r1.2)) = some (wideN (-x), true) := fun e => by rw [e]; rfl
  by_cases h0 : x = 0
  · subst h0
    rw [if_neg (by omega), W_i64 (by omega) (by omega), ltB_f (x := 0) (y := 0) (by omega), ltB_f (x := 0 / 18446744073709551616) (by omega)]
    simp only [teq_bool, beq_self_eq_true, Bool.not_true, cond_false]
    refine key (wmk ?_ ?_) <;> omega
  · rw [if_pos (by omega)]
    by_cases h1 : 0 < x
    · rw [ltB_f (x := 0) (y := 0) (by omega), ltB_f (x := x / 18446744073709551616) (by omega)]
      simp only [teq_bool, beq_self_eq_true, Bool.not_true, cond_false]
      refine key (wmk ?_ ?_)
      · rw [W_i64_def]; split <;> omega
      · omega
    · have e : W .i64 ((0 % 18446744073709551616 - x / 18446744073709551616 % 18446744073709551616 - 1) % 18446744073709551616) = 0 := by rw [W_i64_def]; split <;> omega
      rw [e, ltB_f (x := 0) (y := 0) (by omega), ltB_t (x := x / 18446744073709551616) (by omega), teq_bool, teq_bool]
      refine key (wmk ?_ ?_) <;> omega

theorem GetP_eq (N : Nat) {l : List (Ty.den tI3)} (hl : l.length ≤ 100000) (hN : 200000 ≤ N) (a b : Int) : ledger_Get N l a b = some (getOf l a b) := by
  unfold ledger_Get ledger_Get.b getOf
  rw [Rows_eq N hl hN, Option.bind_some, cond_not]
  have := lrec0 l ((0 : Int), ((0 : Int), ((0 : Int), ()))) (fun n i => ledger_Get.l4 N n a b l (l.length : Int) i) (fun t => some (firstAt a b t)) (fun n i hi hr => ?_) (fun n => ?_) N (by omega)
  · rw [this]; cases okRows l <;> rfl
  · unfold ledger_Get.l4 ledger_Get.l4b
    rw [ltB_t (by omega), cond_true, inb_t (by omega) (by omega), cond_true, Int.toNat_natCast, W_i64 (x := (i : Int) + 1) (by omega) (by omega), natCast_succ' i, hr, cond_eqB, cond_eqB, firstAt_cons]
    split
    · split <;> rfl
    · rfl
  · unfold ledger_Get.l4 ledger_Get.l4b
    rw [ltB_f (by omega), cond_false]; rfl
theorem firstAt_in {l : List (Ty.den tI3)} (h : Qty64 l) (a b : Int) : In64 (firstAt a b l) := by
  induction l with
  | nil => show In64 0; decide
  | cons x t ih =>
    have ih := ih (fun y hy => h y (List.mem_cons_of_mem _ hy))
    rw [firstAt_cons]
    split
    · split
      · exact h x (List.mem_cons_self ..)
      · exact ih
    · exact ih
theorem getOf_in {l : List (Ty.den tI3)} (h : Qty64 l) (a b : Int) : In64 (getOf l a b) := by
  unfold getOf
  split
  · exact firstAt_in h a b
  · exact ⟨by decide, by decide⟩

def legsOf (a : Int) : List (Ty.den tI3) → List (Ty.den tI2)
  | [] => []
  | x :: t => if x.1 = a then (x.2.1, (x.2.2.1, ())) :: legsOf a t else legsOf a t
theorem legsOf_cons (a : Int) (x : Ty.den tI3) (t : List (Ty.den tI3)) : legsOf a (x :: t) = if x.1 = a then (x.2.1, (x.2.2.1, ())) :: legsOf a t else legsOf a t := rfl
def posOf (l : List (Ty.den tI3)) (a : Int) : List (Ty.den tI2) := if okStock l then legsOf a l else []
theorem legsOf_len (a : Int) : ∀ l : List (Ty.den tI3), (legsOf a l).length ≤ l.length
  | [] => Nat.le_refl _
  | x :: t => by
    have := legsOf_len a t
    rw [legsOf_cons, List.length_cons]
    split
    · rw [List.length_cons]; omega
    · omega
theorem posOf_len (a : Int) (l : List (Ty.den tI3)) : (posOf l a).length ≤ l.length := by
  unfold posOf
  split
  · exact legsOf_len a l
  · exact Nat.zero_le _
theorem mem_legsOf {a : Int} {y : Ty.den tI2} : ∀ {l : List (Ty.den tI3)}, y ∈ legsOf a l → ∃ x ∈ l, x.1 = a ∧ y = (x.2.1, (x.2.2.1, ()))
  | [], h => nomatch h
  | x :: t, h => by
    rw [legsOf_cons] at h
    by_cases e : x.1 = a
    · rw [if_pos e] at h
      rcases List.mem_cons.1 h with h | h
      · exact ⟨x, List.mem_cons_self .., e, h⟩
      · obtain ⟨x', hx, h'⟩ := mem_legsOf h
        exact ⟨x', List.mem_cons_of_mem _ hx, h'⟩
    · rw [if_neg e] at h
      obtain ⟨x', hx, h'⟩ := mem_legsOf h
      exact ⟨x', List.mem_cons_of_mem _ hx, h'⟩
theorem posOf_in {l : List (Ty.den tI3)} (h : Qty64 l) (a : Int) : ∀ y ∈ posOf l a, In64 y.2.1 := fun y hy => by
  unfold posOf at hy
  split at hy
  · obtain ⟨x, hx, _, rfl⟩ := mem_legsOf hy
    exact h x hx
  · nomatch hy
theorem Of_eq (N : Nat) {l : List (Ty.den tI3)} (hl : l.length ≤ 100000) (hN : 200000 ≤ N) (a : Int) : stock_Of N l a = some (posOf l a) := by
  unfold stock_Of stock_Of.b posOf
  rw [Stock_eq N hl hN, Option.bind_some, cond_not]
  have := lrec l ((0 : Int), ((0 : Int), ((0 : Int), ()))) (fun n i s => stock_Of.l5 N n a s l (l.length : Int) i) (fun t s => some (s ++ legsOf a t)) (fun i (s : List (Ty.den tI2)) => s.length ≤ i) (fun n i s hi hI hr => ?_) (fun n s hI => ?_) l.length N 0 [] (by omega) (by omega) (by omega) (Nat.le_refl _)
  · have e : stock_Of.l5 N N a [] l (l.length : Int) 0 = some (legsOf a l) := this
    rw [e]; cases okStock l <;> rfl
  · unfold stock_Of.l5 stock_Of.l5b
    rw [ltB_t (by omega), cond_true, inb_t (by omega) (by omega), cond_true, Int.toNat_natCast, W_i64 (x := (i : Int) + 1) (by omega) (by omega), natCast_succ' i, cond_eqB, small_t (by rw [List.length_singleton]; omega), cond_true, legsOf_cons]
    split
    · rw [hr _ (by rw [List.length_append, List.length_singleton]; omega), List.append_assoc]; rfl
    · exact hr s (by omega)
  · unfold stock_Of.l5 stock_Of.l5b
    rw [ltB_f (by omega), cond_false]
    show some s = some (s ++ [])
    rw [List.append_nil]
theorem rOf_eq (N : Nat) {l : List (Ty.den tI3)} (hl : l.length ≤ 100000) (hN : 200000 ≤ N) (a : Int) : novationref10_Of N l a = some (posOf l a) := by
  unfold novationref10_Of novationref10_Of.b posOf
  rw [rStock_eq N hl hN, Option.bind_some, cond_not]
  have := lrec l ((0 : Int), ((0 : Int), ((0 : Int), ()))) (fun n i s => novationref10_Of.l5 N n l a s i) (fun t s => some (s ++ legsOf a t)) (fun i (s : List (Ty.den tI2)) => s.length ≤ i) (fun n i s hi hI hr => ?_) (fun n s hI => ?_) l.length N 0 [] (by omega) (by omega) (by omega) (Nat.le_refl _)
  · have e : novationref10_Of.l5 N N l a [] 0 = some (legsOf a l) := this
    rw [e]; cases okStock l <;> rfl
  · unfold novationref10_Of.l5 novationref10_Of.l5b
    rw [ltB_t (by omega), cond_true, inb_t (by omega) (by omega), cond_true, cond_true, cond_true, Int.toNat_natCast, W_i64 (x := (i : Int) + 1) (by omega) (by omega), natCast_succ' i, cond_eqB, small_t (by rw [List.length_singleton]; omega), cond_true, legsOf_cons]
    split
    · rw [hr _ (by rw [List.length_append, List.length_singleton]; omega), List.append_assoc]; rfl
    · exact hr s (by omega)
  · unfold novationref10_Of.l5 novationref10_Of.l5b
    rw [ltB_f (by omega), cond_false]
    show some s = some (s ++ [])
    rw [List.append_nil]

def slipAt (c : Ty.den tConfig) (y : Ty.den tI2) : Int := (c.1.getD y.1.toNat ((0 : Int), ((0 : Int), ((0 : Int), ((0 : Int), ()))))).2.2.2.1
def slips (c : Ty.den tConfig) (l : List (Ty.den tI2)) : List Int := l.map fun y => (y.2.1.natAbs : Int) * slipAt c y
/-- What it costs to close positions out. -/
def slipOf (c : Ty.den tConfig) (l : List (Ty.den tI2)) : Int := if okLegs c l then (slips c l).sum else 0
def slipCode (c : Ty.den tConfig) (l : List (Ty.den tI2)) : Int := if okLegs c l then 0 else 1
def placeIn (a n : Int) : Prop := 0 ≤ a ∧ a < n
structure LegC (c : Ty.den tConfig) (y : Ty.den tI2) : Prop where
  place : placeIn y.1 c.1.length
  size : (y.2.1.natAbs : Int) ≤ 9223372036854775807
  q : In64 y.2.1
  rate : 0 ≤ slipAt c y ∧ slipAt c y ≤ 1000000000
theorem legC_of {c : Ty.den tConfig} {t : List (Ty.den tI2)} (h : okLegs c t = true) (h64 : ∀ y ∈ t, In64 y.2.1) : ∀ y ∈ t, LegC c y := fun y hy => by
  unfold okLegs at h
  obtain ⟨h1, h2⟩ := Bool.and_eq_true_iff.1 h
  obtain ⟨i, hi, e⟩ := List.getElem_of_mem hy
  have a := of_decide_eq_true h1 i hi
  unfold okLeg okLeg5 at a
  rw [List.getD_eq_getElem?_getD, List.getElem?_eq_getElem hi] at a
  simp only [Option.getD_some, e] at a
  have hp : placeIn y.1 c.1.length := ⟨a.1, a.2.1⟩
  have hlt : y.1.toNat < c.1.length := by
    have g : ∀ x : Int, placeIn x c.1.length → x.toNat < c.1.length := fun x hx => by unfold placeIn at hx; omega
    exact g _ hp
  have hq := h64 y hy
  refine ⟨hp, ?_, hq, ?_⟩
  · have g : ∀ x : Int, In64 x → okQ x → (x.natAbs : Int) ≤ 9223372036854775807 := fun x h1 h2 => by unfold In64 at h1; unfold okQ at h2; omega
    exact g _ hq a.2.2.2.1
  · unfold okPlan at h2
    have b := of_decide_eq_true (Bool.and_eq_true_iff.1 (Bool.and_eq_true_iff.1 h2).2).1 _ hlt
    exact b.2.2.2
theorem slip_one {c : Ty.den tConfig} {y : Ty.den tI2} (h : LegC c y) : 0 ≤ (y.2.1.natAbs : Int) * slipAt c y ∧ (y.2.1.natAbs : Int) * slipAt c y ≤ 9223372036854775807000000000 := by
  have := mul_lt (a := (y.2.1.natAbs : Int)) (b := slipAt c y) (m := 9223372036854775807) (n := 1000000000) (by omega) h.rate.1 h.size h.rate.2
  exact ⟨this.1, by have := this.2; omega⟩
theorem sum_rng {B : Int} (hB : 0 ≤ B) : ∀ {ws : List Int}, (∀ x ∈ ws, 0 ≤ x ∧ x ≤ B) → 0 ≤ ws.sum ∧ ws.sum ≤ B * (ws.length : Int)
  | [], _ => by simp
  | x :: t, h => by
    have h0 := h x (List.mem_cons_self ..)
    have ih := sum_rng hB (ws := t) (fun y hy => h y (List.mem_cons_of_mem _ hy))
    rw [List.sum_cons, List.length_cons]
    have e : B * ((t.length + 1 : Nat) : Int) = B * (t.length : Int) + B := by rw [Int.natCast_add, Int.mul_add]; simp
    rw [e]
    omega
theorem slips_rng {c : Ty.den tConfig} {t : List (Ty.den tI2)} (h : ∀ y ∈ t, LegC c y) : ∀ x ∈ slips c t, 0 ≤ x ∧ x ≤ 9223372036854775807000000000 := fun x hx => by
  obtain ⟨y, hy, rfl⟩ := List.mem_map.1 hx
  exact slip_one (h y hy)
theorem slipOf_rng {c : Ty.den tConfig} {t : List (Ty.den tI2)} (h64 : ∀ y ∈ t, In64 y.2.1) : 0 ≤ slipOf c t ∧ slipOf c t ≤ 92233720368547758070000000000 := by
  unfold slipOf
  by_cases h : okLegs c t = true
  · rw [if_pos h]
    have hg := (legs_good h h64).len
    have := sum_rng (by omega) (slips_rng (legC_of h h64))
    have hl : (slips c t).length = t.length := List.length_map ..
    rw [hl] at this
    omega
  · rw [if_neg h]; omega
theorem rng128 {x : Int} (h : 0 ≤ x ∧ x ≤ 92233720368547758070000000000) : In128 x := by unfold In128; omega

theorem Slip_eq (N : Nat) (hN : 2000000 ≤ N) (c : Ty.den tConfig) {t : List (Ty.den tI2)} (hl : t.length ≤ 100000) (h64 : ∀ y ∈ t, In64 y.2.1) : need_Slip N c t = some (wideN (slipOf c t), slipCode c t) := by
  have hr0 := slipOf_rng (c := c) h64
  unfold need_Slip need_by__need_Slip_1 need_by__need_Slip_1.b
  rw [Legs_eq N (by omega) c hl, Option.bind_some, cond_not]
  unfold slipOf slipCode at *
  by_cases h : okLegs c t = true
  · have hC := legC_of h h64
    rw [h, if_pos rfl] at hr0
    rw [h, cond_true, if_pos rfl, if_pos rfl]
    have := lrec t ((0 : Int), ((0 : Int), ())) (fun n i ws => need_by__need_Slip_1.l5 N n () c ((0 : Int), ((0 : Int), ())) (ws.map wideN) t (t.length : Int) i) (fun u ws => some ((sumW (ws ++ slips c u).sum).1, (0 : Int))) (fun i (ws : List Int) => ws.length ≤ i ∧ ∀ x ∈ ws, In128 x)
      (fun n i ws hi hI hr => ?_) (fun n ws hI => ?_) t.length N 0 [] (by omega) (by omega) (by omega) ⟨Nat.le_refl _, fun x hx => nomatch hx⟩
    · have e : need_by__need_Slip_1.l5 N N () c ((0 : Int), ((0 : Int), ())) [] t (t.length : Int) 0 = some ((sumW (slips c t).sum).1, (0 : Int)) := this
      rw [e]
      unfold sumW
      rw [if_pos (rng128 hr0)]; rfl
    · unfold need_by__need_Slip_1.l5 need_by__need_Slip_1.l5b need_Slip_1
      have hm : t.getD i ((0 : Int), ((0 : Int), ())) ∈ t := by
        rw [List.getD_eq_getElem?_getD, List.getElem?_eq_getElem hi]; exact List.getElem_mem hi
      have hy := hC _ hm
      have h1 := slip_one hy
      have hq := hy.q
      unfold In64 at hq
      have hp := hy.place
      have hs := hy.size
      have hrt := hy.rate
      unfold slipAt at hrt
      rw [ltB_t (by omega), cond_true, inb_t (by omega) (by omega), cond_true, Int.toNat_natCast, Size_eq N hq.1 hq.2, Option.bind_some, inb_t hp.1 hp.2, cond_true, Option.bind_some, W_i64 (x := ((t.getD i ((0 : Int), ((0 : Int), ()))).2.1.natAbs : Int)) (by omega) (by omega), wMul_eq N (by omega) (by omega) (Int.le_trans (by decide) hrt.1) (Int.lt_of_le_of_lt hrt.2 (by decide)), Option.bind_some, small_t (by rw [List.length_map, List.length_singleton]; omega), cond_true, W_i64 (x := (i : Int) + 1) (by omega) (by omega), natCast_succ' i]
      have := hr (ws ++ [((t.getD i ((0 : Int), ((0 : Int), ()))).2.1.natAbs : Int) * slipAt c (t.getD i ((0 : Int), ((0 : Int), ())))]) ⟨by rw [List.length_append, List.length_singleton]; omega, in128_snoc hI.2 (rng128 ⟨h1.1, by omega⟩)⟩
      rw [List.map_append] at this
      refine this.trans ?_
      rw [List.append_assoc]; rfl
    · unfold need_by__need_Slip_1.l5 need_by__need_Slip_1.l5b
      rw [ltB_f (by omega), cond_false, wSum_eq N hI.2 (by omega) (by omega), Option.bind_some]
      show _ = some ((sumW (ws ++ []).sum).1, (0 : Int))
      rw [List.append_nil]
  · rw [Bool.not_eq_true] at h
    rw [h, cond_false]; rfl
theorem rSlip_eq (N : Nat) (hN : 4000000 ≤ N) (c : Ty.den tConfig) {t : List (Ty.den tI2)} (hl : t.length ≤ 100000) (h64 : ∀ y ∈ t, In64 y.2.1) : novationref10_Slip N c t = some (bigN (slipOf c t), slipCode c t) := by
  unfold novationref10_Slip novationref10_byRate novationref10_byRate.b
  rw [rLegs_eq N (by omega) c hl, Option.bind_some, cond_not]
  unfold slipOf slipCode
  by_cases h : okLegs c t = true
  · have hC := legC_of h h64
    have hg := (legs_good h h64).len
    rw [h, if_pos rfl, cond_true, if_pos rfl]
    have := lrec t ((0 : Int), ((0 : Int), ())) (fun n i ws => novationref10_byRate.l5 N n t true c (bigN 0) (bigN ws.sum) i) (fun u ws => some (bigN (ws ++ slips c u).sum, (0 : Int))) (fun i (ws : List Int) => ws.length ≤ i ∧ ∀ x ∈ ws, In128 x)
      (fun n i ws hi hI hr => ?_) (fun n ws hI => ?_) t.length N 0 [] (by omega) (by omega) (by omega) ⟨Nat.le_refl _, fun x hx => nomatch hx⟩
    · rw [show ((0 : Nat) : Int) = 0 from rfl, List.drop_zero, List.sum_nil, bigN_zero] at this
      rw [this]; rfl
    · unfold novationref10_byRate.l5 novationref10_byRate.l5b
      have hm : t.getD i ((0 : Int), ((0 : Int), ())) ∈ t := by
        rw [List.getD_eq_getElem?_getD, List.getElem?_eq_getElem hi]; exact List.getElem_mem hi
      have hy := hC _ hm
      have h1 := slip_one hy
      have hq := hy.q
      unfold In64 at hq
      have hp := hy.place
      have hs := hy.size
      have hrt := hy.rate
      have hb := sum128 hI.2
      have hfq := Fit.i64 hq.1 hq.2
      have hfn : Fit ((t.getD i ((0 : Int), ((0 : Int), ()))).2.1.natAbs : Int) 2 := Fit.i64 (by omega) (by omega)
      have hfr : Fit (slipAt c (t.getD i ((0 : Int), ((0 : Int), ())))) 2 := Fit.i64 (Int.le_trans (by decide) hrt.1) (Int.lt_of_le_of_lt hrt.2 (by decide))
      unfold slipAt at hrt hfr
      have h128 : In128 (((t.getD i ((0 : Int), ((0 : Int), ()))).2.1.natAbs : Int) * slipAt c (t.getD i ((0 : Int), ((0 : Int), ())))) := rng128 ⟨h1.1, by omega⟩
      rw [ltB_t (by omega), cond_true, inb_t (by omega) (by omega), cond_true, Int.toNat_natCast, inb_t hp.1 hp.2, cond_true, cond_true, cond_true, cond_true, cond_true, Whole_eq N (by omega) hq.1 hq.2, Option.bind_some, Sized_eq N (by omega) (hfq.mono (by omega)), Option.bind_some, Whole_eq N (by omega) (Int.le_trans (by decide) hrt.1) (Int.lt_of_le_of_lt hrt.2 (by decide)), Option.bind_some, Times_eq N (by omega) (hfn.mono (by omega)) (hfr.mono (by omega)), Option.bind_some]
      have hpl : novationref1_Plus N (bigN ws.sum) (bigN (((t.getD i ((0 : Int), ((0 : Int), ()))).2.1.natAbs : Int) * (c.1.getD (t.getD i ((0 : Int), ((0 : Int), ()))).1.toNat ((0 : Int), ((0 : Int), ((0 : Int), ((0 : Int), ()))))).2.2.2.1)) = some (bigN (ws.sum + ((t.getD i ((0 : Int), ((0 : Int), ()))).2.1.natAbs : Int) * slipAt c (t.getD i ((0 : Int), ((0 : Int), ()))))) := Plus_eq N (by omega) (fit128 (n := ws.length) (by omega) hb.1 hb.2) (fit128' h128)
      rw [hpl, Option.bind_some, W_i64 (x := (i : Int) + 1) (by omega) (by omega), natCast_succ' i]
      have := hr (ws ++ [((t.getD i ((0 : Int), ((0 : Int), ()))).2.1.natAbs : Int) * slipAt c (t.getD i ((0 : Int), ((0 : Int), ())))]) ⟨by rw [List.length_append, List.length_singleton]; omega, in128_snoc hI.2 h128⟩
      rw [List.sum_append, List.sum_cons, List.sum_nil, Int.add_zero, List.append_assoc] at this
      exact this
    · unfold novationref10_byRate.l5 novationref10_byRate.l5b
      rw [ltB_f (by omega), cond_false]
      show _ = some (bigN (ws ++ []).sum, (0 : Int))
      rw [List.append_nil]
  · rw [Bool.not_eq_true] at h
    rw [h, cond_false, ← bigN_zero]; rfl
end VM
end

section
/- Plain laws: what a client bears; positions that go to the clearing house. -/
set_option linter.unusedSimpArgs false
namespace VM
open Go VM.F
set_option linter.unusedVariables false

def chargeV (m s : Int) : Int := if m ≤ 0 then 0 else if s < m then s else m
def chargeOf (c : Ty.den tConfig) (b : Ty.den tBook) (a : Int) : Int × Int :=
  if okBook c b then (if (findOf b.2.1 a).2 then (chargeV (getOf b.2.2.1 5 a) (slipOf c (posOf b.2.2.2.1 a)), 0) else (0, 3)) else (0, 1)
theorem cov_eq {α : Type} (u : Int) (x y : α) : cond (leB 0 (sgn u)) x y = if 0 ≤ u then x else y := by
  rw [cond_leB]
  have : 0 ≤ sgn u ↔ 0 ≤ u := by unfold sgn; split <;> (try split) <;> omega
  by_cases h : 0 ≤ u
  · rw [if_pos h, if_pos (this.2 h)]
  · rw [if_neg h, if_neg (fun k => h (this.1 k))]
theorem Charge_eq (N : Nat) (hN : 4000000 ≤ N) (c : Ty.den tConfig) {b : Ty.den tBook} (w : BookWf b) (a : Int) : wind_Charge N c b a = some (chargeOf c b a) := by
  unfold wind_Charge chargeOf
  have hp := posOf_len a b.2.2.2.1
  have hpi := posOf_in w.qs a
  have hs := w.s
  have hm := getOf_in w.qr 5 a
  have hsl := slipOf_rng (c := c) hpi
  have hmx : mx (getOf b.2.2.1 5 a) 0 = if 0 < getOf b.2.2.1 5 a then getOf b.2.2.1 5 a else 0 := by
    rw [mx_eq]; split <;> split <;> omega
  rw [Book_eq N hN w, Option.bind_some, Acc_eq N b w.a (by omega), Option.bind_some, GetP_eq N w.r (by omega), Option.bind_some, Of_eq N w.s (by omega), cond_not, cond_not, hmx]
  dsimp only
  rw [Option.bind_some, Slip_eq N (by omega) c (by omega) hpi, Option.bind_some]
  unfold need_Covers
  dsimp only
  generalize slipOf c (posOf b.2.2.2.1 a) = s at *
  generalize getOf b.2.2.1 5 a = m at *
  unfold In64 at hm
  cases okBook c b
  · rfl
  rw [cond_true, if_pos rfl]
  cases (findOf b.2.1 a).2
  · rfl
  rw [cond_true, if_pos rfl, wOf_eq N (by split <;> omega) (by split <;> omega), Option.bind_some, wCmp_eq, Option.bind_some, Option.bind_some, cov_eq, wInt_eq' N (rng128 hsl), Option.bind_some]
  unfold chargeV
  by_cases h1 : 0 < m
  · rw [if_pos h1, if_neg (show ¬ m ≤ 0 by omega)]
    by_cases h2 : s < m
    · rw [if_pos (show 0 ≤ m - s by omega), if_pos h2, toI_pos (by unfold In64; omega)]
    · rw [if_neg h2]
      by_cases h3 : s = m
      · rw [if_pos (show 0 ≤ m - s by omega), toI_pos (by unfold In64; omega), h3]
      · rw [if_neg (show ¬ 0 ≤ m - s by omega)]
  · rw [if_neg h1, if_pos (show m ≤ 0 by omega)]
    by_cases h3 : s = 0
    · rw [if_pos (show 0 ≤ 0 - s by omega), toI_pos (by unfold In64; omega), h3]
    · rw [if_neg (show ¬ 0 ≤ 0 - s by omega)]
theorem margin_eq (N : Nat) {b : Ty.den tBook} (w : BookWf b) (hN : 200000 ≤ N) (a : Int) : novationref20_margin N b a = some (getOf b.2.2.1 5 a) := by
  unfold novationref20_margin
  rw [Get_eq N w.r hN, Option.bind_some]
theorem rCharge_eq (N : Nat) (hN : 5000000 ≤ N) (c : Ty.den tConfig) {b : Ty.den tBook} (w : BookWf b) (a : Int) : novationref20_Charge N c b a = some (chargeOf c b a) := by
  unfold novationref20_Charge chargeOf
  have hp := posOf_len a b.2.2.2.1
  have hpi := posOf_in w.qs a
  have hs := w.s
  have hm := getOf_in w.qr 5 a
  have hsl := slipOf_rng (c := c) hpi
  rw [rBook_eq N hN w, Option.bind_some, rFind_eq N w.a (by omega), Option.bind_some, rOf_eq N w.s (by omega), Option.bind_some, rSlip_eq N (by omega) c (by omega) hpi, Option.bind_some, margin_eq N w (by omega), Option.bind_some, Int_eq, Option.bind_some, cond_not, cond_not, cond_leB]
  generalize slipOf c (posOf b.2.2.2.1 a) = s at *
  generalize getOf b.2.2.1 5 a = m at *
  unfold In64 at hm
  cases okBook c b
  · rfl
  rw [cond_true, if_pos rfl]
  cases (findOf b.2.1 a).2
  · rfl
  rw [cond_true, if_pos rfl]
  unfold chargeV
  by_cases h1 : m ≤ 0
  · rw [if_pos h1, if_pos h1]
  · rw [if_neg h1, if_neg h1]
    by_cases h4 : In64 s
    · rw [toI_pos h4]
      dsimp only
      rw [cond_true, cond_ltB]
      split <;> rfl
    · rw [toI_neg h4]
      unfold In64 at h4
      dsimp only
      rw [cond_false, if_neg (by omega)]

theorem pw_len {hi : Int} : ∀ {l : List Int} {lo : Int}, l.Pairwise (· < ·) → (∀ x ∈ l, lo ≤ x ∧ x < hi) → lo ≤ hi → (l.length : Int) ≤ hi - lo
  | [], lo, _, _, h => by rw [List.length_nil]; omega
  | x :: t, lo, hp, hm, h => by
    obtain ⟨h1, h2⟩ := List.pairwise_cons.1 hp
    have hx := hm x (List.mem_cons_self ..)
    have ih := pw_len (lo := x + 1) h2 (fun y hy => ⟨h1 y hy, (hm y (List.mem_cons_of_mem _ hy)).2⟩) (by omega)
    rw [List.length_cons]; omega
theorem legs_sorted {a : Int} : ∀ {l : List (Ty.den tI3)}, Srt (l.map keyOf) → ((legsOf a l).map (fun y => (y.1 : Int))).Pairwise (· < ·)
  | [], _ => List.Pairwise.nil
  | x :: t, h => by
    obtain ⟨h1, h2⟩ := List.pairwise_cons.1 h
    have ih := legs_sorted (a := a) h2
    rw [legsOf_cons]
    by_cases e : x.1 = a
    · rw [if_pos e, List.map_cons]
      refine List.pairwise_cons.2 ⟨fun z hz => ?_, ih⟩
      obtain ⟨y, hy, rfl⟩ := List.mem_map.1 hz
      obtain ⟨x', hx, e', rfl⟩ := mem_legsOf hy
      have hk := h1 (keyOf x') (List.mem_map_of_mem hx)
      have g : ∀ p q r s : Int, p = a → r = a → keyLt p q r s → q < s := fun p q r s h1 h2 h => by unfold keyLt at h; omega
      exact g _ _ _ _ e e' hk
    · rw [if_neg e]; exact ih
theorem pos_good {l : List (Ty.den tI3)} (hk : okStock l = true) (hq : Qty64 l) (a : Int) : LegsGood (posOf l a) := by
  obtain ⟨hs, hp⟩ := okStock_srt hk
  have e : posOf l a = legsOf a l := by unfold posOf; rw [hk]; rfl
  rw [e]
  have hin : ∀ y ∈ legsOf a l, legIn y.1 := fun y hy => by
    obtain ⟨x, hx, _, rfl⟩ := mem_legsOf hy
    have g : ∀ p q : Int, okPlace p q → legIn q := fun p q h => by unfold okPlace at h; unfold legIn; omega
    exact g _ _ (hp x hx).1
  refine ⟨?_, hin, fun y hy => ?_⟩
  · have := pw_len (lo := 0) (hi := 6) (legs_sorted (a := a) hs) (fun z hz => by
      obtain ⟨y, hy, rfl⟩ := List.mem_map.1 hz
      exact hin y hy) (by omega)
    rw [List.length_map] at this; omega
  · obtain ⟨x, hx, _, rfl⟩ := mem_legsOf hy
    exact ⟨hq x hx, (hp x hx).2⟩

def allS (a : Int) : List (Ty.den tI2) → List (Ty.den tI3)
  | [] => []
  | y :: t => (a, (y.1, ((0 - y.2.1 : Int), ()))) :: ((0 : Int), (y.1, (y.2.1, ()))) :: allS a t
theorem allS_cons (a : Int) (y : Ty.den tI2) (t : List (Ty.den tI2)) : allS a (y :: t) = (a, (y.1, ((0 - y.2.1 : Int), ()))) :: ((0 : Int), (y.1, (y.2.1, ()))) :: allS a t := rfl
theorem allS_len (a : Int) : ∀ t : List (Ty.den tI2), (allS a t).length = 2 * t.length
  | [] => rfl
  | y :: t => by rw [allS_cons, List.length_cons, List.length_cons, List.length_cons, allS_len a t]; omega
theorem All_eq (N : Nat) (hN : 200000 ≤ N) {l : List (Ty.den tI3)} (hl : l.length ≤ 100000) (hk : okStock l = true) (hq : Qty64 l) {a : Int} (h0 : 1 ≤ a) (h1 : a ≤ 24) : stock_All N l a 0 = some (allS a (posOf l a)) := by
  have hg := pos_good hk hq a
  have hlen := hg.len
  unfold stock_All stock_All.b
  rw [Stock_eq N hl hN, hk, Option.bind_some, Bool.not_true, cond_false, skey_eq, Option.bind_some, decide_eq_true (show okPlace a 0 by unfold okPlace; omega), Bool.not_true, cond_false, skey_eq, Option.bind_some, decide_eq_true (show okPlace 0 0 by decide), Bool.not_true, cond_false, eqB_f (by omega), cond_false, Of_eq N hl hN, Option.bind_some]
  have := lrec (posOf l a) ((0 : Int), ((0 : Int), ())) (fun n i s => stock_All.l5 N n a 0 s (posOf l a) ((posOf l a).length : Int) i) (fun t s => some (s ++ allS a t)) (fun i (s : List (Ty.den tI3)) => s.length ≤ 2 * i) (fun n i s hi hI hr => ?_) (fun n s hI => ?_) (posOf l a).length N 0 [] (by omega) (by omega) (by omega) (Nat.le_refl _)
  · exact this
  · unfold stock_All.l5 stock_All.l5b
    have hm : (posOf l a).getD i ((0 : Int), ((0 : Int), ())) ∈ posOf l a := by
      rw [List.getD_eq_getElem?_getD, List.getElem?_eq_getElem hi]; exact List.getElem_mem hi
    have hn := (negQ (hg.q _ hm)).1
    unfold In64 at hn
    rw [ltB_t (by omega), cond_true, inb_t (by omega) (by omega), cond_true, Int.toNat_natCast, W_i64 (x := (i : Int) + 1) (by omega) (by omega), natCast_succ' i, W_i64 hn.1 hn.2]
    dsimp only
    rw [small_t (by rw [List.length_cons, List.length_singleton]; omega), cond_true, allS_cons]
    refine (hr _ ?_).trans ?_
    · rw [List.length_append, List.length_cons, List.length_singleton]; omega
    · rw [List.append_assoc]; rfl
  · unfold stock_All.l5 stock_All.l5b
    rw [ltB_f (by omega), cond_false]
    show some s = some (s ++ [])
    rw [List.append_nil]
theorem rAll_eq (N : Nat) (hN : 200000 ≤ N) {l : List (Ty.den tI3)} (hl : l.length ≤ 100000) (hk : okStock l = true) (hq : Qty64 l) {a : Int} (h0 : 1 ≤ a) (h1 : a ≤ 24) : novationref10_All N l a 0 = some (allS a (posOf l a)) := by
  have e : posOf l a = legsOf a l := by unfold posOf; rw [hk]; rfl
  obtain ⟨_, hp⟩ := okStock_srt hk
  unfold novationref10_All novationref10_All.b
  rw [rStock_eq N hl hN, hk, Option.bind_some, Bool.not_true, cond_false, eqB_f (by omega), cond_false, ltB_f (x := a) (by omega), cond_false, ltB_f (x := 24) (y := a) (by omega), cond_false, ltB_f (x := 0) (by omega), cond_false, ltB_f (x := 24) (by omega), cond_false, e]
  have := lrec l ((0 : Int), ((0 : Int), ((0 : Int), ()))) (fun n i s => novationref10_All.l5 N n l a 0 s i) (fun t s => some (s ++ allS a (legsOf a t))) (fun i (s : List (Ty.den tI3)) => s.length ≤ 2 * i) (fun n i s hi hI hr => ?_) (fun n s hI => ?_) l.length N 0 [] (by omega) (by omega) (by omega) (Nat.le_refl _)
  · exact this
  · unfold novationref10_All.l5 novationref10_All.l5b
    have hm : l.getD i ((0 : Int), ((0 : Int), ((0 : Int), ()))) ∈ l := by
      rw [List.getD_eq_getElem?_getD, List.getElem?_eq_getElem hi]; exact List.getElem_mem hi
    have hn := (negQ ⟨hq _ hm, (hp _ hm).2⟩).1
    unfold In64 qty at hn
    rw [ltB_t (by omega), cond_true, inb_t (by omega) (by omega), cond_true, cond_true, cond_true, Int.toNat_natCast, W_i64 (x := (i : Int) + 1) (by omega) (by omega), natCast_succ' i, W_i64 hn.1 hn.2, cond_eqB, legsOf_cons]
    dsimp only
    rw [cond_true, cond_true, small_t (by rw [List.length_cons, List.length_singleton]; omega), cond_true]
    by_cases h : (l.getD i ((0 : Int), ((0 : Int), ((0 : Int), ())))).1 = a
    · rw [if_pos h, if_pos h, allS_cons]
      refine (hr _ ?_).trans ?_
      · rw [List.length_append, List.length_cons, List.length_singleton]; omega
      · rw [List.append_assoc]; rfl
    · rw [if_neg h, if_neg h]
      exact hr s (by omega)
  · unfold novationref10_All.l5 novationref10_All.l5b
    rw [ltB_f (by omega), cond_false]
    show some s = some (s ++ [])
    rw [List.append_nil]
end VM
end

section
/- Plain laws: Wind. -/
set_option linter.unusedSimpArgs false
namespace VM
open Go VM.F
set_option linter.unusedVariables false

theorem With_eq' (N : Nat) (hN : 4000000 ≤ N) {b : Ty.den tBook} {s e : List (Ty.den tI3)} (w : BookWf b) (hr : okRows b.2.2.1 = true) (hs : okStock b.2.2.2.1 = true) (lr : b.2.2.1.length ≤ 90000) (ls : b.2.2.2.1.length ≤ 90000) (qs : Qty64 s) (lns : s.length ≤ 100000) (qe : Q128 e) (lne : e.length ≤ 100000) :
    novationref15_With N b s (e.map partB) = some (movedOf b s e) := by
  unfold novationref15_With movedOf
  rw [Shifted_eq N hN hs ls w.qs qs lns, Laid_eq N hN hr lr w.qr qe lne]
  unfold outB
  rw [Option.bind_some, Option.bind_some]
  cases coll Fq (fS b.2.2.2.1 s) stockG with
  | none => rfl
  | some s' =>
    cases coll In64 (fS b.2.2.1 e) rowsG with
    | none => rfl
    | some r' => rfl
theorem moved_congr {b : Ty.den tBook} {s e e' : List (Ty.den tI3)} (h : ∀ k n, sumAt k n e = sumAt k n e') : movedOf b s e = movedOf b s e' := by
  have : fS b.2.2.1 e = fS b.2.2.1 e' := by funext k n; unfold fS; rw [h]
  unfold movedOf; rw [this]

def payC (id x : Int) : List (Ty.den tI3) := [((5 : Int), (id, ((-x : Int), ()))), ((2 : Int), ((0 : Int), (x, ())))]
def oweC (id y : Int) : List (Ty.den tI3) := [((2 : Int), ((0 : Int), ((- -y : Int), ()))), ((5 : Int), (id, ((-y : Int), ())))]
def kOf (c : Ty.den tConfig) (b : Ty.den tBook) (a : Ty.den tI4) : Int := if a.2.2.1 = 2 then (chargeOf c b a.1).1 else 0
def mOf (b : Ty.den tBook) (a : Ty.den tI4) : Int := getOf b.2.2.1 5 a.1
def min0 (y : Int) : Int := if 0 < y then 0 else y
def windS (b : Ty.den tBook) (m : Int) : List (Ty.den tI4) → List (Ty.den tI3)
  | [] => []
  | a :: t => if a.2.1 = m then allS a.1 (posOf b.2.2.2.1 a.1) ++ windS b m t else windS b m t
def windE (c : Ty.den tConfig) (b : Ty.den tBook) (m : Int) : List (Ty.den tI4) → List (Ty.den tI3)
  | [] => []
  | a :: t => if a.2.1 = m then payC a.1 (kOf c b a + min0 (mOf b a)) ++ windE c b m t else windE c b m t
def windP (c : Ty.den tConfig) (b : Ty.den tBook) (m : Int) : List (Ty.den tI4) → List (Ty.den tI3)
  | [] => []
  | a :: t => if a.2.1 = m then ((if a.2.2.1 = 2 then payC a.1 (kOf c b a) else []) ++ (if mOf b a < 0 then oweC a.1 (mOf b a) else [])) ++ windP c b m t else windP c b m t
theorem windS_cons (b : Ty.den tBook) (m : Int) (a : Ty.den tI4) (t : List (Ty.den tI4)) : windS b m (a :: t) = if a.2.1 = m then allS a.1 (posOf b.2.2.2.1 a.1) ++ windS b m t else windS b m t := rfl
theorem windE_cons (c : Ty.den tConfig) (b : Ty.den tBook) (m : Int) (a : Ty.den tI4) (t : List (Ty.den tI4)) : windE c b m (a :: t) = if a.2.1 = m then payC a.1 (kOf c b a + min0 (mOf b a)) ++ windE c b m t else windE c b m t := rfl
theorem windP_cons (c : Ty.den tConfig) (b : Ty.den tBook) (m : Int) (a : Ty.den tI4) (t : List (Ty.den tI4)) : windP c b m (a :: t) = if a.2.1 = m then ((if a.2.2.1 = 2 then payC a.1 (kOf c b a) else []) ++ (if mOf b a < 0 then oweC a.1 (mOf b a) else [])) ++ windP c b m t else windP c b m t := rfl

theorem kOf_rng {c : Ty.den tConfig} {b : Ty.den tBook} (w : BookWf b) (a : Ty.den tI4) : (mOf b a ≤ 0 → kOf c b a = 0) ∧ (0 < mOf b a → 0 ≤ kOf c b a ∧ kOf c b a ≤ mOf b a) := by
  have hsl := slipOf_rng (c := c) (posOf_in w.qs a.1)
  unfold kOf mOf
  by_cases h : a.2.2.1 = 2
  · rw [if_pos h]
    unfold chargeOf
    generalize getOf b.2.2.1 5 a.1 = m at *
    generalize slipOf c (posOf b.2.2.2.1 a.1) = s at *
    have key : (m ≤ 0 → chargeV m s = 0) ∧ (0 < m → 0 ≤ chargeV m s ∧ chargeV m s ≤ m) := by
      unfold chargeV
      refine ⟨fun h => if_pos h, fun h => ?_⟩
      rw [if_neg (by omega)]
      split <;> omega
    split
    · split
      · exact key
      · exact ⟨fun _ => rfl, fun h => ⟨Int.le_refl _, by show (0 : Int) ≤ m; omega⟩⟩
    · exact ⟨fun _ => rfl, fun h => ⟨Int.le_refl _, by show (0 : Int) ≤ m; omega⟩⟩
  · rw [if_neg h]
    exact ⟨fun _ => rfl, fun h => ⟨Int.le_refl _, by omega⟩⟩
theorem mOf_in {b : Ty.den tBook} (w : BookWf b) (a : Ty.den tI4) : In64 (mOf b a) := getOf_in w.qr 5 a.1
theorem xOf_in {c : Ty.den tConfig} {b : Ty.den tBook} (w : BookWf b) (a : Ty.den tI4) : In64 (kOf c b a + min0 (mOf b a)) ∧ In64 (kOf c b a) := by
  have h := kOf_rng (c := c) w a
  have hm := mOf_in w a
  unfold min0 In64 at *
  by_cases h0 : 0 < mOf b a
  · rw [if_pos h0]; have := h.2 h0; omega
  · rw [if_neg h0]; have := h.1 (by omega); omega

theorem pay_sum (k n id x : Int) : sumAt k n (payC id x) = (if 5 = k ∧ id = n then -x else 0) + (if 2 = k ∧ 0 = n then x else 0) := by
  unfold payC
  rw [sumAt_cons, sumAt_cons, sumAt_nil]
  show (if 5 = k ∧ id = n then -x else 0) + ((if 2 = k ∧ 0 = n then x else 0) + 0) = _
  omega
theorem owe_sum (k n id y : Int) : sumAt k n (oweC id y) = (if 2 = k ∧ 0 = n then y else 0) + (if 5 = k ∧ id = n then -y else 0) := by
  unfold oweC
  rw [sumAt_cons, sumAt_cons, sumAt_nil]
  show (if 2 = k ∧ 0 = n then - -y else 0) + ((if 5 = k ∧ id = n then -y else 0) + 0) = _
  rw [Int.neg_neg]; omega
theorem wind_same {c : Ty.den tConfig} {b : Ty.den tBook} (w : BookWf b) (m k n : Int) : ∀ t : List (Ty.den tI4), sumAt k n (windE c b m t) = sumAt k n (windP c b m t)
  | [] => rfl
  | a :: t => by
    have ih := wind_same (c := c) w m k n t
    rw [windE_cons, windP_cons]
    by_cases h : a.2.1 = m
    · rw [if_pos h, if_pos h, sumAt_append, sumAt_append, sumAt_append, ih, pay_sum]
      congr 1
      have h1 : sumAt k n (if a.2.2.1 = 2 then payC a.1 (kOf c b a) else []) = (if 5 = k ∧ a.1 = n then -kOf c b a else 0) + (if 2 = k ∧ 0 = n then kOf c b a else 0) := by
        by_cases h2 : a.2.2.1 = 2
        · rw [if_pos h2, pay_sum]
        · have e : kOf c b a = 0 := by unfold kOf; exact if_neg h2
          rw [if_neg h2, sumAt_nil, e]; split <;> split <;> rfl
      have h2 : sumAt k n (if mOf b a < 0 then oweC a.1 (mOf b a) else []) = (if 5 = k ∧ a.1 = n then -min0 (mOf b a) else 0) + (if 2 = k ∧ 0 = n then min0 (mOf b a) else 0) := by
        unfold min0
        by_cases h3 : mOf b a < 0
        · rw [if_pos h3, owe_sum, if_neg (show ¬ 0 < mOf b a by omega), Int.add_comm]
        · rw [if_neg h3, sumAt_nil]
          have e : (if 0 < mOf b a then 0 else mOf b a) = 0 := by split <;> omega
          rw [e]; split <;> split <;> rfl
      rw [h1, h2]
      generalize kOf c b a = x
      generalize min0 (mOf b a) = y
      by_cases hP : 5 = k ∧ a.1 = n
      · rw [if_pos hP, if_pos hP, if_pos hP]
        by_cases hQ : 2 = k ∧ 0 = n
        · rw [if_pos hQ, if_pos hQ, if_pos hQ]; omega
        · rw [if_neg hQ, if_neg hQ, if_neg hQ]; omega
      · rw [if_neg hP, if_neg hP, if_neg hP]
        by_cases hQ : 2 = k ∧ 0 = n
        · rw [if_pos hQ, if_pos hQ, if_pos hQ]; omega
        · rw [if_neg hQ, if_neg hQ, if_neg hQ]; omega
    · rw [if_neg h, if_neg h]; exact ih

theorem accs_parts {a : List (Ty.den tI4)} (h : okAccs a = true) : a.length ≤ 24 ∧ ∀ x ∈ a, 1 ≤ x.1 ∧ x.1 ≤ 24 := by
  unfold okAccs at h
  rw [Bool.and_true] at h
  have h' := of_decide_eq_true h
  have rng : ∀ i, i < a.length → 1 ≤ (a.getD i ((0 : Int), ((0 : Int), ((0 : Int), ((0 : Int), ()))))).1 ∧ (a.getD i ((0 : Int), ((0 : Int), ((0 : Int), ((0 : Int), ()))))).1 ≤ 24 := fun i hi => (h' i hi).1.1
  have inc : ∀ i, i < a.length → (i : Int) + 1 ≤ (a.getD i ((0 : Int), ((0 : Int), ((0 : Int), ((0 : Int), ()))))).1 := by
    intro i
    induction i with
    | zero => intro hi; exact (rng 0 hi).1
    | succ i ih =>
      intro hi
      have p := ih (by omega)
      have q := (h' (i + 1) hi).2.1 (by omega)
      rw [Nat.add_sub_cancel] at q
      have g : ∀ x y : Int, (i : Int) + 1 ≤ x → x < y → ((i + 1 : Nat) : Int) + 1 ≤ y := fun x y _ _ => by omega
      exact g _ _ p q
  refine ⟨?_, fun x hx => ?_⟩
  · by_cases h0 : a.length = 0
    · omega
    · have p := inc (a.length - 1) (by omega)
      have q := (rng (a.length - 1) (by omega)).2
      have g : ∀ x : Int, ((a.length - 1 : Nat) : Int) + 1 ≤ x → x ≤ 24 → a.length ≤ 24 := fun x _ _ => by omega
      exact g _ p q
  · obtain ⟨i, hi, e⟩ := List.getElem_of_mem hx
    have := rng i hi
    rw [List.getD_eq_getElem?_getD, List.getElem?_eq_getElem hi] at this
    rw [← e]; exact this

theorem allS_mem {a : Int} {x : Ty.den tI3} : ∀ {t : List (Ty.den tI2)}, x ∈ allS a t → ∃ y ∈ t, x = (a, (y.1, ((0 - y.2.1 : Int), ()))) ∨ x = ((0 : Int), (y.1, (y.2.1, ())))
  | [], hx => nomatch hx
  | y :: t, hx => by
    rw [allS_cons] at hx
    rcases List.mem_cons.1 hx with e | hx
    · exact ⟨y, List.mem_cons_self .., Or.inl e⟩
    · rcases List.mem_cons.1 hx with e | hx
      · exact ⟨y, List.mem_cons_self .., Or.inr e⟩
      · obtain ⟨y', hy, e⟩ := allS_mem hx
        exact ⟨y', List.mem_cons_of_mem _ hy, e⟩
theorem allS_flat (a i : Int) : ∀ t : List (Ty.den tI2), (qtysIn i (allS a t)).sum = 0
  | [] => rfl
  | y :: t => by
    have ih := allS_flat a i t
    rw [allS_cons, qtysIn_cons, qtysIn_cons]
    dsimp only
    by_cases e : y.1 = i
    · rw [if_pos e, if_pos e, List.sum_cons, List.sum_cons, ih]
      have g : ∀ v : Int, 0 - v + (v + 0) = 0 := fun v => by omega
      exact g y.2.1
    · rw [if_neg e, if_neg e]; exact ih
theorem windS_len (b : Ty.den tBook) (hg : ∀ a, LegsGood (posOf b.2.2.2.1 a)) (m : Int) : ∀ t : List (Ty.den tI4), (windS b m t).length ≤ 12 * t.length
  | [] => Nat.le_refl _
  | a :: t => by
    have ih := windS_len b hg m t
    have := (hg a.1).len
    rw [windS_cons, List.length_cons]
    split
    · rw [List.length_append, allS_len]; omega
    · omega
theorem windS_mem {b : Ty.den tBook} {m : Int} {x : Ty.den tI3} : ∀ {t : List (Ty.den tI4)}, x ∈ windS b m t → ∃ a ∈ t, x ∈ allS a.1 (posOf b.2.2.2.1 a.1)
  | [], h => nomatch h
  | a :: t, h => by
    rw [windS_cons] at h
    by_cases e : a.2.1 = m
    · rw [if_pos e] at h
      rcases List.mem_append.1 h with h | h
      · exact ⟨a, List.mem_cons_self .., h⟩
      · obtain ⟨a', ha, h'⟩ := windS_mem h
        exact ⟨a', List.mem_cons_of_mem _ ha, h'⟩
    · rw [if_neg e] at h
      obtain ⟨a', ha, h'⟩ := windS_mem h
      exact ⟨a', List.mem_cons_of_mem _ ha, h'⟩
theorem windS_flat (b : Ty.den tBook) (m i : Int) : ∀ t : List (Ty.den tI4), (qtysIn i (windS b m t)).sum = 0
  | [] => rfl
  | a :: t => by
    have ih := windS_flat b m i t
    rw [windS_cons]
    split
    · rw [qtysIn_append, List.sum_append, allS_flat, ih]; rfl
    · exact ih
theorem windS_good {b : Ty.den tBook} (m : Int) (hk : okStock b.2.2.2.1 = true) (hq : Qty64 b.2.2.2.1) (ha : okAccs b.2.1 = true) : GoodS (windS b m b.2.1) := by
  have hg := fun a => pos_good hk hq a
  obtain ⟨h24, hid⟩ := accs_parts ha
  have hin : ∀ p q : Int, 1 ≤ p → p ≤ 24 → legIn q → okPlace p q ∧ okPlace 0 q := fun p q h1 h2 h3 => by unfold legIn at h3; unfold okPlace; omega
  have key : ∀ x ∈ windS b m b.2.1, okPlace x.1 x.2.1 ∧ In64 (qty x) ∧ okQ (qty x) := fun x hx => by
    obtain ⟨a, ha, hx⟩ := windS_mem hx
    obtain ⟨y, hy, e | e⟩ := allS_mem hx
    · rw [e]; exact ⟨(hin _ _ (hid a ha).1 (hid a ha).2 ((hg a.1).inst y hy)).1, negQ ((hg a.1).q y hy)⟩
    · rw [e]; exact ⟨(hin _ _ (hid a ha).1 (hid a ha).2 ((hg a.1).inst y hy)).2, (hg a.1).q y hy⟩
  exact ⟨fun x hx => (key x hx).1, fun x hx => (key x hx).2, by have := windS_len b hg m b.2.1; omega, fun i => windS_flat b m i b.2.1⟩
theorem windE_mem {c : Ty.den tConfig} {b : Ty.den tBook} {m : Int} {x : Ty.den tI3} : ∀ {t : List (Ty.den tI4)}, x ∈ windE c b m t → ∃ a ∈ t, x ∈ payC a.1 (kOf c b a + min0 (mOf b a))
  | [], h => nomatch h
  | a :: t, h => by
    rw [windE_cons] at h
    by_cases e : a.2.1 = m
    · rw [if_pos e] at h
      rcases List.mem_append.1 h with h | h
      · exact ⟨a, List.mem_cons_self .., h⟩
      · obtain ⟨a', ha, h'⟩ := windE_mem h
        exact ⟨a', List.mem_cons_of_mem _ ha, h'⟩
    · rw [if_neg e] at h
      obtain ⟨a', ha, h'⟩ := windE_mem h
      exact ⟨a', List.mem_cons_of_mem _ ha, h'⟩
theorem windE_len (c : Ty.den tConfig) (b : Ty.den tBook) (m : Int) : ∀ t : List (Ty.den tI4), (windE c b m t).length ≤ 2 * t.length ∧ ((windE c b m t).map qty).sum = 0
  | [] => ⟨Nat.le_refl _, rfl⟩
  | a :: t => by
    have ih := windE_len c b m t
    rw [windE_cons, List.length_cons]
    split
    · refine ⟨?_, ?_⟩
      · rw [List.length_append, show (payC a.1 (kOf c b a + min0 (mOf b a))).length = 2 from rfl]; omega
      · rw [List.map_append, List.sum_append, ih.2]
        show -(kOf c b a + min0 (mOf b a)) + ((kOf c b a + min0 (mOf b a)) + 0) + 0 = 0
        omega
    · exact ⟨by omega, ih.2⟩
theorem neg128 {x : Int} (h : In64 x) : In128 (-x) := by unfold In64 at h; unfold In128; omega
theorem windE_good {c : Ty.den tConfig} {b : Ty.den tBook} (w : BookWf b) (m : Int) (ha : okAccs b.2.1 = true) : GoodE (windE c b m b.2.1) := by
  obtain ⟨h24, hid⟩ := accs_parts ha
  have hl := windE_len c b m b.2.1
  have hkey : ∀ p : Int, 1 ≤ p → p ≤ 24 → okKey 5 p := fun p h1 h2 => by unfold okKey; omega
  refine ⟨fun x hx => ?_, fun x hx => ?_, by omega, hl.2⟩
  · obtain ⟨a, ha, hx⟩ := windE_mem hx
    rcases List.mem_cons.1 hx with e | hx
    · rw [e]; exact hkey _ (hid a ha).1 (hid a ha).2
    · rw [List.mem_singleton.1 hx]; show okKey 2 0; decide
  · obtain ⟨a, ha, hx⟩ := windE_mem hx
    rcases List.mem_cons.1 hx with e | hx
    · rw [e]; exact neg128 (xOf_in w a).1
    · rw [List.mem_singleton.1 hx]; exact in128_of64 (xOf_in w a).1
theorem windP_fit {c : Ty.den tConfig} {b : Ty.den tBook} (w : BookWf b) (m : Int) : ∀ t : List (Ty.den tI4), (windP c b m t).length ≤ 4 * t.length ∧ Q128 (windP c b m t)
  | [] => ⟨Nat.le_refl _, fun x hx => nomatch hx⟩
  | a :: t => by
    have ih := windP_fit (c := c) w m t
    rw [windP_cons, List.length_cons]
    by_cases h : a.2.1 = m
    · rw [if_pos h]
      have l1 : (if a.2.2.1 = 2 then payC a.1 (kOf c b a) else []).length ≤ 2 := by
        split
        · exact Nat.le_refl 2
        · exact Nat.zero_le _
      have l2 : (if mOf b a < 0 then oweC a.1 (mOf b a) else []).length ≤ 2 := by
        split
        · exact Nat.le_refl 2
        · exact Nat.zero_le _
      refine ⟨by rw [List.length_append, List.length_append]; omega, fun x hx => ?_⟩
      rcases List.mem_append.1 hx with hx | hx
      · rcases List.mem_append.1 hx with hx | hx
        · split at hx
          · rcases List.mem_cons.1 hx with e | hx
            · rw [e]; exact neg128 (xOf_in w a).2
            · rw [List.mem_singleton.1 hx]; exact in128_of64 (xOf_in (c := c) w a).2
          · nomatch hx
        · split at hx
          · rcases List.mem_cons.1 hx with e | hx
            · rw [e]; show In128 (- -mOf b a); rw [Int.neg_neg]; exact in128_of64 (mOf_in w a)
            · rw [List.mem_singleton.1 hx]; exact neg128 (mOf_in w a)
          · nomatch hx
      · exact ih.2 x hx
    · rw [if_neg h]; exact ⟨by omega, ih.2⟩
end VM
end

section
/- Plain laws: Wind, of the program and of the reference. -/
set_option linter.unusedSimpArgs false
namespace VM
open Go VM.F
set_option linter.unusedVariables false

theorem okBook_accs {c : Ty.den tConfig} {b : Ty.den tBook} (h : okBook c b = true) : okAccs b.2.1 = true := by
  unfold okBook at h
  have h1 := (Bool.and_eq_true_iff.1 (Bool.and_eq_true_iff.1 h).2).1
  unfold okRoll at h1
  exact (Bool.and_eq_true_iff.1 (Bool.and_eq_true_iff.1 h1).2).1
def windOf (c : Ty.den tConfig) (b : Ty.den tBook) (m : Int) : Ty.den tBook × Int :=
  if okBook c b then (if statusOf b.1 m = 0 then ((([] : List ((Int) × ((Int) × (Unit)))), (([] : List ((Int) × ((Int) × ((Int) × ((Int) × (Unit)))))), (([] : List ((Int) × ((Int) × ((Int) × (Unit))))), (([] : List ((Int) × ((Int) × ((Int) × (Unit))))), (([] : List (Int)), (([] : List ((Int) × ((Int) × ((Int) × ((Int) × ((Int) × ((Int) × (Unit)))))))), ())))))), 3) else movedOf b (windS b m b.2.1) (windE c b m b.2.1)) else ((([] : List ((Int) × ((Int) × (Unit)))), (([] : List ((Int) × ((Int) × ((Int) × ((Int) × (Unit)))))), (([] : List ((Int) × ((Int) × ((Int) × (Unit))))), (([] : List ((Int) × ((Int) × ((Int) × (Unit))))), (([] : List (Int)), (([] : List ((Int) × ((Int) × ((Int) × ((Int) × ((Int) × ((Int) × (Unit)))))))), ())))))), 1)

theorem Wind_eq (N : Nat) (hN : 4000000 ≤ N) (c : Ty.den tConfig) {b : Ty.den tBook} (w : BookWf2 b) (m : Int) : wind_Wind N c b m = some (windOf c b m) := by
  unfold wind_Wind wind_Wind.b windOf
  rw [Book_eq N hN w.w, Option.bind_some, Status_eq N w.w.m (by omega), Option.bind_some, cond_not, cond_eqB]
  by_cases hB : okBook c b = false
  · rw [hB]; rfl
  rw [Bool.not_eq_false] at hB
  rw [hB, cond_true, if_pos rfl]
  by_cases hS : statusOf b.1 m = 0
  · rw [if_pos hS, if_pos hS]
  rw [if_neg hS, if_neg hS]
  obtain ⟨hr, hs⟩ := okBook_parts hB
  have ha := okBook_accs hB
  obtain ⟨h24, hid⟩ := accs_parts ha
  have gs := windS_good m hs w.w.qs ha
  have ge := windE_good (c := c) w.w m ha
  have hls := gs.len
  have hle := ge.len
  have := lrec b.2.1 ((0 : Int), ((0 : Int), ((0 : Int), ((0 : Int), ())))) (fun n i (z : List (Ty.den tI3) × List (Ty.den tI3)) => wind_Wind.l8 N n m c b (([] : List ((Int) × ((Int) × (Unit)))), (([] : List ((Int) × ((Int) × ((Int) × ((Int) × (Unit)))))), (([] : List ((Int) × ((Int) × ((Int) × (Unit))))), (([] : List ((Int) × ((Int) × ((Int) × (Unit))))), (([] : List (Int)), (([] : List ((Int) × ((Int) × ((Int) × ((Int) × ((Int) × ((Int) × (Unit)))))))), ())))))) z.1 (z.2.map entW) b.2.1 (b.2.1.length : Int) i) (fun t z => some (movedOf b (windS b m b.2.1) (windE c b m b.2.1)))
    (fun i z => z.1 ++ windS b m (b.2.1.drop i) = windS b m b.2.1 ∧ z.2 ++ windE c b m (b.2.1.drop i) = windE c b m b.2.1)
    (fun n i z hi hI hrec => ?_) (fun n z hI => ?_) b.2.1.length N 0 ([], []) (by omega) (by omega) (by omega) ⟨rfl, rfl⟩
  · exact this
  · unfold wind_Wind.l8 wind_Wind.l8b wind_Wind.j14 wind_Wind.j14b
    obtain ⟨i1, i2⟩ := hI
    have z1 : z.1.length ≤ 400 := by rw [← i1, List.length_append] at hls; omega
    have z2 : z.2.length ≤ 400 := by rw [← i2, List.length_append] at hle; omega
    have hm : b.2.1.getD i ((0 : Int), ((0 : Int), ((0 : Int), ((0 : Int), ())))) ∈ b.2.1 := by
      rw [List.getD_eq_getElem?_getD, List.getElem?_eq_getElem hi]; exact List.getElem_mem hi
    rw [drop_cons hi ((0 : Int), ((0 : Int), ((0 : Int), ((0 : Int), ())))), windS_cons] at i1
    rw [drop_cons hi ((0 : Int), ((0 : Int), ((0 : Int), ((0 : Int), ())))), windE_cons] at i2
    have hai := hid _ hm
    rw [Int.toNat_natCast]
    generalize b.2.1.getD i ((0 : Int), ((0 : Int), ((0 : Int), ((0 : Int), ())))) = a at *
    have hx := (xOf_in (c := c) w.w a).1
    have hx' := hx
    unfold In64 at hx'
    have hpos := (pos_good hs w.w.qs a.1).len
    rw [ltB_t (by omega), cond_true, inb_t (by omega) (by omega), cond_true, W_i64 (x := (i : Int) + 1) (by omega) (by omega), natCast_succ' i, cond_not, cond_eqB]
    by_cases h1 : a.2.1 = m
    · rw [if_pos h1] at i1 i2
      have fin : ∀ k : Int, k = kOf c b a → ((ledger_Get N b.2.2.1 5 a.1).bind fun r7 => (wide_Of N (W .i64 (k + (mn r7 0)))).bind fun r10 => (wide_Neg N r10).bind fun r11 => (stock_All N b.2.2.2.1 a.1 (0 : Int)).bind fun r12 => cond (small (List.length z.1 + List.length r12)) (cond (small (List.length (z.2.map entW) + List.length ([((5 : Int), (a.1, (r11.1, ()))), ((2 : Int), ((0 : Int), (r10, ())))]))) (wind_Wind.l8 N n m c b (([] : List ((Int) × ((Int) × (Unit)))), (([] : List ((Int) × ((Int) × ((Int) × ((Int) × (Unit)))))), (([] : List ((Int) × ((Int) × ((Int) × (Unit))))), (([] : List ((Int) × ((Int) × ((Int) × (Unit))))), (([] : List (Int)), (([] : List ((Int) × ((Int) × ((Int) × ((Int) × ((Int) × ((Int) × (Unit)))))))), ())))))) (z.1 ++ r12) (z.2.map entW ++ ([((5 : Int), (a.1, (r11.1, ()))), ((2 : Int), ((0 : Int), (r10, ())))])) b.2.1 (b.2.1.length : Int) ((i + 1 : Nat) : Int)) (none)) (none)) = some (movedOf b (windS b m b.2.1) (windE c b m b.2.1)) := fun k hk => by
        subst hk
        have e : W .i64 (kOf c b a + mn (getOf b.2.2.1 5 a.1) 0) = kOf c b a + min0 (mOf b a) := by
          have : mn (getOf b.2.2.1 5 a.1) 0 = min0 (mOf b a) := by rw [mn_eq]; rfl
          rw [this, W_i64 hx'.1 hx'.2]
        rw [GetP_eq N w.w.r (by omega), Option.bind_some, e, wOf_eq N hx'.1 hx'.2, Option.bind_some, wNeg_eq N hx, Option.bind_some, All_eq N (by omega) w.w.s hs w.w.qs hai.1 hai.2, Option.bind_some, small_t (by rw [allS_len]; omega), cond_true, small_t (by rw [List.length_map, List.length_cons, List.length_singleton]; omega), cond_true]
        have := hrec (z.1 ++ allS a.1 (posOf b.2.2.2.1 a.1), z.2 ++ payC a.1 (kOf c b a + min0 (mOf b a))) ⟨by rw [← i1, List.append_assoc], by rw [← i2, List.append_assoc]⟩
        rw [List.map_append] at this
        exact this
      rw [if_pos h1, cond_eqB]
      by_cases h2 : a.2.2.1 = 2
      · rw [if_pos h2, Charge_eq N hN c w.w, Option.bind_some]
        exact fin _ (by unfold kOf; rw [if_pos h2])
      · rw [if_neg h2]
        exact fin 0 (by unfold kOf; rw [if_neg h2])
    · rw [if_neg h1] at i1 i2
      rw [if_neg h1]
      exact hrec z ⟨i1, i2⟩
  · unfold wind_Wind.l8 wind_Wind.l8b
    obtain ⟨i1, i2⟩ := hI
    rw [List.drop_length] at i1 i2
    have e1 : z.1 = windS b m b.2.1 := by rw [← i1]; exact (List.append_nil _).symm
    have e2 : z.2 = windE c b m b.2.1 := by rw [← i2]; exact (List.append_nil _).symm
    rw [ltB_f (by omega), cond_false, e1, e2, Moved_eq N (by omega) w.w hr hs w.r w.s gs ge, Option.bind_some]

theorem rWind_eq (N : Nat) (hN : 5000000 ≤ N) (c : Ty.den tConfig) {b : Ty.den tBook} (w : BookWf2 b) (m : Int) : novationref20_Wind N c b m = some (windOf c b m) := by
  unfold novationref20_Wind novationref20_Wind.b windOf novationref20_member
  rw [rBook_eq N hN w.w, Option.bind_some, rStatus_eq N w.w.m (by omega), Option.bind_some, Option.bind_some, cond_not, cond_eqB]
  by_cases hB : okBook c b = false
  · rw [hB]; rfl
  rw [Bool.not_eq_false] at hB
  rw [hB, cond_true, if_pos rfl]
  by_cases hS : statusOf b.1 m = 0
  · rw [if_pos hS, if_pos hS]
  rw [if_neg hS, if_neg hS]
  obtain ⟨hr, hs⟩ := okBook_parts hB
  have ha := okBook_accs hB
  obtain ⟨h24, hid⟩ := accs_parts ha
  have gs := windS_good m hs w.w.qs ha
  have gp := windP_fit (c := c) w.w m b.2.1
  have hls := gs.len
  have hlp : (windP c b m b.2.1).length ≤ 400 := by omega
  rw [moved_congr (wind_same w.w m · · b.2.1)]
  have := lrec b.2.1 ((0 : Int), ((0 : Int), ((0 : Int), ((0 : Int), ())))) (fun n i (z : List (Ty.den tI3) × List (Ty.den tI3)) => novationref20_Wind.l8 N n m c b (([] : List ((Int) × ((Int) × (Unit)))), (([] : List ((Int) × ((Int) × ((Int) × ((Int) × (Unit)))))), (([] : List ((Int) × ((Int) × ((Int) × (Unit))))), (([] : List ((Int) × ((Int) × ((Int) × (Unit))))), (([] : List (Int)), (([] : List ((Int) × ((Int) × ((Int) × ((Int) × ((Int) × ((Int) × (Unit)))))))), ())))))) z.1 (z.2.map partB) i) (fun t z => some (movedOf b (windS b m b.2.1) (windP c b m b.2.1)))
    (fun i z => z.1 ++ windS b m (b.2.1.drop i) = windS b m b.2.1 ∧ z.2 ++ windP c b m (b.2.1.drop i) = windP c b m b.2.1)
    (fun n i z hi hI hrec => ?_) (fun n z hI => ?_) b.2.1.length N 0 ([], []) (by omega) (by omega) (by omega) ⟨rfl, rfl⟩
  · exact this
  · unfold novationref20_Wind.l8 novationref20_Wind.l8b novationref20_Wind.j15 novationref20_Wind.j15b
    obtain ⟨i1, i2⟩ := hI
    have z1 : z.1.length ≤ 400 := by rw [← i1, List.length_append] at hls; omega
    have z2 : z.2.length ≤ 400 := by rw [← i2, List.length_append] at hlp; omega
    have hm : b.2.1.getD i ((0 : Int), ((0 : Int), ((0 : Int), ((0 : Int), ())))) ∈ b.2.1 := by
      rw [List.getD_eq_getElem?_getD, List.getElem?_eq_getElem hi]; exact List.getElem_mem hi
    rw [drop_cons hi ((0 : Int), ((0 : Int), ((0 : Int), ((0 : Int), ())))), windS_cons] at i1
    rw [drop_cons hi ((0 : Int), ((0 : Int), ((0 : Int), ((0 : Int), ())))), windP_cons] at i2
    have hai := hid _ hm
    rw [Int.toNat_natCast]
    generalize b.2.1.getD i ((0 : Int), ((0 : Int), ((0 : Int), ((0 : Int), ())))) = a at *
    have hx := (xOf_in (c := c) w.w a).2
    have hx' := hx
    unfold In64 at hx'
    have hmi := mOf_in w.w a
    have hmi' := hmi
    unfold In64 at hmi'
    have hpos := (pos_good hs w.w.qs a.1).len
    rw [ltB_t (by omega), cond_true, inb_t (by omega) (by omega), cond_true, W_i64 (x := (i : Int) + 1) (by omega) (by omega), natCast_succ' i, cond_not, cond_eqB]
    by_cases h1 : a.2.1 = m
    · rw [if_pos h1] at i1 i2
      have fin : ∀ q : List (Ty.den tI3), q.length ≤ 1000 → q ++ ((if mOf b a < 0 then oweC a.1 (mOf b a) else []) ++ windP c b m (b.2.1.drop (i + 1))) = windP c b m b.2.1 → ((novationref20_margin N b a.1).bind fun r10 => cond (ltB r10 0) ((novationref1_Whole N r10).bind fun r11 => (novationref1_Turned N r11).bind fun r12 => (novationref10_Both N (2 : Int) (0 : Int) (5 : Int) a.1 r12).bind fun r13 => cond (small (List.length (q.map partB) + List.length r13)) ((novationref10_All N b.2.2.2.1 a.1 (0 : Int)).bind fun r15 => cond (small (List.length z.1 + List.length r15)) (novationref20_Wind.l8 N n m c b (([] : List ((Int) × ((Int) × (Unit)))), (([] : List ((Int) × ((Int) × ((Int) × ((Int) × (Unit)))))), (([] : List ((Int) × ((Int) × ((Int) × (Unit))))), (([] : List ((Int) × ((Int) × ((Int) × (Unit))))), (([] : List (Int)), (([] : List ((Int) × ((Int) × ((Int) × ((Int) × ((Int) × ((Int) × (Unit)))))))), ())))))) (z.1 ++ r15) (q.map partB ++ r13) ((i + 1 : Nat) : Int)) (none)) (none)) ((novationref10_All N b.2.2.2.1 a.1 (0 : Int)).bind fun r18 => cond (small (List.length z.1 + List.length r18)) (novationref20_Wind.l8 N n m c b (([] : List ((Int) × ((Int) × (Unit)))), (([] : List ((Int) × ((Int) × ((Int) × ((Int) × (Unit)))))), (([] : List ((Int) × ((Int) × ((Int) × (Unit))))), (([] : List ((Int) × ((Int) × ((Int) × (Unit))))), (([] : List (Int)), (([] : List ((Int) × ((Int) × ((Int) × ((Int) × ((Int) × ((Int) × (Unit)))))))), ())))))) (z.1 ++ r18) (q.map partB) ((i + 1 : Nat) : Int)) (none))) = some (movedOf b (windS b m b.2.1) (windP c b m b.2.1)) := fun q hq hqe => by
        have fq := Fit.i64 hmi'.1 hmi'.2
        rw [margin_eq N w.w (by omega), Option.bind_some, show getOf b.2.2.1 5 a.1 = mOf b a from rfl, Whole_eq N (by omega) hmi'.1 hmi'.2, Option.bind_some, Turned_eq N (by omega) (fq.mono (by omega)), Option.bind_some, rAll_eq N (by omega) w.w.s hs w.w.qs hai.1 hai.2, Option.bind_some, cond_ltB]
        unfold novationref10_Both
        rw [Turned_eq N (by omega) ((Fit.neg fq).mono (by omega)), Option.bind_some, Option.bind_some, small_t (n := z.1.length + _) (by rw [allS_len]; omega), cond_true, small_t (by rw [List.length_map, List.length_cons, List.length_singleton]; omega), cond_true, Option.bind_some, small_t (n := z.1.length + _) (by rw [allS_len]; omega), cond_true]
        by_cases h3 : mOf b a < 0
        · rw [if_pos h3] at hqe ⊢
          have := hrec (z.1 ++ allS a.1 (posOf b.2.2.2.1 a.1), q ++ oweC a.1 (mOf b a)) ⟨by rw [← i1, List.append_assoc], by rw [← hqe, List.append_assoc]⟩
          rw [List.map_append] at this
          exact this
        · rw [if_neg h3] at hqe ⊢
          exact hrec (z.1 ++ allS a.1 (posOf b.2.2.2.1 a.1), q) ⟨by rw [← i1, List.append_assoc], hqe⟩
      rw [if_pos h1, cond_eqB]
      by_cases h2 : a.2.2.1 = 2
      · rw [if_pos h2] at i2
        have fk := Fit.i64 hx'.1 hx'.2
        have ek : (chargeOf c b a.1).1 = kOf c b a := by unfold kOf; rw [if_pos h2]
        rw [if_pos h2, rCharge_eq N hN c w.w, Option.bind_some, ek, Whole_eq N (by omega) hx'.1 hx'.2, Option.bind_some]
        unfold novationref10_Both at *
        rw [Turned_eq N (by omega) (fk.mono (by omega)), Option.bind_some, Option.bind_some, small_t (by rw [List.length_map, List.length_cons, List.length_singleton]; omega), cond_true]
        have := fin (z.2 ++ payC a.1 (kOf c b a)) (by rw [List.length_append, show (payC a.1 (kOf c b a)).length = 2 from rfl]; omega) (by rw [← i2]; simp only [List.append_assoc])
        rw [List.map_append] at this
        exact this
      · rw [if_neg h2] at i2
        rw [if_neg h2]
        exact fin z.2 (by omega) (by rw [← i2]; simp only [List.append_assoc, List.nil_append])
    · rw [if_neg h1] at i1 i2
      rw [if_neg h1]
      exact hrec z ⟨i1, i2⟩
  · unfold novationref20_Wind.l8 novationref20_Wind.l8b
    obtain ⟨i1, i2⟩ := hI
    rw [List.drop_length] at i1 i2
    have e1 : z.1 = windS b m b.2.1 := by rw [← i1]; exact (List.append_nil _).symm
    have e2 : z.2 = windP c b m b.2.1 := by rw [← i2]; exact (List.append_nil _).symm
    rw [ltB_f (by omega), cond_false, e1, e2, With_eq' N (by omega) w.w hr hs w.r w.s (fun x hx => (gs.q x hx).1) (by omega) gp.2 (by omega), Option.bind_some]
end VM
end

section
/- Plain laws: WindAll, whole. -/
set_option linter.unusedSimpArgs false
namespace VM
open Go VM.F Go.RowKit
set_option linter.unusedVariables false

theorem wind_short {c : Ty.den tConfig} {b : Ty.den tBook} (w : BookWf b) (m : Int) : Short (windOf c b m).1 := by
  unfold windOf
  split
  · split
    · exact short_nil
    · exact moved_short w _ _
  · exact short_nil
theorem WTold_eq (N : Nat) (hN : 5000000 ≤ N) (c : Ty.den tConfig) {b : Ty.den tBook} (w : BookWf2 b) (acc m : Int) : novationlaw21_told N c b acc m = some true := by
  unfold novationlaw21_told
  have sh := wind_short (c := c) w.w m
  rw [Charge_eq N (by omega) c w.w, Option.bind_some, rCharge_eq N hN c w.w, Option.bind_some, Wind_eq N (by omega) c w, Option.bind_some, rWind_eq N hN c w, Option.bind_some, eqB_self, cond_true, eqB_self, cond_true, eqB_self, cond_true, hBook_eq N (by omega) sh.m sh.a sh.r sh.s sh.p sh.o, Option.bind_some]

def wC : Ty.den tConfig := ([((0 : Int), ((100 : Int), ((2 : Int), ((3 : Int), ()))))], ((0 : Int), ((0 : Int), ((0 : Int), ((0 : Int), ((1 : Int), ((0 : Int), ())))))))
def wR : List (Ty.den tI3) := [((1 : Int), ((0 : Int), ((-10 : Int), ()))), ((5 : Int), ((1 : Int), ((-10 : Int), ()))), ((5 : Int), ((2 : Int), ((20 : Int), ())))]
def wS : List (Ty.den tI3) := [((1 : Int), ((0 : Int), ((1 : Int), ()))), ((2 : Int), ((0 : Int), ((5 : Int), ()))), ((3 : Int), ((0 : Int), ((-6 : Int), ())))]
def wB : Ty.den tBook := ([((1 : Int), ((3 : Int), ())), ((2 : Int), ((1 : Int), ()))], ([((1 : Int), ((1 : Int), ((1 : Int), ((0 : Int), ())))), ((2 : Int), ((1 : Int), ((2 : Int), ((0 : Int), ())))), ((3 : Int), ((2 : Int), ((1 : Int), ((0 : Int), ()))))], (wR, (wS, ([(100 : Int)], (([] : List ((Int) × ((Int) × ((Int) × ((Int) × ((Int) × ((Int) × (Unit)))))))), ()))))))
theorem wW : BookWf2 wB := ⟨⟨by decide, by decide, by decide, by decide, by decide, by decide, mem_q64 (l := wR) (by decide), mem_q64 (l := wS) (by decide)⟩, by decide, by decide⟩
theorem wCh : chargeOf wC wB 2 = (15, 0) := by kernel_rfl
theorem wW1 : (windOf wC wB 1).2 = 0 := by kernel_rfl
theorem wW9 : (windOf wC wB 9).2 = 3 := by kernel_rfl
theorem wH0 : heldOf (windOf wC wB 1).1.2.2.2.1 0 0 = 6 := by kernel_rfl
theorem wG1 : getOf (windOf wC wB 1).1.2.2.1 5 1 = 0 := by kernel_rfl
theorem wG2 : getOf (windOf wC wB 1).1.2.2.1 5 2 = 5 := by kernel_rfl
theorem wG0 : getOf (windOf wC wB 1).1.2.2.1 2 0 = 5 := by kernel_rfl
theorem wknown_eq (N : Nat) (hN : 5000000 ≤ N) : novationlaw21_known N = some true := by
  unfold novationlaw21_known novationlaw21_small
  rw [Option.bind_some]
  show (wind_Charge N wC wB 2).bind _ = _
  rw [Charge_eq N (by omega) wC wW.w, Option.bind_some, wCh]
  show (wind_Wind N wC wB 1).bind _ = _
  rw [Wind_eq N (by omega) wC wW, Option.bind_some]
  show (wind_Wind N wC wB 9).bind _ = _
  rw [Wind_eq N (by omega) wC wW, Option.bind_some]
  have sh := wind_short (c := wC) wW.w 1
  rw [Held_eq N sh.s (by omega), Option.bind_some, Get_eq N sh.r (by omega), Option.bind_some, Get_eq N sh.r (by omega), Option.bind_some, Get_eq N sh.r (by omega), Option.bind_some, wW1, wW9, wH0, wG1, wG2, wG0]
  simp only [eqB_self, cond_true]

namespace Pure
theorem WindAll (c : Ty.den tConfig) (b : Ty.den tBook) (acc m : Int) (h : WFs [tConfig, tBook, .int .i64, .int .i64] (c, b, acc, m)) : ∃ N, novationlaw21_WindAll N c b acc m = some true := by
  refine ⟨6000000, ?_⟩
  obtain ⟨_, h2, _⟩ := h
  have h2 : WF tBook b := h2
  have hr : Qty64 b.2.2.1 := qty_wf h2.2.2.1
  have hs : Qty64 b.2.2.2.1 := qty_wf h2.2.2.2.1
  unfold novationlaw21_WindAll
  rw [wknown_eq 6000000 (by omega), Option.bind_some, Bool.not_true, cond_false]
  simp only [cond_ltB]
  repeat' (split; rfl)
  rw [WTold_eq 6000000 (by omega) c ⟨⟨by omega, by omega, by omega, by omega, by omega, by omega, hr, hs⟩, by omega, by omega⟩ acc m]
  rfl
end Pure
end VM
end

