/- A part of the proof of AwardAll, of layer 25: what the functions compute, in plain words. -/
import Derived.Test.YtnkhdmeoclffaaaGreatPlain2
import Derived.Test.YtnkhdmeoclffaaaGreatVm6
set_option linter.all false
section
/- Plain laws: books moved; bids right for the reference; the best bid. -/
set_option linter.unusedSimpArgs false
namespace VM
open Go VM.F
set_option linter.unusedVariables false

theorem Moved_eq (N : Nat) (hN : 2000000 ≤ N) {b : Ty.den tBook} {s e : List (Ty.den tI3)} (w : BookWf b) (hr : okRows b.2.2.1 = true) (hs : okStock b.2.2.2.1 = true) (lr : b.2.2.1.length ≤ 90000) (ls : b.2.2.2.1.length ≤ 90000) (gs : GoodS s) (ge : GoodE e) :
    book_Moved N b s (e.map entW) = some (movedOf b s e) := by
  unfold book_Moved movedOf
  rw [BCopy_eq N w, Option.bind_some, Post_eq N hN hs ls w.qs gs, PostR_eq N hN hr lr w.qr ge, stock_one hs gs.place, rows_one hr ge.key]
  unfold outS
  rw [Option.bind_some, Option.bind_some]
  have e1 : eqB 2 0 = false := eqB_f (by omega)
  have e2 : eqB 0 0 = true := eqB_t rfl
  cases coll Fq (fS b.2.2.2.1 s) stockG with
  | none => dsimp only; rw [e1]; rfl
  | some s' =>
    cases coll In64 (fS b.2.2.1 e) rowsG with
    | none => dsimp only; rw [e1, e2]; rfl
    | some r' => dsimp only; rw [e2]; rfl
theorem With_eq (N : Nat) (hN : 4000000 ≤ N) {b : Ty.den tBook} {s e : List (Ty.den tI3)} (w : BookWf b) (hr : okRows b.2.2.1 = true) (hs : okStock b.2.2.2.1 = true) (lr : b.2.2.1.length ≤ 90000) (ls : b.2.2.2.1.length ≤ 90000) (gs : GoodS s) (ge : GoodE e) :
    novationref15_With N b s (e.map partB) = some (movedOf b s e) := by
  have h1 := gs.len
  have h2 := ge.len
  unfold novationref15_With movedOf
  rw [Shifted_eq N hN hs ls w.qs (fun x hx => (gs.q x hx).1) (by omega), Laid_eq N hN hr lr w.qr ge.q (by omega)]
  unfold outB
  rw [Option.bind_some, Option.bind_some]
  cases coll Fq (fS b.2.2.2.1 s) stockG with
  | none => rfl
  | some s' =>
    cases coll In64 (fS b.2.2.1 e) rowsG with
    | none => rfl
    | some r' => rfl

theorem rbid_in (N : Nat) (C : novationref20_RightBids.t_l4) {l : List (Ty.den tI4)} (hl : l.length ≤ 100000) (i : Nat) (hi : i < l.length) : ∀ (m n k : Nat), i - k ≤ m → m < n → k ≤ i → (l.take k).any (bidOf (l.getD i ((0 : Int), ((0 : Int), ((0 : Int), ((0 : Int), ()))))).2.2.1 (l.getD i ((0 : Int), ((0 : Int), ((0 : Int), ((0 : Int), ()))))).2.1) = false →
    novationref20_RightBids.l9 N C n l (i : Int) (k : Int) = cond ((l.take i).any (bidOf (l.getD i ((0 : Int), ((0 : Int), ((0 : Int), ((0 : Int), ()))))).2.2.1 (l.getD i ((0 : Int), ((0 : Int), ((0 : Int), ((0 : Int), ()))))).2.1)) (some false) (C l ((i + 1 : Nat) : Int))
  | m, 0, k, _, hn, _, _ => by omega
  | m, n + 1, k, hm, hn, hk, hb => by
    unfold novationref20_RightBids.l9 novationref20_RightBids.l9b
    by_cases h : k < i
    · have hrec := rbid_in N C hl i hi (m - 1) n (k + 1) (by omega) (by omega) (by omega)
      have ht : (l.take (k + 1)).any (bidOf (l.getD i ((0 : Int), ((0 : Int), ((0 : Int), ((0 : Int), ()))))).2.2.1 (l.getD i ((0 : Int), ((0 : Int), ((0 : Int), ((0 : Int), ()))))).2.1) = bidOf (l.getD i ((0 : Int), ((0 : Int), ((0 : Int), ((0 : Int), ()))))).2.2.1 (l.getD i ((0 : Int), ((0 : Int), ((0 : Int), ((0 : Int), ()))))).2.1 (l.getD k ((0 : Int), ((0 : Int), ((0 : Int), ((0 : Int), ()))))) := by
        have ek : l.getD k ((0 : Int), ((0 : Int), ((0 : Int), ((0 : Int), ())))) = l[k]'(by omega) := by rw [List.getD_eq_getElem?_getD, List.getElem?_eq_getElem (show k < l.length by omega)]; rfl
        rw [← List.take_append_getElem (show k < l.length by omega), List.any_append, hb, ek, List.any_cons, List.any_nil, Bool.or_false, Bool.false_or]
      have hin : bidOf (l.getD i ((0 : Int), ((0 : Int), ((0 : Int), ((0 : Int), ()))))).2.2.1 (l.getD i ((0 : Int), ((0 : Int), ((0 : Int), ((0 : Int), ()))))).2.1 (l.getD k ((0 : Int), ((0 : Int), ((0 : Int), ((0 : Int), ()))))) = true → (l.take i).any (bidOf (l.getD i ((0 : Int), ((0 : Int), ((0 : Int), ((0 : Int), ()))))).2.2.1 (l.getD i ((0 : Int), ((0 : Int), ((0 : Int), ((0 : Int), ()))))).2.1) = true := fun hh => by
        refine List.any_eq_true.2 ⟨l.getD k ((0 : Int), ((0 : Int), ((0 : Int), ((0 : Int), ())))), ?_, hh⟩
        rw [List.getD_eq_getElem?_getD, List.getElem?_eq_getElem (show k < l.length by omega)]
        exact List.mem_take_iff_getElem.2 ⟨k, by omega, rfl⟩
      rw [ltB_t (by omega), cond_true, inb_t (by omega) (by omega), cond_true, inb_t (by omega) (by omega), cond_true, cond_true, cond_true, Int.toNat_natCast, Int.toNat_natCast, cond_eqB, cond_eqB, W_i64 (x := (k : Int) + 1) (by omega) (by omega), natCast_succ' k]
      by_cases h1 : (l.getD k ((0 : Int), ((0 : Int), ((0 : Int), ((0 : Int), ()))))).2.2.1 = (l.getD i ((0 : Int), ((0 : Int), ((0 : Int), ((0 : Int), ()))))).2.2.1
      · by_cases h2 : (l.getD k ((0 : Int), ((0 : Int), ((0 : Int), ((0 : Int), ()))))).2.1 = (l.getD i ((0 : Int), ((0 : Int), ((0 : Int), ((0 : Int), ()))))).2.1
        · rw [if_pos h1, if_pos h2, hin (by unfold bidOf eqI; rw [decide_eq_true h1, decide_eq_true h2]; rfl)]; rfl
        · rw [if_pos h1, if_neg h2]
          exact hrec (by rw [ht]; unfold bidOf eqI; rw [decide_eq_false h2, Bool.and_false])
      · rw [if_neg h1]
        exact hrec (by rw [ht]; unfold bidOf eqI; rw [decide_eq_false h1, Bool.false_and])
    · have : k = i := by omega
      subst this
      rw [ltB_f (by omega), cond_false, hb, cond_false, W_i64 (x := (k : Int) + 1) (by omega) (by omega), natCast_succ' k]

theorem rBids_eq (N : Nat) {l : List (Ty.den tI4)} (hl : l.length ≤ 100000) (hN : 200000 ≤ N) : novationref20_RightBids N l = some (okBids l) := by
  unfold novationref20_RightBids novationref20_RightBids.b okBids
  by_cases h40 : l.length ≤ 40
  · rw [ltB_f (by omega), cond_false, decide_eq_true h40]
    refine scan0 (F := fun n i => novationref20_RightBids.l4 N n l i) (okBidAt l) (fun n i r hi hp hr => ?_) (fun n => ?_) N (by omega)
    · unfold novationref20_RightBids.l4 novationref20_RightBids.l4b novationref20_RightBids.j8 novationref20_RightBids.j8b
      have hin : novationref20_RightBids.l9 N (novationref20_RightBids.l4 N n) N l (i : Int) 0 = _ := rbid_in N (novationref20_RightBids.l4 N n) hl i hi i N 0 (by omega) (by omega) (by omega) rfl
      rw [ltB_t (by omega), cond_true, inb_t (by omega) (by omega), cond_true, cond_true, Int.toNat_natCast, rBid_eq, Option.bind_some, cond_not, cond_dec, hin, hr]
      have hT : cond ((l.take i).any (bidOf (l.getD i ((0 : Int), ((0 : Int), ((0 : Int), ((0 : Int), ()))))).2.2.1 (l.getD i ((0 : Int), ((0 : Int), ((0 : Int), ((0 : Int), ()))))).2.1)) (some false) r = if (l.take i).any (bidOf (l.getD i ((0 : Int), ((0 : Int), ((0 : Int), ((0 : Int), ()))))).2.2.1 (l.getD i ((0 : Int), ((0 : Int), ((0 : Int), ((0 : Int), ()))))).2.1) = false then r else some false := by
        cases (l.take i).any (bidOf (l.getD i ((0 : Int), ((0 : Int), ((0 : Int), ((0 : Int), ()))))).2.2.1 (l.getD i ((0 : Int), ((0 : Int), ((0 : Int), ((0 : Int), ()))))).2.1) <;> rfl
      rw [hT]
      by_cases hK : okBid (l.getD i ((0 : Int), ((0 : Int), ((0 : Int), ((0 : Int), ())))))
      · rw [if_pos hK]
        have hD : (if okBidAt l i then r else some false) = if lt2 i (l.getD (i - 1) ((0 : Int), ((0 : Int), ((0 : Int), ((0 : Int), ()))))).1 (l.getD i ((0 : Int), ((0 : Int), ((0 : Int), ((0 : Int), ()))))).1 then (if (l.take i).any (bidOf (l.getD i ((0 : Int), ((0 : Int), ((0 : Int), ((0 : Int), ()))))).2.2.1 (l.getD i ((0 : Int), ((0 : Int), ((0 : Int), ((0 : Int), ()))))).2.1) = false then r else some false) else some false := by
          by_cases h1 : lt2 i (l.getD (i - 1) ((0 : Int), ((0 : Int), ((0 : Int), ((0 : Int), ()))))).1 (l.getD i ((0 : Int), ((0 : Int), ((0 : Int), ((0 : Int), ()))))).1 <;> by_cases h2 : (l.take i).any (bidOf (l.getD i ((0 : Int), ((0 : Int), ((0 : Int), ((0 : Int), ()))))).2.2.1 (l.getD i ((0 : Int), ((0 : Int), ((0 : Int), ((0 : Int), ()))))).2.1) = false
          · rw [if_pos h1, if_pos h2, if_pos ⟨hK, h1, h2⟩]
          · rw [if_pos h1, if_neg h2, if_neg (fun h => h2 h.2.2)]
          · rw [if_neg h1, if_neg (fun h => h1 h.2.1)]
          · rw [if_neg h1, if_neg (fun h => h1 h.2.1)]
        rw [hD]
        by_cases h0 : 0 < i
        · have e : W .i64 ((i : Int) - 1) = ((i - 1 : Nat) : Int) := by rw [W_i64 (by omega) (by omega)]; omega
          rw [ltB_t (x := 0) (y := (i : Int)) (by omega), cond_true, e]
          dsimp only
          rw [Int.toNat_natCast, inb_t (by omega) (by omega), cond_true, cond_leB]
          by_cases h1 : lt2 i (l.getD (i - 1) ((0 : Int), ((0 : Int), ((0 : Int), ((0 : Int), ()))))).1 (l.getD i ((0 : Int), ((0 : Int), ((0 : Int), ((0 : Int), ()))))).1
          · rw [if_pos h1, if_neg (by unfold lt2 at h1; omega)]
          · rw [if_neg h1, if_pos (by unfold lt2 at h1; omega)]
        · rw [ltB_f (x := 0) (y := (i : Int)) (by omega), cond_false, if_pos (show lt2 i (l.getD (i - 1) ((0 : Int), ((0 : Int), ((0 : Int), ((0 : Int), ()))))).1 (l.getD i ((0 : Int), ((0 : Int), ((0 : Int), ((0 : Int), ()))))).1 from fun h => absurd h h0)]
      · rw [if_neg hK, if_neg (fun h => hK h.1)]
    · unfold novationref20_RightBids.l4 novationref20_RightBids.l4b
      rw [ltB_f (by omega), cond_false]
  · rw [ltB_t (by omega), cond_true, decide_eq_false h40, Bool.and_false]

def bestG (lot : Int) : List (Ty.den tI4) → Ty.den tI4 → Ty.den tI4
  | [], b => b
  | x :: t, b => bestG lot t (if x.2.1 = lot then (if b.1 = 0 then x else if b.2.2.2.1 < x.2.2.2.1 then x else b) else b)
theorem bestG_cons (lot : Int) (x : Ty.den tI4) (t : List (Ty.den tI4)) (b : Ty.den tI4) : bestG lot (x :: t) b = bestG lot t (if x.2.1 = lot then (if b.1 = 0 then x else if b.2.2.2.1 < x.2.2.2.1 then x else b) else b) := rfl
def some4 (b : Ty.den tI4) : Bool := !decide (eqI b.1 0)
def bestOf (l : List (Ty.den tI4)) (lot : Int) : Ty.den tI4 × Bool := if okBids l then (bestG lot l ((0 : Int), ((0 : Int), ((0 : Int), ((0 : Int), ())))), some4 (bestG lot l ((0 : Int), ((0 : Int), ((0 : Int), ((0 : Int), ())))))) else (((0 : Int), ((0 : Int), ((0 : Int), ((0 : Int), ())))), false)
theorem some4_eq (b : Ty.den tI4) : (!eqB b.1 0) = some4 b := by unfold some4; rw [eqB_eq]; rfl
theorem Best_eq (N : Nat) {l : List (Ty.den tI4)} (hl : l.length ≤ 100000) (hN : 200000 ≤ N) (lot : Int) : award_Best N l lot = some (bestOf l lot) := by
  unfold award_Best award_Best.b bestOf
  rw [Bids_eq N hl hN, Option.bind_some, cond_not]
  cases okBids l
  · rfl
  rw [cond_true, if_pos rfl]
  have := lrec l ((0 : Int), ((0 : Int), ((0 : Int), ((0 : Int), ())))) (fun n i b => award_Best.l5 N n lot ((0 : Int), ((0 : Int), ((0 : Int), ((0 : Int), ())))) b l (l.length : Int) i) (fun t b => some (bestG lot t b, some4 (bestG lot t b))) (fun _ _ => True)
    (fun n i b hi hI hr => ?_) (fun n b hI => ?_) l.length N 0 ((0 : Int), ((0 : Int), ((0 : Int), ((0 : Int), ())))) (by omega) (by omega) (by omega) trivial
  · exact this
  · unfold award_Best.l5 award_Best.l5b
    rw [ltB_t (by omega), cond_true, inb_t (by omega) (by omega), cond_true, Int.toNat_natCast, W_i64 (x := (i : Int) + 1) (by omega) (by omega), natCast_succ' i, cond_eqB, cond_eqB, cond_ltB, bestG_cons, ← hr _ trivial]
    split
    · split
      · rfl
      · split <;> rfl
    · rfl
  · unfold award_Best.l5 award_Best.l5b
    rw [ltB_f (by omega), cond_false, some4_eq]; rfl
theorem okBids_at {l : List (Ty.den tI4)} (h : okBids l = true) : ∀ i, i < l.length → okBid (l.getD i ((0 : Int), ((0 : Int), ((0 : Int), ((0 : Int), ()))))) := fun i hi => by
  unfold okBids at h
  have h' := of_decide_eq_true (Bool.and_eq_true_iff.1 h).1
  exact (h' i hi).1
theorem rBest_eq (N : Nat) {l : List (Ty.den tI4)} (hl : l.length ≤ 100000) (hN : 200000 ≤ N) (lot : Int) : novationref20_Best N l lot = some (bestOf l lot) := by
  unfold novationref20_Best novationref20_Best.b bestOf
  rw [rBids_eq N hl hN, Option.bind_some, cond_not]
  by_cases hB : okBids l = true
  · rw [hB, cond_true, if_pos rfl]
    have := lrec l ((0 : Int), ((0 : Int), ((0 : Int), ((0 : Int), ())))) (fun n i b => novationref20_Best.l6 N n l lot ((0 : Int), ((0 : Int), ((0 : Int), ((0 : Int), ())))) b (some4 b) i) (fun t b => some (bestG lot t b, some4 (bestG lot t b))) (fun _ _ => True)
      (fun n i b hi hI hr => ?_) (fun n b hI => ?_) l.length N 0 ((0 : Int), ((0 : Int), ((0 : Int), ((0 : Int), ())))) (by omega) (by omega) (by omega) trivial
    · exact this
    · unfold novationref20_Best.l6 novationref20_Best.l6b
      have ho := okBids_at hB i hi
      have hne : some4 (l.getD i ((0 : Int), ((0 : Int), ((0 : Int), ((0 : Int), ()))))) = true := by
        rw [← some4_eq, eqB_f (by unfold okBid okBid4 at ho; have := ho.1.1; intro e; rw [e] at this; omega)]; rfl
      rw [ltB_t (by omega), cond_true, inb_t (by omega) (by omega), cond_true, cond_true, cond_true, Int.toNat_natCast, W_i64 (x := (i : Int) + 1) (by omega) (by omega), natCast_succ' i, cond_eqB, cond_ltB, bestG_cons, ← hr _ trivial]
      by_cases h1 : (l.getD i ((0 : Int), ((0 : Int), ((0 : Int), ((0 : Int), ()))))).2.1 = lot
      · rw [if_pos h1, if_pos h1, ← some4_eq b, Bool.not_not, cond_eqB]
        by_cases h2 : b.1 = 0
        · rw [if_pos h2, if_pos h2, hne]
        · rw [if_neg h2, if_neg h2]
          by_cases h3 : b.2.2.2.1 < (l.getD i ((0 : Int), ((0 : Int), ((0 : Int), ((0 : Int), ()))))).2.2.2.1
          · rw [if_pos h3, if_pos h3, hne]
          · rw [if_neg h3, if_neg h3, some4_eq]
      · rw [if_neg h1, if_neg h1]
    · unfold novationref20_Best.l6 novationref20_Best.l6b
      rw [ltB_f (by omega), cond_false]; rfl
  · rw [Bool.not_eq_true] at hB
    rw [hB]; rfl
end VM
end

section
/- Plain laws: lots that may be, copies of lots. -/
set_option linter.unusedSimpArgs false
namespace VM
open Go VM.F
set_option linter.unusedVariables false

def okLotS (s w p : Int) : Prop := ((s = 1 ∨ s = 3) ∧ w = 0 ∧ p = 0) ∨ (s = 2 ∧ 1 ≤ w ∧ w ≤ 12 ∧ -1152921504606846976 ≤ p ∧ p ≤ 1152921504606846976)
instance (s w p : Int) : Decidable (okLotS s w p) := by unfold okLotS; infer_instance
def okIdI (a : Int) : Prop := 1 ≤ a ∧ a ≤ 1099511627776
instance (a : Int) : Decidable (okIdI a) := by unfold okIdI; infer_instance
def leI (a b : Int) : Prop := a ≤ b
instance (a b : Int) : Decidable (leI a b) := by unfold leI; infer_instance
def okLotAt (c : Ty.den tConfig) (l : List (Ty.den tLot)) (i : Nat) : Prop :=
  okIdI (l.getD i ((0 : Int), (([] : List ((Int) × ((Int) × (Unit)))), ((0 : Int), ((0 : Int), ((0 : Int), ((0 : Int), ()))))))).1 ∧ lt2 i (l.getD (i - 1) ((0 : Int), (([] : List ((Int) × ((Int) × (Unit)))), ((0 : Int), ((0 : Int), ((0 : Int), ((0 : Int), ()))))))).1 (l.getD i ((0 : Int), (([] : List ((Int) × ((Int) × (Unit)))), ((0 : Int), ((0 : Int), ((0 : Int), ((0 : Int), ()))))))).1 ∧ ¬ eqI ((l.getD i ((0 : Int), (([] : List ((Int) × ((Int) × (Unit)))), ((0 : Int), ((0 : Int), ((0 : Int), ((0 : Int), ()))))))).2.1.length : Int) 0 ∧ okLegs c (l.getD i ((0 : Int), (([] : List ((Int) × ((Int) × (Unit)))), ((0 : Int), ((0 : Int), ((0 : Int), ((0 : Int), ()))))))).2.1 = true ∧ leI (l.getD i ((0 : Int), (([] : List ((Int) × ((Int) × (Unit)))), ((0 : Int), ((0 : Int), ((0 : Int), ((0 : Int), ()))))))).2.2.1 0 ∧ okLotS (l.getD i ((0 : Int), (([] : List ((Int) × ((Int) × (Unit)))), ((0 : Int), ((0 : Int), ((0 : Int), ((0 : Int), ()))))))).2.2.2.1 (l.getD i ((0 : Int), (([] : List ((Int) × ((Int) × (Unit)))), ((0 : Int), ((0 : Int), ((0 : Int), ((0 : Int), ()))))))).2.2.2.2.1 (l.getD i ((0 : Int), (([] : List ((Int) × ((Int) × (Unit)))), ((0 : Int), ((0 : Int), ((0 : Int), ((0 : Int), ()))))))).2.2.2.2.2.1
instance (c : Ty.den tConfig) (l : List (Ty.den tLot)) : DecidablePred (okLotAt c l) := fun i => by unfold okLotAt; infer_instance
def okLots (c : Ty.den tConfig) (l : List (Ty.den tLot)) : Bool := okPlan c && (decide (l.length ≤ 12) && (decide (∀ j, j < l.length → okLotAt c l j) && true))
def LotWf (l : List (Ty.den tLot)) : Prop := ∀ x ∈ l, x.2.1.length ≤ 100000
theorem lotLegs_at {l : List (Ty.den tLot)} (h : LotWf l) (i : Nat) : (l.getD i ((0 : Int), (([] : List ((Int) × ((Int) × (Unit)))), ((0 : Int), ((0 : Int), ((0 : Int), ((0 : Int), ()))))))).2.1.length ≤ 100000 := by
  by_cases hi : i < l.length
  · rw [List.getD_eq_getElem?_getD, List.getElem?_eq_getElem hi]; exact h _ (List.getElem_mem hi)
  · rw [List.getD_eq_getElem?_getD, List.getElem?_eq_none (by omega)]; exact Nat.zero_le _
theorem lotS_eq (s w p : Int) (r : Option Bool) :
    cond (eqB s 1) (cond (!eqB w 0) (some false) (cond (!eqB p 0) (some false) r)) (cond (eqB s 3) (cond (!eqB w 0) (some false) (cond (!eqB p 0) (some false) r)) (cond (eqB s 2) (cond (ltB w 1) (some false) (cond (ltB 12 w) (some false) (cond (ltB p (-1152921504606846976)) (some false) (cond (ltB 1152921504606846976 p) (some false) r)))) (some false))) =
      if okLotS s w p then r else some false := by
  simp only [cond_not, cond_eqB, cond_ltB]
  by_cases h : okLotS s w p
  · rw [if_pos h]; unfold okLotS at h
    repeat' split
    all_goals first | rfl | omega
  · rw [if_neg h]; unfold okLotS at h
    repeat' split
    all_goals first | rfl | omega
theorem lot_chain {A B C D E F : Prop} [Decidable A] [Decidable B] [Decidable C] [Decidable D] [Decidable E] [Decidable F] (r : Option Bool) :
    (if A then (if B then (if C then (if D then (if E then (if F then r else some false) else some false) else some false) else some false) else some false) else some false) = if A ∧ B ∧ C ∧ D ∧ E ∧ F then r else some false := by
  by_cases hA : A <;> by_cases hB : B <;> by_cases hC : C <;> by_cases hD : D <;> by_cases hE : E <;> by_cases hF : F <;> simp only [hA, hB, hC, hD, hE, hF, if_true, if_false, and_self, and_true, and_false, false_and, true_and]
theorem lot_step {a b n f s w p : Int} {i : Nat} {o : Bool} {r : Option Bool} :
    cond (ltB a 1) (some false) (cond (ltB 1099511627776 a) (some false) (if lt2 i b a then (cond (eqB n 0) (some false) (cond (!o) (some false) (cond (ltB 0 f) (some false) (if okLotS s w p then r else some false)))) else some false)) =
      if okIdI a ∧ lt2 i b a ∧ ¬ eqI n 0 ∧ o = true ∧ leI f 0 ∧ okLotS s w p then r else some false := by
  rw [← lot_chain]
  simp only [cond_not, cond_eqB, cond_ltB]
  by_cases h1 : okIdI a
  · have h1' := h1
    unfold okIdI at h1'
    rw [if_pos h1, if_neg (by omega), if_neg (by omega)]
    by_cases h2 : lt2 i b a
    · rw [if_pos h2, if_pos h2]
      by_cases h3 : n = 0
      · rw [if_pos h3, if_neg (show ¬ ¬ eqI n 0 from fun h => h h3)]
      · rw [if_neg h3, if_pos (show ¬ eqI n 0 from h3)]
        cases o
        · rfl
        · rw [cond_true, if_pos rfl]
          by_cases h4 : f ≤ 0
          · rw [if_pos (show leI f 0 from h4), if_neg (by omega)]
          · rw [if_neg (show ¬ leI f 0 from h4), if_pos (by omega)]
    · rw [if_neg h2, if_neg h2]
  · have h1' := h1
    unfold okIdI at h1'
    rw [if_neg h1]
    by_cases h2 : a < 1
    · rw [if_pos h2]
    · rw [if_neg h2, if_pos (by omega)]
theorem lt2_cond {i : Nat} {a b : Int} {r : Option Bool} (h0 : 0 < i) : cond (leB a b) (some false) r = if lt2 i b a then r else some false := by
  rw [cond_leB]
  by_cases h1 : lt2 i b a
  · rw [if_pos h1, if_neg (by unfold lt2 at h1; omega)]
  · rw [if_neg h1, if_pos (by unfold lt2 at h1; omega)]

theorem Lots_eq (N : Nat) (hN : 200000 ≤ N) (c : Ty.den tConfig) {l : List (Ty.den tLot)} (hl : l.length ≤ 100000) (hw : LotWf l) : lot_Right N c l = some (okLots c l) := by
  unfold lot_Right lot_Right.b okLots
  rw [Plan_eq N (by omega), Option.bind_some]
  cases okPlan c
  · rfl
  rw [Bool.not_true, cond_false, Bool.true_and]
  by_cases h12 : l.length ≤ 12
  · rw [ltB_f (by omega), cond_false, decide_eq_true h12, Bool.true_and]
    refine scan0 (F := fun n i => lot_Right.l4 N n l c l (l.length : Int) i) (okLotAt c l) (fun n i r hi hp hr => ?_) (fun n => ?_) N (by omega)
    · unfold lot_Right.l4 lot_Right.l4b lot_Right.j8 lot_Right.j8b
      rw [ltB_t (by omega), cond_true, inb_t (by omega) (by omega), cond_true, Int.toNat_natCast, Legs_eq N hN c (lotLegs_at hw i), Option.bind_some, W_i64 (x := (i : Int) + 1) (by omega) (by omega), natCast_succ' i, hr, lotS_eq]
      refine Eq.trans ?_ lot_step
      by_cases h0 : 0 < i
      · have e : W .i64 ((i : Int) - 1) = ((i - 1 : Nat) : Int) := by rw [W_i64 (by omega) (by omega)]; omega
        rw [ltB_t (x := 0) (y := (i : Int)) (by omega), cond_true, e]
        dsimp only
        rw [Int.toNat_natCast, inb_t (by omega) (by omega), cond_true, lt2_cond h0]
      · rw [ltB_f (x := 0) (y := (i : Int)) (by omega), cond_false, if_pos (show lt2 i (l.getD (i - 1) ((0 : Int), (([] : List ((Int) × ((Int) × (Unit)))), ((0 : Int), ((0 : Int), ((0 : Int), ((0 : Int), ()))))))).1 (l.getD i ((0 : Int), (([] : List ((Int) × ((Int) × (Unit)))), ((0 : Int), ((0 : Int), ((0 : Int), ((0 : Int), ()))))))).1 from fun h => absurd h h0)]
    · unfold lot_Right.l4 lot_Right.l4b
      rw [ltB_f (by omega), cond_false]
  · rw [ltB_t (by omega), cond_true, decide_eq_false h12, Bool.false_and]
theorem rLots_eq (N : Nat) (hN : 200000 ≤ N) (c : Ty.den tConfig) {l : List (Ty.den tLot)} (hl : l.length ≤ 100000) (hw : LotWf l) : novationref20_RightLots N c l = some (okLots c l) := by
  unfold novationref20_RightLots novationref20_RightLots.b okLots
  rw [rPlan_eq N (by omega), Option.bind_some]
  cases okPlan c
  · rfl
  rw [Bool.not_true, cond_false, Bool.true_and]
  by_cases h12 : l.length ≤ 12
  · rw [ltB_f (by omega), cond_false, decide_eq_true h12, Bool.true_and]
    refine scan0 (F := fun n i => novationref20_RightLots.l4 N n l c i) (okLotAt c l) (fun n i r hi hp hr => ?_) (fun n => ?_) N (by omega)
    · unfold novationref20_RightLots.l4 novationref20_RightLots.l4b novationref20_RightLots.j9 novationref20_RightLots.j9b
      rw [ltB_t (by omega), cond_true, inb_t (by omega) (by omega), cond_true, Int.toNat_natCast, rLegs_eq N hN c (lotLegs_at hw i), Option.bind_some, W_i64 (x := (i : Int) + 1) (by omega) (by omega), natCast_succ' i, hr, lotS_eq]
      refine Eq.trans ?_ lot_step
      by_cases h0 : 0 < i
      · have e : W .i64 ((i : Int) - 1) = ((i - 1 : Nat) : Int) := by rw [W_i64 (by omega) (by omega)]; omega
        rw [ltB_t (x := 0) (y := (i : Int)) (by omega), cond_true, e]
        dsimp only
        rw [Int.toNat_natCast, inb_t (by omega) (by omega), cond_true, lt2_cond h0]
      · rw [ltB_f (x := 0) (y := (i : Int)) (by omega), cond_false, if_pos (show lt2 i (l.getD (i - 1) ((0 : Int), (([] : List ((Int) × ((Int) × (Unit)))), ((0 : Int), ((0 : Int), ((0 : Int), ((0 : Int), ()))))))).1 (l.getD i ((0 : Int), (([] : List ((Int) × ((Int) × (Unit)))), ((0 : Int), ((0 : Int), ((0 : Int), ((0 : Int), ()))))))).1 from fun h => absurd h h0)]
    · unfold novationref20_RightLots.l4 novationref20_RightLots.l4b
      rw [ltB_f (by omega), cond_false]
  · rw [ltB_t (by omega), cond_true, decide_eq_false h12, Bool.false_and]

theorem set_self (l : List (Ty.den tLot)) (i : Nat) (h : i < l.length) : l.set i (l.getD i ((0 : Int), (([] : List ((Int) × ((Int) × (Unit)))), ((0 : Int), ((0 : Int), ((0 : Int), ((0 : Int), ()))))))) = l := by
  rw [List.getD_eq_getElem?_getD, List.getElem?_eq_getElem h]
  exact List.set_getElem_self h
theorem LCopy_eq (N : Nat) {l : List (Ty.den tLot)} (hl : l.length ≤ 100000) (hw : LotWf l) (hN : 200000 ≤ N) : award_Copy N l = some l := by
  unfold award_Copy award_Copy.b
  rw [clL_eq N (by omega), Option.bind_some]
  refine lrec0 l ((0 : Int), (([] : List ((Int) × ((Int) × (Unit)))), ((0 : Int), ((0 : Int), ((0 : Int), ((0 : Int), ())))))) (fun n i => award_Copy.l3 N n l (l.length : Int) i) (fun _ => some l) (fun n i hi hr => ?_) (fun n => ?_) N (by omega)
  · unfold award_Copy.l3 award_Copy.l3b
    have hlw := lotLegs_at hw i
    rw [ltB_t (by omega), cond_true, inb_t (by omega) (by omega), cond_true, Int.toNat_natCast, clL_eq N (by omega), Option.bind_some, cond_true, W_i64 (x := (i : Int) + 1) (by omega) (by omega), natCast_succ' i]
    have e : l.set i ((l.getD i ((0 : Int), (([] : List ((Int) × ((Int) × (Unit)))), ((0 : Int), ((0 : Int), ((0 : Int), ((0 : Int), ()))))))).1, ((l.getD i ((0 : Int), (([] : List ((Int) × ((Int) × (Unit)))), ((0 : Int), ((0 : Int), ((0 : Int), ((0 : Int), ()))))))).2.1, (l.getD i ((0 : Int), (([] : List ((Int) × ((Int) × (Unit)))), ((0 : Int), ((0 : Int), ((0 : Int), ((0 : Int), ()))))))).2.2)) = l := set_self l i hi
    rw [e]
    exact hr
  · unfold award_Copy.l3 award_Copy.l3b
    rw [ltB_f (by omega), cond_false]
end VM
end

section
/- Plain laws: what an award comes to. -/
set_option linter.unusedSimpArgs false
namespace VM
open Go VM.F
set_option linter.unusedVariables false

def legShifts (h : Int) : List (Ty.den tI2) → List (Ty.den tI3)
  | [] => []
  | y :: t => ((0 : Int), (y.1, ((0 - y.2.1 : Int), ()))) :: (h, (y.1, (y.2.1, ()))) :: legShifts h t
theorem legShifts_cons (h : Int) (y : Ty.den tI2) (t : List (Ty.den tI2)) : legShifts h (y :: t) = ((0 : Int), (y.1, ((0 - y.2.1 : Int), ()))) :: (h, (y.1, (y.2.1, ()))) :: legShifts h t := rfl
def payE (h p : Int) : List (Ty.den tI3) := [((5 : Int), (h, ((0 - p : Int), ()))), ((2 : Int), ((0 : Int), (p, ())))]
abbrev AwS := List (Ty.den tI3) × List (Ty.den tI3) × List (Ty.den tLot)
def soldL (x : Ty.den tLot) (m p : Int) : Ty.den tLot := (x.1, (x.2.1, (x.2.2.1, ((2 : Int), (m, (p, x.2.2.2.2.2.2))))))
def failL (x : Ty.den tLot) : Ty.den tLot := (x.1, (x.2.1, (x.2.2.1, ((3 : Int), x.2.2.2.2))))
/-- All lots, one by one; none, if a winner has no house. -/
def awl (b : Ty.den tBook) (l : List (Ty.den tI4)) : List (Ty.den tLot) → AwS → Option AwS
  | [], z => some z
  | x :: t, z =>
    if x.2.2.2.1 = 1 then
      (if (bestOf l x.1).2 = true then
        (if statusOf b.1 (bestOf l x.1).1.2.2.1 = 0 ∨ houseOf b.2.1 (bestOf l x.1).1.2.2.1 = 0 then none
         else awl b l t (z.1 ++ legShifts (houseOf b.2.1 (bestOf l x.1).1.2.2.1) x.2.1, z.2.1 ++ payE (houseOf b.2.1 (bestOf l x.1).1.2.2.1) (bestOf l x.1).1.2.2.2.1, z.2.2 ++ [soldL x (bestOf l x.1).1.2.2.1 (bestOf l x.1).1.2.2.2.1]))
       else awl b l t (z.1, z.2.1, z.2.2 ++ [failL x]))
    else awl b l t (z.1, z.2.1, z.2.2 ++ [x])
theorem awl_cons (b : Ty.den tBook) (l : List (Ty.den tI4)) (x : Ty.den tLot) (t : List (Ty.den tLot)) (z : AwS) : awl b l (x :: t) z =
    if x.2.2.2.1 = 1 then
      (if (bestOf l x.1).2 = true then
        (if statusOf b.1 (bestOf l x.1).1.2.2.1 = 0 ∨ houseOf b.2.1 (bestOf l x.1).1.2.2.1 = 0 then none
         else awl b l t (z.1 ++ legShifts (houseOf b.2.1 (bestOf l x.1).1.2.2.1) x.2.1, z.2.1 ++ payE (houseOf b.2.1 (bestOf l x.1).1.2.2.1) (bestOf l x.1).1.2.2.2.1, z.2.2 ++ [soldL x (bestOf l x.1).1.2.2.1 (bestOf l x.1).1.2.2.2.1]))
       else awl b l t (z.1, z.2.1, z.2.2 ++ [failL x]))
    else awl b l t (z.1, z.2.1, z.2.2 ++ [x]) := rfl
def awEnd (b : Ty.den tBook) : Option AwS → Ty.den tBook × List (Ty.den tLot) × Int
  | none => ((([] : List ((Int) × ((Int) × (Unit)))), (([] : List ((Int) × ((Int) × ((Int) × ((Int) × (Unit)))))), (([] : List ((Int) × ((Int) × ((Int) × (Unit))))), (([] : List ((Int) × ((Int) × ((Int) × (Unit))))), (([] : List (Int)), (([] : List ((Int) × ((Int) × ((Int) × ((Int) × ((Int) × ((Int) × (Unit)))))))), ())))))), ([], 3))
  | some z => if eqI (movedOf b z.1 z.2.1).2 0 then ((movedOf b z.1 z.2.1).1, (z.2.2, 0)) else ((([] : List ((Int) × ((Int) × (Unit)))), (([] : List ((Int) × ((Int) × ((Int) × ((Int) × (Unit)))))), (([] : List ((Int) × ((Int) × ((Int) × (Unit))))), (([] : List ((Int) × ((Int) × ((Int) × (Unit))))), (([] : List (Int)), (([] : List ((Int) × ((Int) × ((Int) × ((Int) × ((Int) × ((Int) × (Unit)))))))), ())))))), ([], (movedOf b z.1 z.2.1).2))
def awardOf (c : Ty.den tConfig) (b : Ty.den tBook) (lots : List (Ty.den tLot)) (l : List (Ty.den tI4)) : Ty.den tBook × List (Ty.den tLot) × Int :=
  if okBook c b = true then (if okLots c lots = true then (if okBids l = true then awEnd b (awl b l lots ([], [], [])) else ((([] : List ((Int) × ((Int) × (Unit)))), (([] : List ((Int) × ((Int) × ((Int) × ((Int) × (Unit)))))), (([] : List ((Int) × ((Int) × ((Int) × (Unit))))), (([] : List ((Int) × ((Int) × ((Int) × (Unit))))), (([] : List (Int)), (([] : List ((Int) × ((Int) × ((Int) × ((Int) × ((Int) × ((Int) × (Unit)))))))), ())))))), ([], 1))) else ((([] : List ((Int) × ((Int) × (Unit)))), (([] : List ((Int) × ((Int) × ((Int) × ((Int) × (Unit)))))), (([] : List ((Int) × ((Int) × ((Int) × (Unit))))), (([] : List ((Int) × ((Int) × ((Int) × (Unit))))), (([] : List (Int)), (([] : List ((Int) × ((Int) × ((Int) × ((Int) × ((Int) × ((Int) × (Unit)))))))), ())))))), ([], 1))) else ((([] : List ((Int) × ((Int) × (Unit)))), (([] : List ((Int) × ((Int) × ((Int) × ((Int) × (Unit)))))), (([] : List ((Int) × ((Int) × ((Int) × (Unit))))), (([] : List ((Int) × ((Int) × ((Int) × (Unit))))), (([] : List (Int)), (([] : List ((Int) × ((Int) × ((Int) × ((Int) × ((Int) × ((Int) × (Unit)))))))), ())))))), ([], 1))

theorem bestG_mem (lot : Int) : ∀ (l : List (Ty.den tI4)) (b : Ty.den tI4), bestG lot l b = b ∨ bestG lot l b ∈ l
  | [], b => Or.inl rfl
  | x :: t, b => by
    rw [bestG_cons]
    have key : ∀ c, (c = x ∨ c = b) → (bestG lot t c = b ∨ bestG lot t c ∈ x :: t) := fun c hc => by
      rcases bestG_mem lot t c with h | h
      · rcases hc with e | e
        · exact Or.inr (by rw [h, e]; exact List.mem_cons_self ..)
        · exact Or.inl (by rw [h, e])
      · exact Or.inr (List.mem_cons_of_mem _ h)
    refine key _ ?_
    split
    · split
      · exact Or.inl rfl
      · split
        · exact Or.inl rfl
        · exact Or.inr rfl
    · exact Or.inr rfl
theorem best_ok {l : List (Ty.den tI4)} {lot : Int} (h : (bestOf l lot).2 = true) : okBid (bestOf l lot).1 := by
  unfold bestOf at h ⊢
  by_cases hB : okBids l = true
  · rw [if_pos hB] at h ⊢
    rcases bestG_mem lot l ((0 : Int), ((0 : Int), ((0 : Int), ((0 : Int), ())))) with e | e
    · dsimp only at h
      rw [e] at h
      exact absurd h (by decide)
    · obtain ⟨i, hi, e'⟩ := List.getElem_of_mem e
      have := okBids_at hB i hi
      rw [List.getD_eq_getElem?_getD, List.getElem?_eq_getElem hi] at this
      dsimp only
      rw [← e']; exact this
  · rw [if_neg hB] at h
    exact absurd h (by decide)

theorem houseL_mem (id : Int) : ∀ (a : List (Ty.den tI4)), houseL id a = 0 ∨ ∃ x ∈ a, x.1 = houseL id a
  | [] => Or.inl rfl
  | x :: t => by
    rw [houseL_cons]
    have ih := houseL_mem id t
    have ih' : houseL id t = 0 ∨ ∃ y ∈ x :: t, y.1 = houseL id t := ih.imp (fun e => e) fun ⟨y, hy, e⟩ => ⟨y, List.mem_cons_of_mem _ hy, e⟩
    split
    · split
      · exact Or.inr ⟨x, List.mem_cons_self .., rfl⟩
      · exact ih'
    · exact ih'
theorem house_ok {a : List (Ty.den tI4)} {id : Int} (h : houseOf a id ≠ 0) : 1 ≤ houseOf a id ∧ houseOf a id ≤ 24 := by
  unfold houseOf at h ⊢
  by_cases hA : okAccs a = true
  · rw [if_pos hA] at h ⊢
    rcases houseL_mem id a with e | ⟨x, hx, e⟩
    · exact absurd e h
    · obtain ⟨i, hi, e'⟩ := List.getElem_of_mem hx
      unfold okAccs at hA
      rw [Bool.and_true] at hA
      have := (of_decide_eq_true hA i hi).1
      rw [List.getD_eq_getElem?_getD, List.getElem?_eq_getElem hi] at this
      have h5 := this.1
      dsimp only [Option.getD_some] at h5
      rw [e', e] at h5
      exact h5
  · rw [if_neg hA] at h; exact absurd rfl h

def legIn (a : Int) : Prop := 0 ≤ a ∧ a < 6
structure LegsGood (t : List (Ty.den tI2)) : Prop where
  len : t.length ≤ 6
  inst : ∀ y ∈ t, legIn y.1
  q : ∀ y ∈ t, In64 y.2.1 ∧ okQ y.2.1
theorem legs_good {c : Ty.den tConfig} {t : List (Ty.den tI2)} (h : okLegs c t = true) (h64 : ∀ y ∈ t, In64 y.2.1) : LegsGood t := by
  unfold okLegs at h
  obtain ⟨h1, h2⟩ := Bool.and_eq_true_iff.1 h
  have h1' := of_decide_eq_true h1
  have h6 : c.1.length ≤ 6 := by
    unfold okPlan at h2
    exact (of_decide_eq_true (Bool.and_eq_true_iff.1 h2).1).2
  have get : ∀ (i : Nat) (hi : i < t.length), t.getD i ((0 : Int), ((0 : Int), ())) = t[i] := fun i hi => by rw [List.getD_eq_getElem?_getD, List.getElem?_eq_getElem hi]; rfl
  have at' : ∀ i, i < t.length → okLeg5 (t.getD i ((0 : Int), ((0 : Int), ()))).1 (t.getD i ((0 : Int), ((0 : Int), ()))).2.1 c.1.length i (t.getD (i - 1) ((0 : Int), ((0 : Int), ()))).1 := h1'
  have inc : ∀ i, i < t.length → (i : Int) ≤ (t.getD i ((0 : Int), ((0 : Int), ()))).1 := by
    intro i
    induction i with
    | zero => intro hi; exact (at' 0 hi).1
    | succ i ih =>
      intro hi
      have a := ih (by omega)
      have b := (at' (i + 1) hi).2.2.2.2 (by omega)
      rw [Nat.add_sub_cancel] at b
      have g : ∀ x y : Int, (i : Int) ≤ x → x < y → ((i + 1 : Nat) : Int) ≤ y := fun x y _ _ => by omega
      exact g _ _ a b
  refine ⟨?_, fun y hy => ?_, fun y hy => ?_⟩
  · by_cases h0 : t.length = 0
    · omega
    · have a := inc (t.length - 1) (by omega)
      have b := (at' (t.length - 1) (by omega)).2.1
      have g : ∀ x : Int, ((t.length - 1 : Nat) : Int) ≤ x → x < (c.1.length : Int) → t.length ≤ 6 := fun x _ _ => by omega
      exact g _ a b
  · obtain ⟨i, hi, e⟩ := List.getElem_of_mem hy
    have := at' i hi
    rw [get i hi, e] at this
    have g : ∀ x : Int, 0 ≤ x → x < (c.1.length : Int) → legIn x := fun x _ _ => by unfold legIn; omega
    exact g _ this.1 this.2.1
  · obtain ⟨i, hi, e⟩ := List.getElem_of_mem hy
    have := at' i hi
    rw [get i hi, e] at this
    exact ⟨h64 y hy, this.2.2.2.1⟩

structure AwInv (z : AwS) (i : Nat) : Prop where
  place : ∀ x ∈ z.1, okPlace x.1 x.2.1
  q : ∀ x ∈ z.1, In64 (qty x) ∧ okQ (qty x)
  len : z.1.length ≤ 12 * i
  flat : ∀ a : Int, (qtysIn a z.1).sum = 0
  key : ∀ x ∈ z.2.1, okKey x.1 x.2.1
  qe : ∀ x ∈ z.2.1, In64 (qty x)
  lene : z.2.1.length ≤ 2 * i
  zero : (z.2.1.map qty).sum = 0
  out : z.2.2.length = i
theorem qtysIn_append (a : Int) (l m : List (Ty.den tI3)) : qtysIn a (l ++ m) = qtysIn a l ++ qtysIn a m := by
  induction l with
  | nil => rfl
  | cons x t ih =>
    rw [List.cons_append, qtysIn_cons, qtysIn_cons, ih]
    split <;> rfl
theorem leg_mem {h : Int} {x : Ty.den tI3} : ∀ {t : List (Ty.den tI2)}, x ∈ legShifts h t → ∃ y ∈ t, x = ((0 : Int), (y.1, ((0 - y.2.1 : Int), ()))) ∨ x = (h, (y.1, (y.2.1, ())))
  | [], hx => nomatch hx
  | y :: t, hx => by
    rw [legShifts_cons] at hx
    rcases List.mem_cons.1 hx with e | hx
    · exact ⟨y, List.mem_cons_self .., Or.inl e⟩
    · rcases List.mem_cons.1 hx with e | hx
      · exact ⟨y, List.mem_cons_self .., Or.inr e⟩
      · obtain ⟨y', hy, e⟩ := leg_mem hx
        exact ⟨y', List.mem_cons_of_mem _ hy, e⟩
theorem leg_len (h : Int) : ∀ t : List (Ty.den tI2), (legShifts h t).length = 2 * t.length
  | [] => rfl
  | y :: t => by
    rw [legShifts_cons, List.length_cons, List.length_cons, List.length_cons, leg_len h t]; omega
theorem leg_flat (h a : Int) : ∀ t : List (Ty.den tI2), (qtysIn a (legShifts h t)).sum = 0
  | [] => rfl
  | y :: t => by
    have ih := leg_flat h a t
    rw [legShifts_cons, qtysIn_cons, qtysIn_cons]
    dsimp only
    by_cases e : y.1 = a
    · rw [if_pos e, if_pos e, List.sum_cons, List.sum_cons, ih]
      have g : ∀ v : Int, 0 - v + (v + 0) = 0 := fun v => by omega
      exact g y.2.1
    · rw [if_neg e, if_neg e]; exact ih
theorem negQ {v : Int} (h : In64 v ∧ okQ v) : In64 (0 - v) ∧ okQ (0 - v) := by
  unfold In64 okQ at *; omega
theorem AwInv.sold {z : AwS} {i : Nat} (I : AwInv z i) {h p : Int} (h1 : 1 ≤ h ∧ h ≤ 24) (hp : -1152921504606846976 ≤ p ∧ p ≤ 1152921504606846976) {t : List (Ty.den tI2)} (g : LegsGood t) (x : Ty.den tLot) : AwInv (z.1 ++ legShifts h t, z.2.1 ++ payE h p, z.2.2 ++ [x]) (i + 1) := by
  have hin : ∀ a : Int, legIn a → okPlace 0 a ∧ okPlace h a := fun a ha => by unfold legIn at ha; unfold okPlace; omega
  refine ⟨fun x hx => ?_, fun x hx => ?_, ?_, fun a => ?_, fun x hx => ?_, fun x hx => ?_, ?_, ?_, ?_⟩
  · rcases List.mem_append.1 hx with hx | hx
    · exact I.place x hx
    · obtain ⟨y, hy, e | e⟩ := leg_mem hx
      · rw [e]; exact (hin _ (g.inst y hy)).1
      · rw [e]; exact (hin _ (g.inst y hy)).2
  · rcases List.mem_append.1 hx with hx | hx
    · exact I.q x hx
    · obtain ⟨y, hy, e | e⟩ := leg_mem hx
      · rw [e]; exact negQ (g.q y hy)
      · rw [e]; exact g.q y hy
  · rw [List.length_append, leg_len]
    have := I.len
    have := g.len
    omega
  · show (qtysIn a (z.1 ++ legShifts h t)).sum = 0
    rw [qtysIn_append, List.sum_append, I.flat a, leg_flat]; rfl
  · rcases List.mem_append.1 hx with hx | hx
    · exact I.key x hx
    · rcases List.mem_cons.1 hx with e | hx
      · rw [e]; show okKey 5 h; unfold okKey; omega
      · rw [List.mem_singleton.1 hx]; show okKey 2 0; decide
  · rcases List.mem_append.1 hx with hx | hx
    · exact I.qe x hx
    · rcases List.mem_cons.1 hx with e | hx
      · rw [e]; show In64 (0 - p); unfold In64; omega
      · rw [List.mem_singleton.1 hx]; show In64 p; unfold In64; omega
  · show (z.2.1 ++ payE h p).length ≤ _
    have := I.lene
    rw [List.length_append, show (payE h p).length = 2 from rfl]; omega
  · show ((z.2.1 ++ payE h p).map qty).sum = 0
    rw [List.map_append, List.sum_append, I.zero]
    show 0 + ((0 - p) + (p + 0)) = 0
    omega
  · show (z.2.2 ++ [x]).length = _
    rw [List.length_append, I.out]; rfl
theorem AwInv.pass {z : AwS} {i : Nat} (I : AwInv z i) (x : Ty.den tLot) : AwInv (z.1, z.2.1, z.2.2 ++ [x]) (i + 1) :=
  ⟨I.place, I.q, by have := I.len; show z.1.length ≤ _; omega, I.flat, I.key, I.qe, by have := I.lene; show z.2.1.length ≤ _; omega, I.zero, by rw [List.length_append, I.out]; rfl⟩
theorem AwInv.nil : AwInv ([], [], []) 0 := ⟨fun x hx => (nomatch hx), fun x hx => (nomatch hx), Nat.le_refl _, fun a => rfl, fun x hx => (nomatch hx), fun x hx => (nomatch hx), Nat.le_refl _, rfl, rfl⟩
theorem AwInv.goodS {z : AwS} {i : Nat} (I : AwInv z i) (h : i ≤ 12) : GoodS z.1 := ⟨I.place, I.q, by have := I.len; omega, I.flat⟩
theorem AwInv.goodE {z : AwS} {i : Nat} (I : AwInv z i) (h : i ≤ 12) : GoodE z.2.1 := ⟨I.key, fun x hx => in128_of64 (I.qe x hx), by have := I.lene; omega, I.zero⟩
end VM
end

section
/- Plain laws: Award, of the program and of the reference. -/
set_option linter.unusedSimpArgs false
namespace VM
open Go VM.F
set_option linter.unusedVariables false

theorem pay_b {p : Int} (h : -1152921504606846976 ≤ p ∧ p ≤ 1152921504606846976) : (-9223372036854775808 ≤ p ∧ p < 9223372036854775808) ∧ (-9223372036854775808 ≤ 0 - p ∧ 0 - p < 9223372036854775808) := by omega
theorem aw_leg (N : Nat) (K : award_Award.t_l7) (l : List (Ty.den tI4)) (b db : Ty.den tBook) (out lots : List (Ty.den tLot)) (s e : List (Ty.den tI3)) (w : Ty.den tI4) (h : Int) (i : Nat) (hi : i ≤ 1000) (hs : s.length ≤ 1000) (he : e.length ≤ 1000) (hw : -1152921504606846976 ≤ w.2.2.2.1 ∧ w.2.2.2.1 ≤ 1152921504606846976) {t : List (Ty.den tI2)} (g : LegsGood t) (hN : 2000000 ≤ N) :
    award_Award.l18 N K N l b db out s (e.map entW) w h lots (lots.length : Int) (i : Int) t (t.length : Int) 0 = K l b db out (s ++ legShifts h t) ((e ++ payE h w.2.2.2.1).map entW) lots (lots.length : Int) ((i + 1 : Nat) : Int) := by
  have hlen := g.len
  have := lrec t ((0 : Int), ((0 : Int), ())) (fun n j s => award_Award.l18 N K n l b db out s (e.map entW) w h lots (lots.length : Int) (i : Int) t (t.length : Int) j) (fun u s => K l b db out (s ++ legShifts h u) ((e ++ payE h w.2.2.2.1).map entW) lots (lots.length : Int) ((i + 1 : Nat) : Int)) (fun j s => s.length ≤ 1000 + 2 * j)
    (fun n j s hj hI hr => ?_) (fun n s hI => ?_) t.length N 0 s (by omega) (by omega) (by omega) (by omega)
  · exact this
  · unfold award_Award.l18 award_Award.l18b
    have hm : t.getD j ((0 : Int), ((0 : Int), ())) ∈ t := by
      rw [List.getD_eq_getElem?_getD, List.getElem?_eq_getElem hj]; exact List.getElem_mem hj
    have hn := (negQ (g.q _ hm)).1
    unfold In64 at hn
    rw [ltB_t (by omega), cond_true, inb_t (by omega) (by omega), cond_true, Int.toNat_natCast, W_i64 (x := (j : Int) + 1) (by omega) (by omega), natCast_succ' j, W_i64 hn.1 hn.2]
    dsimp only
    rw [small_t (by rw [List.length_cons, List.length_singleton]; omega), cond_true, legShifts_cons]
    refine (hr _ ?_).trans ?_
    · rw [List.length_append, List.length_cons, List.length_singleton]; omega
    · rw [List.append_assoc]; rfl
  · unfold award_Award.l18 award_Award.l18b
    rw [ltB_f (by omega), cond_false, W_i64 (x := 0 - w.2.2.2.1) (pay_b hw).2.1 (pay_b hw).2.2, wOf_eq N (pay_b hw).2.1 (pay_b hw).2.2, Option.bind_some, wOf_eq N (pay_b hw).1.1 (pay_b hw).1.2, Option.bind_some, small_t (by rw [List.length_map, List.length_cons, List.length_singleton]; omega), cond_true, W_i64 (x := (i : Int) + 1) (by omega) (by omega), natCast_succ' i]
    show _ = K l b db out (s ++ []) _ _ _ _
    rw [List.append_nil, List.map_append]
    rfl

theorem at_mid {D T : List (Ty.den tLot)} {x : Ty.den tLot} {i : Nat} (h : D.length = i) : (D ++ x :: T).getD i ((0 : Int), (([] : List ((Int) × ((Int) × (Unit)))), ((0 : Int), ((0 : Int), ((0 : Int), ((0 : Int), ())))))) = x := by
  subst h; simp
theorem set_mid {D T : List (Ty.den tLot)} {x y : Ty.den tLot} {i : Nat} (h : D.length = i) : (D ++ x :: T).set i y = D ++ y :: T := by
  subst h; simp
theorem mid_len {D T : List (Ty.den tLot)} {x : Ty.den tLot} {i : Nat} (h : D.length = i) : i < (D ++ x :: T).length := by
  rw [List.length_append, List.length_cons]; omega
theorem snoc_mid {D T : List (Ty.den tLot)} {x : Ty.den tLot} : D ++ x :: T = (D ++ [x]) ++ T := by rw [List.append_assoc]; rfl

/-- Lots by their sizes. -/
structure LotsWf (l : List (Ty.den tLot)) : Prop where
  len : LotWf l
  q : ∀ x ∈ l, ∀ y ∈ x.2.1, In64 y.2.1
theorem okLots_at {c : Ty.den tConfig} {l : List (Ty.den tLot)} (h : okLots c l = true) (w : LotsWf l) {i : Nat} (hi : i < l.length) : LegsGood (l.getD i ((0 : Int), (([] : List ((Int) × ((Int) × (Unit)))), ((0 : Int), ((0 : Int), ((0 : Int), ((0 : Int), ()))))))).2.1 := by
  unfold okLots at h
  have h' := of_decide_eq_true (Bool.and_eq_true_iff.1 (Bool.and_eq_true_iff.1 (Bool.and_eq_true_iff.1 h).2).2).1
  have hl : okLegs c (l.getD i ((0 : Int), (([] : List ((Int) × ((Int) × (Unit)))), ((0 : Int), ((0 : Int), ((0 : Int), ((0 : Int), ()))))))).2.1 = true := (h' i hi).2.2.2.1
  refine legs_good hl ?_
  have hm : l.getD i ((0 : Int), (([] : List ((Int) × ((Int) × (Unit)))), ((0 : Int), ((0 : Int), ((0 : Int), ((0 : Int), ())))))) ∈ l := by
    rw [List.getD_eq_getElem?_getD, List.getElem?_eq_getElem hi]; exact List.getElem_mem hi
  exact w.q _ hm
theorem okLots_len {c : Ty.den tConfig} {l : List (Ty.den tLot)} (h : okLots c l = true) : l.length ≤ 12 := by
  unfold okLots at h
  exact of_decide_eq_true (Bool.and_eq_true_iff.1 (Bool.and_eq_true_iff.1 h).2).1

theorem okBook_parts {c : Ty.den tConfig} {b : Ty.den tBook} (h : okBook c b = true) : okRows b.2.2.1 = true ∧ okStock b.2.2.2.1 = true := by
  unfold okBook at h
  have h1 := (Bool.and_eq_true_iff.1 (Bool.and_eq_true_iff.1 h).2).2
  have h2 := Bool.and_eq_true_iff.1 h1
  have h3 := (Bool.and_eq_true_iff.1 (Bool.and_eq_true_iff.1 h2.2).2).1
  refine ⟨h2.1, ?_⟩
  unfold okFlat at h3
  exact (Bool.and_eq_true_iff.1 h3).2

/-- Sizes of a book that is to be moved. -/
structure BookWf2 (b : Ty.den tBook) : Prop where
  w : BookWf b
  r : b.2.2.1.length ≤ 90000
  s : b.2.2.2.1.length ≤ 90000

theorem Award_eq (N : Nat) (hN : 4000000 ≤ N) (c : Ty.den tConfig) {b : Ty.den tBook} {lots : List (Ty.den tLot)} {l : List (Ty.den tI4)} (w : BookWf2 b) (hl : l.length ≤ 100000) (hll : lots.length ≤ 100000) (lw : LotsWf lots) :
    award_Award N c b lots l = some (awardOf c b lots l) := by
  unfold award_Award award_Award.b awardOf
  rw [Book_eq N hN w.w, Option.bind_some, Lots_eq N (by omega) c hll lw.len, Option.bind_some, Bids_eq N hl (by omega), Option.bind_some, LCopy_eq N hll lw.len (by omega), Option.bind_some, cond_not, cond_not, cond_not]
  by_cases hB : okBook c b = false
  · rw [hB]; rfl
  rw [Bool.not_eq_false] at hB
  rw [hB, cond_true, if_pos rfl]
  by_cases hL : okLots c lots = false
  · rw [hL]; rfl
  rw [Bool.not_eq_false] at hL
  rw [hL, cond_true, if_pos rfl]
  by_cases hD : okBids l = false
  · rw [hD]; rfl
  rw [Bool.not_eq_false] at hD
  rw [hD, cond_true, if_pos rfl]
  obtain ⟨hr, hs⟩ := okBook_parts hB
  have h12 := okLots_len hL
  have := lrec lots ((0 : Int), (([] : List ((Int) × ((Int) × (Unit)))), ((0 : Int), ((0 : Int), ((0 : Int), ((0 : Int), ())))))) (fun n i (z : AwS) => award_Award.l7 N n l b (([] : List ((Int) × ((Int) × (Unit)))), (([] : List ((Int) × ((Int) × ((Int) × ((Int) × (Unit)))))), (([] : List ((Int) × ((Int) × ((Int) × (Unit))))), (([] : List ((Int) × ((Int) × ((Int) × (Unit))))), (([] : List (Int)), (([] : List ((Int) × ((Int) × ((Int) × ((Int) × ((Int) × ((Int) × (Unit)))))))), ())))))) (z.2.2 ++ lots.drop i.toNat) z.1 (z.2.1.map entW) lots (lots.length : Int) i) (fun t z => some (awEnd b (awl b l t z))) (fun i z => AwInv z i)
    (fun n i z hi I hrec => ?_) (fun n z I => ?_) lots.length N 0 ([], [], []) (by omega) (by omega) (by omega) AwInv.nil
  · exact this
  · unfold award_Award.l7 award_Award.l7b
    have hso := I.out
    have hle := I.len
    have hlee := I.lene
    rw [Int.toNat_natCast, drop_cons hi ((0 : Int), (([] : List ((Int) × ((Int) × (Unit)))), ((0 : Int), ((0 : Int), ((0 : Int), ((0 : Int), ())))))), awl_cons]
    generalize hx : lots.getD i ((0 : Int), (([] : List ((Int) × ((Int) × (Unit)))), ((0 : Int), ((0 : Int), ((0 : Int), ((0 : Int), ())))))) = x at *
    have hg : LegsGood x.2.1 := by rw [← hx]; exact okLots_at hL lw hi
    rw [ltB_t (by omega), cond_true, inb_t (by omega) (by omega), cond_true, W_i64 (x := (i : Int) + 1) (by omega) (by omega), natCast_succ' i, cond_not, cond_eqB]
    by_cases h1 : x.2.2.2.1 = 1
    · rw [if_pos h1, if_pos h1, Best_eq N hl (by omega), Option.bind_some, cond_not]
      by_cases h2 : (bestOf l x.1).2 = true
      · have hb := best_ok h2
        unfold okBid okBid4 at hb
        rw [h2, cond_true, if_pos rfl, House_eq N w.w.a (by omega), Option.bind_some, Status_eq N w.w.m (by omega), Option.bind_some, cond_eqB, cond_eqB]
        by_cases h3 : statusOf b.1 (bestOf l x.1).1.2.2.1 = 0
        · rw [if_pos h3, if_pos (Or.inl h3)]; rfl
        · rw [if_neg h3]
          by_cases h4 : houseOf b.2.1 (bestOf l x.1).1.2.2.1 = 0
          · rw [if_pos h4, if_pos (Or.inr h4)]; rfl
          · rw [if_neg h4, if_neg (fun h => h.elim h3 h4), inb_t (by omega) (by have := mid_len (T := lots.drop (i + 1)) (x := x) hso; omega), cond_true]
            dsimp only
            rw [at_mid hso, set_mid hso]
            rw [inb_t (by omega) (by have := mid_len (T := lots.drop (i + 1)) (x := x) hso; rw [List.length_append, List.length_cons] at this ⊢; omega), cond_true, at_mid hso, set_mid hso]
            rw [inb_t (by omega) (by have := mid_len (T := lots.drop (i + 1)) (x := x) hso; rw [List.length_append, List.length_cons] at this ⊢; omega), cond_true, at_mid hso, set_mid hso]
            rw [aw_leg N _ l b _ _ _ _ _ _ _ i (by omega) (by omega) (by omega) hb.2.2.2 hg (by omega), snoc_mid]
            exact hrec _ (I.sold (house_ok h4) hb.2.2.2 hg _)
      · rw [Bool.not_eq_true] at h2
        rw [h2, cond_false, if_neg (by decide), inb_t (by omega) (by have := mid_len (T := lots.drop (i + 1)) (x := x) hso; omega), cond_true, at_mid hso, set_mid hso, snoc_mid]
        exact hrec _ (I.pass _)
    · rw [if_neg h1, if_neg h1, snoc_mid]
      exact hrec _ (I.pass x)
  · unfold award_Award.l7 award_Award.l7b
    rw [ltB_f (by omega), cond_false, Int.toNat_natCast, List.drop_length, List.append_nil, Moved_eq N (by omega) w.w hr hs w.r w.s (I.goodS h12) (I.goodE h12), Option.bind_some, cond_not, cond_eqB]
    show _ = some (awEnd b (some z))
    unfold awEnd
    by_cases h : (movedOf b z.1 z.2.1).2 = 0
    · rw [if_pos h]
      dsimp only
      rw [if_pos (show eqI (movedOf b z.1 z.2.1).2 0 from h)]
    · rw [if_neg h]
      dsimp only
      rw [if_neg (show ¬ eqI (movedOf b z.1 z.2.1).2 0 from h)]
end VM
end

section
/- Plain laws: Award of the reference. -/
set_option linter.unusedSimpArgs false
namespace VM
open Go VM.F
set_option linter.unusedVariables false

theorem raw_leg (N : Nat) (K : novationref20_Award.t_l7) (l : List (Ty.den tI4)) (b db : Ty.den tBook) (out lots : List (Ty.den tLot)) (s e : List (Ty.den tI3)) (x : Ty.den tLot) (w : Ty.den tI4) (h : Int) (i : Nat) (hi : i ≤ 1000) (hs : s.length ≤ 1000) (he : e.length ≤ 1000) (ho : out.length ≤ 1000) (hw : -1152921504606846976 ≤ w.2.2.2.1 ∧ w.2.2.2.1 ≤ 1152921504606846976) (g : LegsGood x.2.1) (hN : 4000000 ≤ N) :
    novationref20_Award.l22 N K N lots l b db s (e.map partB) out (i : Int) x w h 0 = K lots l b db (s ++ legShifts h x.2.1) ((e ++ payE h w.2.2.2.1).map partB) (out ++ [x]) ((i + 1 : Nat) : Int) := by
  have hlen := g.len
  have := lrec x.2.1 ((0 : Int), ((0 : Int), ())) (fun n j s => novationref20_Award.l22 N K n lots l b db s (e.map partB) out (i : Int) x w h j) (fun u s => K lots l b db (s ++ legShifts h u) ((e ++ payE h w.2.2.2.1).map partB) (out ++ [x]) ((i + 1 : Nat) : Int)) (fun j s => s.length ≤ 1000 + 2 * j)
    (fun n j s hj hI hr => ?_) (fun n s hI => ?_) x.2.1.length N 0 s (by omega) (by omega) (by omega) (by omega)
  · exact this
  · unfold novationref20_Award.l22 novationref20_Award.l22b
    have hm : x.2.1.getD j ((0 : Int), ((0 : Int), ())) ∈ x.2.1 := by
      rw [List.getD_eq_getElem?_getD, List.getElem?_eq_getElem hj]; exact List.getElem_mem hj
    have hn := (negQ (g.q _ hm)).1
    unfold In64 at hn
    rw [ltB_t (by omega), cond_true, inb_t (by omega) (by omega), cond_true, cond_true, Int.toNat_natCast, W_i64 (x := (j : Int) + 1) (by omega) (by omega), natCast_succ' j, W_i64 hn.1 hn.2]
    dsimp only
    rw [cond_true, cond_true, small_t (by rw [List.length_cons, List.length_singleton]; omega), cond_true, legShifts_cons]
    refine (hr _ ?_).trans ?_
    · rw [List.length_append, List.length_cons, List.length_singleton]; omega
    · rw [List.append_assoc]; rfl
  · unfold novationref20_Award.l22 novationref20_Award.l22b novationref10_Both
    have hf := Fit.i64 (pay_b hw).1.1 (pay_b hw).1.2
    rw [ltB_f (by omega), cond_false, Whole_eq N (by omega) (pay_b hw).1.1 (pay_b hw).1.2, Option.bind_some, Turned_eq N (by omega) (hf.mono (by omega)), Option.bind_some, Option.bind_some, small_t (by rw [List.length_map, List.length_cons, List.length_singleton]; omega), cond_true, small_t (by rw [List.length_singleton]; omega), cond_true, W_i64 (x := (i : Int) + 1) (by omega) (by omega), natCast_succ' i]
    show _ = K lots l b db (s ++ []) _ _ _
    rw [List.append_nil, List.map_append]
    have e0 : bigN (-w.2.2.2.1) = bigN (0 - w.2.2.2.1) := congrArg bigN (Int.zero_sub _).symm
    rw [e0]
    rfl

theorem rAward_eq (N : Nat) (hN : 5000000 ≤ N) (c : Ty.den tConfig) {b : Ty.den tBook} {lots : List (Ty.den tLot)} {l : List (Ty.den tI4)} (w : BookWf2 b) (hl : l.length ≤ 100000) (hll : lots.length ≤ 100000) (lw : LotsWf lots) :
    novationref20_Award N c b lots l = some (awardOf c b lots l) := by
  unfold novationref20_Award novationref20_Award.b awardOf
  rw [rBook_eq N hN w.w, Option.bind_some, rLots_eq N (by omega) c hll lw.len, Option.bind_some, rBids_eq N hl (by omega), Option.bind_some, cond_not, cond_not, cond_not]
  by_cases hB : okBook c b = false
  · rw [hB]; rfl
  rw [Bool.not_eq_false] at hB
  rw [hB, cond_true, if_pos rfl]
  by_cases hL : okLots c lots = false
  · rw [hL]; rfl
  rw [Bool.not_eq_false] at hL
  rw [hL, cond_true, if_pos rfl]
  by_cases hD : okBids l = false
  · rw [hD]; rfl
  rw [Bool.not_eq_false] at hD
  rw [hD, cond_true, if_pos rfl]
  obtain ⟨hr, hs⟩ := okBook_parts hB
  have h12 := okLots_len hL
  have := lrec lots ((0 : Int), (([] : List ((Int) × ((Int) × (Unit)))), ((0 : Int), ((0 : Int), ((0 : Int), ((0 : Int), ())))))) (fun n i (z : AwS) => novationref20_Award.l7 N n lots l b (([] : List ((Int) × ((Int) × (Unit)))), (([] : List ((Int) × ((Int) × ((Int) × ((Int) × (Unit)))))), (([] : List ((Int) × ((Int) × ((Int) × (Unit))))), (([] : List ((Int) × ((Int) × ((Int) × (Unit))))), (([] : List (Int)), (([] : List ((Int) × ((Int) × ((Int) × ((Int) × ((Int) × ((Int) × (Unit)))))))), ())))))) z.1 (z.2.1.map partB) z.2.2 i) (fun t z => some (awEnd b (awl b l t z))) (fun i z => AwInv z i)
    (fun n i z hi I hrec => ?_) (fun n z I => ?_) lots.length N 0 ([], [], []) (by omega) (by omega) (by omega) AwInv.nil
  · exact this
  · unfold novationref20_Award.l7 novationref20_Award.l7b
    have hso := I.out
    have hle := I.len
    have hlee := I.lene
    have hlw := lotLegs_at lw.len i
    rw [Int.toNat_natCast, awl_cons]
    have hg : LegsGood (lots.getD i ((0 : Int), (([] : List ((Int) × ((Int) × (Unit)))), ((0 : Int), ((0 : Int), ((0 : Int), ((0 : Int), ()))))))).2.1 := okLots_at hL lw hi
    generalize lots.getD i ((0 : Int), (([] : List ((Int) × ((Int) × (Unit)))), ((0 : Int), ((0 : Int), ((0 : Int), ((0 : Int), ())))))) = x at *
    have hlx : ([] ++ x.2.1 : List ((Int) × ((Int) × (Unit)))) = x.2.1 := rfl
    rw [ltB_t (by omega), cond_true, inb_t (by omega) (by omega), cond_true, small_t (by rw [List.length_nil]; omega), cond_true, W_i64 (x := (i : Int) + 1) (by omega) (by omega), natCast_succ' i, cond_not, cond_eqB]
    by_cases h1 : x.2.2.2.1 = 1
    · rw [if_pos h1, if_pos h1, rBest_eq N hl (by omega), Option.bind_some, cond_not]
      by_cases h2 : (bestOf l x.1).2 = true
      · have hb := best_ok h2
        unfold okBid okBid4 at hb
        unfold novationref20_member
        rw [h2, cond_true, if_pos rfl, rHouse_eq N w.w.a (by omega), Option.bind_some, rStatus_eq N w.w.m (by omega), Option.bind_some, Option.bind_some, cond_eqB, cond_eqB]
        by_cases h4 : houseOf b.2.1 (bestOf l x.1).1.2.2.1 = 0
        · rw [if_pos h4, if_pos (Or.inr h4)]; rfl
        · rw [if_neg h4]
          by_cases h3 : statusOf b.1 (bestOf l x.1).1.2.2.1 = 0
          · rw [if_pos h3, if_pos (Or.inl h3)]; rfl
          · rw [if_neg h3, if_neg (fun h => h.elim h3 h4)]
            refine (raw_leg N _ l b (([] : List ((Int) × ((Int) × (Unit)))), (([] : List ((Int) × ((Int) × ((Int) × ((Int) × (Unit)))))), (([] : List ((Int) × ((Int) × ((Int) × (Unit))))), (([] : List ((Int) × ((Int) × ((Int) × (Unit))))), (([] : List (Int)), (([] : List ((Int) × ((Int) × ((Int) × ((Int) × ((Int) × ((Int) × (Unit)))))))), ())))))) z.2.2 lots z.1 z.2.1 (soldL x (bestOf l x.1).1.2.2.1 (bestOf l x.1).1.2.2.2.1) (bestOf l x.1).1 (houseOf b.2.1 (bestOf l x.1).1.2.2.1) i (by omega) (by omega) (by omega) (by omega) hb.2.2.2 hg (by omega)).trans ?_
            exact hrec _ (I.sold (house_ok h4) hb.2.2.2 hg _)
      · rw [Bool.not_eq_true] at h2
        rw [h2, cond_false, if_neg (by decide), small_t (by rw [List.length_singleton]; omega), cond_true]
        exact hrec _ (I.pass _)
    · rw [if_neg h1, if_neg h1, small_t (by rw [List.length_singleton]; omega), cond_true]
      exact hrec _ (I.pass x)
  · unfold novationref20_Award.l7 novationref20_Award.l7b
    rw [ltB_f (by omega), cond_false, With_eq N (by omega) w.w hr hs w.r w.s (I.goodS h12) (I.goodE h12), Option.bind_some, cond_not, cond_eqB]
    show _ = some (awEnd b (some z))
    unfold awEnd
    by_cases h : (movedOf b z.1 z.2.1).2 = 0
    · rw [if_pos h]
      dsimp only
      rw [if_pos (show eqI (movedOf b z.1 z.2.1).2 0 from h)]
    · rw [if_neg h]
      dsimp only
      rw [if_neg (show ¬ eqI (movedOf b z.1 z.2.1).2 0 from h)]
end VM
end

section
/- Plain laws: AwardAll. -/
set_option linter.unusedSimpArgs false
namespace VM
open Go VM.F
set_option linter.unusedVariables false

theorem eqB_self (x : Int) : eqB x x = true := eqB_t rfl
theorem teq_i2 (x : Ty.den tI2) : teq (.pair (.int .i64) (.pair (.int .i64) .unit)) x x = true := by
  show (eqB x.1 x.1 && (eqB x.2.1 x.2.1 && true)) = true
  rw [eqB_self, eqB_self]; rfl
theorem teq_i3 (x : Ty.den tI3) : teq (.pair (.int .i64) (.pair (.int .i64) (.pair (.int .i64) .unit))) x x = true := by
  show (eqB x.1 x.1 && teq (.pair (.int .i64) (.pair (.int .i64) .unit)) x.2 x.2) = true
  rw [eqB_self, teq_i2]; rfl
theorem teq_i4 (x : Ty.den tI4) : teq (.pair (.int .i64) (.pair (.int .i64) (.pair (.int .i64) (.pair (.int .i64) .unit)))) x x = true := by
  show (eqB x.1 x.1 && teq (.pair (.int .i64) (.pair (.int .i64) (.pair (.int .i64) .unit))) x.2 x.2) = true
  rw [eqB_self, teq_i3]; rfl
theorem teq_i6 (x : Ty.den tI6) : teq (.pair (.int .i64) (.pair (.int .i64) (.pair (.int .i64) (.pair (.int .i64) (.pair (.int .i64) (.pair (.int .i64) .unit)))))) x x = true := by
  show (eqB x.1 x.1 && (eqB x.2.1 x.2.1 && teq (.pair (.int .i64) (.pair (.int .i64) (.pair (.int .i64) (.pair (.int .i64) .unit)))) x.2.2 x.2.2)) = true
  rw [eqB_self, eqB_self, teq_i4]; rfl

theorem same_loop {F : Nat → Int → Option Bool} {len : Nat} (hs : ∀ n (i : Nat), i < len → F n ((i + 1 : Nat) : Int) = some true → F (n + 1) (i : Int) = some true) (he : ∀ n, F (n + 1) (len : Int) = some true) : ∀ (m n i : Nat), len - i ≤ m → m < n → i ≤ len → F n (i : Int) = some true
  | m, 0, i, _, hn, _ => by omega
  | m, n + 1, i, hm, hn, hi => by
    by_cases h : i < len
    · exact hs n i h (same_loop hs he (m - 1) n (i + 1) (by omega) (by omega) (by omega))
    · have : i = len := by omega
      subst this; exact he n
theorem hMembers_eq (N : Nat) {l : List (Ty.den tI2)} (hl : l.length ≤ 100000) (hN : 200000 ≤ N) : novationhelp_Members N l l = some true := by
  unfold novationhelp_Members novationhelp_Members.b
  rw [eqB_self, Bool.not_true, cond_false]
  refine same_loop (F := fun n i => novationhelp_Members.l4 N n l l i) (len := l.length) (fun n i hi hr => ?_) (fun n => ?_) l.length N 0 (by omega) (by omega) (by omega)
  · unfold novationhelp_Members.l4 novationhelp_Members.l4b
    rw [ltB_t (by omega), cond_true, inb_t (by omega) (by omega), cond_true, cond_true, teq_i2, Bool.not_true, cond_false, W_i64 (x := (i : Int) + 1) (by omega) (by omega), natCast_succ' i]
    exact hr
  · unfold novationhelp_Members.l4 novationhelp_Members.l4b
    rw [ltB_f (by omega), cond_false]
theorem hAccs_eq (N : Nat) {l : List (Ty.den tI4)} (hl : l.length ≤ 100000) (hN : 200000 ≤ N) : novationhelp_Accs N l l = some true := by
  unfold novationhelp_Accs novationhelp_Accs.b
  rw [eqB_self, Bool.not_true, cond_false]
  refine same_loop (F := fun n i => novationhelp_Accs.l4 N n l l i) (len := l.length) (fun n i hi hr => ?_) (fun n => ?_) l.length N 0 (by omega) (by omega) (by omega)
  · unfold novationhelp_Accs.l4 novationhelp_Accs.l4b
    rw [ltB_t (by omega), cond_true, inb_t (by omega) (by omega), cond_true, cond_true, teq_i4, Bool.not_true, cond_false, W_i64 (x := (i : Int) + 1) (by omega) (by omega), natCast_succ' i]
    exact hr
  · unfold novationhelp_Accs.l4 novationhelp_Accs.l4b
    rw [ltB_f (by omega), cond_false]
theorem hRows_eq (N : Nat) {l : List (Ty.den tI3)} (hl : l.length ≤ 100000) (hN : 200000 ≤ N) : novationhelp_Rows N l l = some true := by
  unfold novationhelp_Rows novationhelp_Rows.b
  rw [eqB_self, Bool.not_true, cond_false]
  refine same_loop (F := fun n i => novationhelp_Rows.l4 N n l l i) (len := l.length) (fun n i hi hr => ?_) (fun n => ?_) l.length N 0 (by omega) (by omega) (by omega)
  · unfold novationhelp_Rows.l4 novationhelp_Rows.l4b
    rw [ltB_t (by omega), cond_true, inb_t (by omega) (by omega), cond_true, cond_true, teq_i3, Bool.not_true, cond_false, W_i64 (x := (i : Int) + 1) (by omega) (by omega), natCast_succ' i]
    exact hr
  · unfold novationhelp_Rows.l4 novationhelp_Rows.l4b
    rw [ltB_f (by omega), cond_false]
theorem hStock_eq (N : Nat) {l : List (Ty.den tI3)} (hl : l.length ≤ 100000) (hN : 200000 ≤ N) : novationhelp_Stock N l l = some true := by
  unfold novationhelp_Stock novationhelp_Stock.b
  rw [eqB_self, Bool.not_true, cond_false]
  refine same_loop (F := fun n i => novationhelp_Stock.l4 N n l l i) (len := l.length) (fun n i hi hr => ?_) (fun n => ?_) l.length N 0 (by omega) (by omega) (by omega)
  · unfold novationhelp_Stock.l4 novationhelp_Stock.l4b
    rw [ltB_t (by omega), cond_true, inb_t (by omega) (by omega), cond_true, cond_true, teq_i3, Bool.not_true, cond_false, W_i64 (x := (i : Int) + 1) (by omega) (by omega), natCast_succ' i]
    exact hr
  · unfold novationhelp_Stock.l4 novationhelp_Stock.l4b
    rw [ltB_f (by omega), cond_false]
theorem hOrders_eq (N : Nat) {l : List (Ty.den tI6)} (hl : l.length ≤ 100000) (hN : 200000 ≤ N) : novationhelp_Orders N l l = some true := by
  unfold novationhelp_Orders novationhelp_Orders.b
  rw [eqB_self, Bool.not_true, cond_false]
  refine same_loop (F := fun n i => novationhelp_Orders.l4 N n l l i) (len := l.length) (fun n i hi hr => ?_) (fun n => ?_) l.length N 0 (by omega) (by omega) (by omega)
  · unfold novationhelp_Orders.l4 novationhelp_Orders.l4b
    rw [ltB_t (by omega), cond_true, inb_t (by omega) (by omega), cond_true, cond_true, teq_i6, Bool.not_true, cond_false, W_i64 (x := (i : Int) + 1) (by omega) (by omega), natCast_succ' i]
    exact hr
  · unfold novationhelp_Orders.l4 novationhelp_Orders.l4b
    rw [ltB_f (by omega), cond_false]
theorem hInts_eq (N : Nat) {l : List (Int)} (hl : l.length ≤ 100000) (hN : 200000 ≤ N) : novationhelp_Ints N l l = some true := by
  unfold novationhelp_Ints novationhelp_Ints.b
  rw [eqB_self, Bool.not_true, cond_false]
  refine same_loop (F := fun n i => novationhelp_Ints.l4 N n l l i) (len := l.length) (fun n i hi hr => ?_) (fun n => ?_) l.length N 0 (by omega) (by omega) (by omega)
  · unfold novationhelp_Ints.l4 novationhelp_Ints.l4b
    rw [ltB_t (by omega), cond_true, inb_t (by omega) (by omega), cond_true, cond_true, eqB_self, Bool.not_true, cond_false, W_i64 (x := (i : Int) + 1) (by omega) (by omega), natCast_succ' i]
    exact hr
  · unfold novationhelp_Ints.l4 novationhelp_Ints.l4b
    rw [ltB_f (by omega), cond_false]
theorem hBook_eq (N : Nat) (hN : 200000 ≤ N) {b : Ty.den tBook} (h1 : b.1.length ≤ 100000) (h2 : b.2.1.length ≤ 100000) (h3 : b.2.2.1.length ≤ 100000) (h4 : b.2.2.2.1.length ≤ 100000) (h5 : b.2.2.2.2.1.length ≤ 100000) (h6 : b.2.2.2.2.2.1.length ≤ 100000) : novationhelp_Book N b b = some true := by
  unfold novationhelp_Book
  rw [hMembers_eq N h1 hN, Option.bind_some, cond_true, hAccs_eq N h2 hN, Option.bind_some, cond_true, hRows_eq N h3 hN, Option.bind_some, cond_true, hStock_eq N h4 hN, Option.bind_some, cond_true, hInts_eq N h5 hN, Option.bind_some, cond_true, hOrders_eq N h6 hN, Option.bind_some]
theorem lots_in (N : Nat) (K : novationref20_SameLots.t_l4) (l : List (Ty.den tLot)) (i : Nat) (hi : i ≤ 100000) (x : Ty.den tLot) (hx : x.2.1.length ≤ 100000) (hN : 200000 ≤ N) (hK : K l l ((i + 1 : Nat) : Int) = some true) : novationref20_SameLots.l10 N K N l l (i : Int) x x 0 = some true := by
  refine same_loop (F := fun n j => novationref20_SameLots.l10 N K n l l (i : Int) x x j) (len := x.2.1.length) (fun n j hj hr => ?_) (fun n => ?_) x.2.1.length N 0 (by omega) (by omega) (by omega)
  · unfold novationref20_SameLots.l10 novationref20_SameLots.l10b
    rw [ltB_t (by omega), cond_true, inb_t (by omega) (by omega), cond_true, cond_true, teq_i2, Bool.not_true, cond_false, W_i64 (x := (j : Int) + 1) (by omega) (by omega), natCast_succ' j]
    exact hr
  · unfold novationref20_SameLots.l10 novationref20_SameLots.l10b
    rw [ltB_f (by omega), cond_false, W_i64 (x := (i : Int) + 1) (by omega) (by omega), natCast_succ' i, hK]
theorem SameLots_eq (N : Nat) {l : List (Ty.den tLot)} (hl : l.length ≤ 100000) (hw : LotWf l) (hN : 200000 ≤ N) : novationref20_SameLots N l l = some true := by
  unfold novationref20_SameLots novationref20_SameLots.b
  rw [eqB_self, Bool.not_true, cond_false]
  refine same_loop (F := fun n i => novationref20_SameLots.l4 N n l l i) (len := l.length) (fun n i hi hr => ?_) (fun n => ?_) l.length N 0 (by omega) (by omega) (by omega)
  · unfold novationref20_SameLots.l4 novationref20_SameLots.l4b
    rw [ltB_t (by omega), cond_true, inb_t (by omega) (by omega), cond_true, cond_true, eqB_self, Bool.not_true, cond_false, eqB_self, Bool.not_true, cond_false, eqB_self, Bool.not_true, cond_false, eqB_self, Bool.not_true, cond_false, eqB_self, Bool.not_true, cond_false, eqB_self, Bool.not_true, cond_false]
    exact lots_in N _ l i (by omega) _ (lotLegs_at hw i) hN hr
  · unfold novationref20_SameLots.l4 novationref20_SameLots.l4b
    rw [ltB_f (by omega), cond_false]

theorem coll_len {P : Int → Prop} [DecidablePred P] {f : Int → Int → Int} : ∀ {K : List Key2} {o : List (Ty.den tI3)}, coll P f K = some o → o.length ≤ K.length
  | [], o, h => by
    have : some [] = some o := h
    rw [← Option.some.inj this]; exact Nat.le_refl _
  | k :: t, o, h => by
    rw [coll_cons] at h
    by_cases hP : P (f k.1 k.2)
    · rw [if_pos hP] at h
      cases hc : coll P f t with
      | none => rw [hc] at h; exact absurd h (by simp)
      | some r =>
        have ih := coll_len hc
        rw [hc] at h
        have h' := Option.some.inj h
        rw [← h', List.length_cons]
        dsimp only
        split
        · omega
        · rw [List.length_cons]; omega
    · rw [if_neg hP] at h; exact absurd h (by simp)
theorem stockG_len : stockG.length = 150 := by decide +kernel
theorem rowsG_len : rowsG.length = 175 := by decide +kernel
/-- A book whose parts are not too long. -/
structure Short (b : Ty.den tBook) : Prop where
  m : b.1.length ≤ 100000
  a : b.2.1.length ≤ 100000
  r : b.2.2.1.length ≤ 100000
  s : b.2.2.2.1.length ≤ 100000
  p : b.2.2.2.2.1.length ≤ 100000
  o : b.2.2.2.2.2.1.length ≤ 100000
theorem short_nil : Short (([] : List (Ty.den tI2)), (([] : List (Ty.den tI4)), (([] : List (Ty.den tI3)), (([] : List (Ty.den tI3)), (([] : List Int), (([] : List (Ty.den tI6)), ())))))) := ⟨Nat.zero_le _, Nat.zero_le _, Nat.zero_le _, Nat.zero_le _, Nat.zero_le _, Nat.zero_le _⟩
theorem moved_short {b : Ty.den tBook} (w : BookWf b) (s e : List (Ty.den tI3)) : Short (movedOf b s e).1 := by
  unfold movedOf
  cases h1 : coll Fq (fS b.2.2.2.1 s) stockG with
  | none => exact short_nil
  | some s' =>
    cases h2 : coll In64 (fS b.2.2.1 e) rowsG with
    | none => exact short_nil
    | some r' =>
      have g1 := coll_len h1
      have g2 := coll_len h2
      rw [stockG_len] at g1
      rw [rowsG_len] at g2
      exact ⟨w.m, w.a, by show r'.length ≤ _; omega, by show s'.length ≤ _; omega, w.p, w.o⟩
theorem awl_out {b : Ty.den tBook} {l : List (Ty.den tI4)} : ∀ {t : List (Ty.den tLot)} {z z' : AwS}, awl b l t z = some z' → LotWf t → LotWf z.2.2 → z'.2.2.length = z.2.2.length + t.length ∧ LotWf z'.2.2
  | [], z, z', h, _, hz => by
    have : some z = some z' := h
    rw [← Option.some.inj this]; exact ⟨rfl, hz⟩
  | x :: t, z, z', h, ht, hz => by
    have snoc : ∀ (y : Ty.den tLot), y.2.1 = x.2.1 → LotWf (z.2.2 ++ [y]) := fun y e a ha => by
      rcases List.mem_append.1 ha with ha | ha
      · exact hz a ha
      · rw [List.mem_singleton.1 ha, e]; exact ht x (List.mem_cons_self ..)
    have go : ∀ (s e : List (Ty.den tI3)) (y : Ty.den tLot), y.2.1 = x.2.1 → awl b l t (s, e, z.2.2 ++ [y]) = some z' → z'.2.2.length = z.2.2.length + (x :: t).length ∧ LotWf z'.2.2 := fun s e y hy h => by
      have := awl_out h (fun a ha => ht a (List.mem_cons_of_mem _ ha)) (snoc y hy)
      rw [List.length_append, List.length_singleton] at this
      rw [List.length_cons]
      exact ⟨by omega, this.2⟩
    rw [awl_cons] at h
    split at h
    · split at h
      · split at h
        · exact absurd h (by simp)
        · exact go _ _ (soldL x _ _) rfl h
      · exact go _ _ (failL x) rfl h
    · exact go _ _ x rfl h
theorem award_short {c : Ty.den tConfig} {b : Ty.den tBook} {lots : List (Ty.den tLot)} {l : List (Ty.den tI4)} (w : BookWf b) (hl : lots.length ≤ 100000) (hw : LotWf lots) : Short (awardOf c b lots l).1 ∧ (awardOf c b lots l).2.1.length ≤ 100000 ∧ LotWf (awardOf c b lots l).2.1 := by
  have hn : LotWf [] := fun x hx => nomatch hx
  unfold awardOf
  split
  · split
    · split
      · cases h : awl b l lots ([], [], []) with
        | none => exact ⟨short_nil, Nat.zero_le _, hn⟩
        | some z =>
          have ho := awl_out h hw hn
          show Short (if eqI (movedOf b z.1 z.2.1).2 0 then _ else _ : Ty.den tBook × List (Ty.den tLot) × Int).1 ∧ _
          unfold awEnd
          dsimp only
          split
          · refine ⟨moved_short w _ _, ?_, ho.2⟩
            show z.2.2.length ≤ _
            have : ([] : List (Ty.den tLot)).length = 0 := rfl
            have h1 := ho.1
            dsimp only at h1
            omega
          · exact ⟨short_nil, Nat.zero_le _, hn⟩
      · exact ⟨short_nil, Nat.zero_le _, hn⟩
    · exact ⟨short_nil, Nat.zero_le _, hn⟩
  · exact ⟨short_nil, Nat.zero_le _, hn⟩

theorem Told_eq (N : Nat) (hN : 5000000 ≤ N) (c : Ty.den tConfig) {b : Ty.den tBook} {lots : List (Ty.den tLot)} {l : List (Ty.den tI4)} (id : Int) (w : BookWf2 b) (hl : l.length ≤ 100000) (hll : lots.length ≤ 100000) (lw : LotsWf lots) : novationlaw25_told N c b lots l id = some true := by
  unfold novationlaw25_told
  have sh := award_short (c := c) (l := l) w.w hll lw.len
  rw [Award_eq N (by omega) c w hl hll lw, Option.bind_some, rAward_eq N (by omega) c w hl hll lw, Option.bind_some, Best_eq N hl (by omega), Option.bind_some, rBest_eq N hl (by omega), Option.bind_some, eqB_self, cond_true,
    hBook_eq N (by omega) sh.1.m sh.1.a sh.1.r sh.1.s sh.1.p sh.1.o, Option.bind_some, cond_true, SameLots_eq N sh.2.1 sh.2.2 (by omega), Option.bind_some, cond_true, teq_i4, cond_true]
  cases (bestOf l id).2 <;> rfl
end VM
end

section
/- Plain laws: AwardAll, whole. -/
set_option linter.unusedSimpArgs false
namespace VM
open Go VM.F Go.RowKit
set_option linter.unusedVariables false

def firstAt (a b : Int) : List (Ty.den tI3) → Int
  | [] => 0
  | x :: t => if x.1 = a then (if x.2.1 = b then x.2.2.1 else firstAt a b t) else firstAt a b t
theorem firstAt_cons (a b : Int) (x : Ty.den tI3) (t : List (Ty.den tI3)) : firstAt a b (x :: t) = if x.1 = a then (if x.2.1 = b then x.2.2.1 else firstAt a b t) else firstAt a b t := rfl
def heldOf (l : List (Ty.den tI3)) (a b : Int) : Int := if okStock l then firstAt a b l else 0
def getOf (l : List (Ty.den tI3)) (a b : Int) : Int := if okRows l then firstAt a b l else 0
theorem Held_eq (N : Nat) {l : List (Ty.den tI3)} (hl : l.length ≤ 100000) (hN : 200000 ≤ N) (a b : Int) : novationref10_Held N l a b = some (heldOf l a b) := by
  unfold novationref10_Held novationref10_Held.b heldOf
  rw [rStock_eq N hl hN, Option.bind_some, cond_not]
  have := lrec0 l ((0 : Int), ((0 : Int), ((0 : Int), ()))) (fun n i => novationref10_Held.l4 N n l a b i) (fun t => some (firstAt a b t)) (fun n i hi hr => ?_) (fun n => ?_) N (by omega)
  · rw [this]; cases okStock l <;> rfl
  · unfold novationref10_Held.l4 novationref10_Held.l4b
    rw [ltB_t (by omega), cond_true, inb_t (by omega) (by omega), cond_true, cond_true, cond_true, Int.toNat_natCast, W_i64 (x := (i : Int) + 1) (by omega) (by omega), natCast_succ' i, hr, cond_eqB, cond_eqB, firstAt_cons]
    split
    · split <;> rfl
    · rfl
  · unfold novationref10_Held.l4 novationref10_Held.l4b
    rw [ltB_f (by omega), cond_false]; rfl
theorem Get_eq (N : Nat) {l : List (Ty.den tI3)} (hl : l.length ≤ 100000) (hN : 200000 ≤ N) (a b : Int) : novationref10_Get N l a b = some (getOf l a b) := by
  unfold novationref10_Get novationref10_Get.b getOf
  rw [rRows_eq N hl hN, Option.bind_some, cond_not]
  have := lrec0 l ((0 : Int), ((0 : Int), ((0 : Int), ()))) (fun n i => novationref10_Get.l4 N n l a b i) (fun t => some (firstAt a b t)) (fun n i hi hr => ?_) (fun n => ?_) N (by omega)
  · rw [this]; cases okRows l <;> rfl
  · unfold novationref10_Get.l4 novationref10_Get.l4b
    rw [ltB_t (by omega), cond_true, inb_t (by omega) (by omega), cond_true, cond_true, cond_true, Int.toNat_natCast, W_i64 (x := (i : Int) + 1) (by omega) (by omega), natCast_succ' i, hr, cond_eqB, cond_eqB, firstAt_cons]
    split
    · split <;> rfl
    · rfl
  · unfold novationref10_Get.l4 novationref10_Get.l4b
    rw [ltB_f (by omega), cond_false]; rfl

def kC : Ty.den tConfig := ([((0 : Int), ((100 : Int), ((0 : Int), ((0 : Int), ()))))], ((0 : Int), ((0 : Int), ((0 : Int), ((0 : Int), ((1 : Int), ((0 : Int), ())))))))
def kS : List (Ty.den tI3) := [((0 : Int), ((0 : Int), ((5 : Int), ()))), ((2 : Int), ((0 : Int), ((-5 : Int), ())))]
def kM : List (Ty.den tI2) := [((1 : Int), ((1 : Int), ())), ((2 : Int), ((1 : Int), ()))]
def kA : List (Ty.den tI4) := [((1 : Int), ((1 : Int), ((1 : Int), ((0 : Int), ())))), ((2 : Int), ((2 : Int), ((1 : Int), ((0 : Int), ()))))]
def kB : Ty.den tBook := (kM, (kA, (([] : List ((Int) × ((Int) × ((Int) × (Unit))))), (kS, ([(100 : Int)], (([] : List ((Int) × ((Int) × ((Int) × ((Int) × ((Int) × ((Int) × (Unit)))))))), ()))))))
def kL : List (Ty.den tLot) := [((3 : Int), ([((0 : Int), ((3 : Int), ()))], ((0 : Int), ((1 : Int), ((0 : Int), ((0 : Int), ())))))), ((4 : Int), ([((0 : Int), ((2 : Int), ()))], ((0 : Int), ((1 : Int), ((0 : Int), ((0 : Int), ()))))))]
def kD : List (Ty.den tI4) := [((1 : Int), ((3 : Int), ((1 : Int), ((5 : Int), ())))), ((2 : Int), ((3 : Int), ((2 : Int), ((5 : Int), ()))))]
def kE : Ty.den tBook × List (Ty.den tLot) × Int :=
  ((kM, (kA, ([((2 : Int), ((0 : Int), ((5 : Int), ()))), ((5 : Int), ((1 : Int), ((-5 : Int), ())))], ([((0 : Int), ((0 : Int), ((2 : Int), ()))), ((1 : Int), ((0 : Int), ((3 : Int), ()))), ((2 : Int), ((0 : Int), ((-5 : Int), ())))], ([(100 : Int)], (([] : List ((Int) × ((Int) × ((Int) × ((Int) × ((Int) × ((Int) × (Unit)))))))), ())))))),
   ([((3 : Int), ([((0 : Int), ((3 : Int), ()))], ((0 : Int), ((2 : Int), ((1 : Int), ((5 : Int), ())))))), ((4 : Int), ([((0 : Int), ((2 : Int), ()))], ((0 : Int), ((3 : Int), ((0 : Int), ((0 : Int), ()))))))], 0))
theorem kE_eq : awardOf kC kB kL kD = kE := by kernel_rfl
theorem kB1 : bestOf kD 3 = (((1 : Int), ((3 : Int), ((1 : Int), ((5 : Int), ())))), true) := by decide +kernel
theorem kB2 : bestOf kD 4 = (((0 : Int), ((0 : Int), ((0 : Int), ((0 : Int), ())))), false) := by decide +kernel
theorem mem_q64 {l : List (Ty.den tI3)} (h : ∀ i, i < l.length → In64 (qty (l.getD i ((0 : Int), ((0 : Int), ((0 : Int), ())))))) : Qty64 l := fun x hx => by
  obtain ⟨i, hi, e⟩ := List.getElem_of_mem hx
  have := h i hi
  rw [List.getD_eq_getElem?_getD, List.getElem?_eq_getElem hi] at this
  rw [← e]; exact this
theorem kW : BookWf2 kB := ⟨⟨by decide, by decide, by decide, by decide, by decide, by decide, fun x hx => (nomatch hx), mem_q64 (l := kS) (by decide)⟩, by decide, by decide⟩
theorem kLW : LotsWf kL := ⟨fun x hx => by
    have : x.2.1.length = 1 := by
      rcases List.mem_cons.1 hx with rfl | hx
      · rfl
      · rw [List.mem_singleton.1 hx]; rfl
    omega, fun x hx y hy => by
    rcases List.mem_cons.1 hx with rfl | hx
    · rw [List.mem_singleton.1 hy]; exact ⟨by decide, by decide⟩
    · rw [List.mem_singleton.1 hx] at hy
      rw [List.mem_singleton.1 hy]; exact ⟨by decide, by decide⟩⟩
theorem kHeld1 : heldOf kE.1.2.2.2.1 1 0 = 3 := by decide +kernel
theorem kHeld0 : heldOf kE.1.2.2.2.1 0 0 = 2 := by decide +kernel
theorem kGet2 : getOf kE.1.2.2.1 2 0 = 5 := by decide +kernel
theorem kGet5 : getOf kE.1.2.2.1 5 1 = -5 := by decide +kernel
theorem aknown_eq (N : Nat) (hN : 5000000 ≤ N) : novationlaw25_known N = some true := by
  unfold novationlaw25_known novationlaw25_small
  rw [Option.bind_some]
  show (award_Best N kD 3).bind _ = _
  rw [Best_eq N (by decide) (by omega), Option.bind_some, kB1]
  show (award_Best N kD 4).bind _ = _
  rw [Best_eq N (by decide) (by omega), Option.bind_some, kB2]
  show (award_Award N kC kB kL kD).bind _ = _
  rw [Award_eq N (by omega) kC kW (by decide) (by decide) kLW, Option.bind_some, kE_eq]
  have h1 : novationref10_Held N kE.1.2.2.2.1 1 0 = some 3 := by rw [Held_eq N (by decide) (by omega), kHeld1]
  have h2 : novationref10_Held N kE.1.2.2.2.1 0 0 = some 2 := by rw [Held_eq N (by decide) (by omega), kHeld0]
  have h3 : novationref10_Get N kE.1.2.2.1 2 0 = some 5 := by rw [Get_eq N (by decide) (by omega), kGet2]
  have h4 : novationref10_Get N kE.1.2.2.1 5 1 = some (-5) := by rw [Get_eq N (by decide) (by omega), kGet5]
  rw [h1, h2, h3, h4]
  simp only [Option.bind_some, eqB_self]
  have e1 : eqB kE.2.2 0 = true := eqB_t rfl
  have e2 : eqB (kE.2.1.length : Int) 2 = true := eqB_t rfl
  have e3 : inb 0 kE.2.1.length = true := inb_t (by decide) (by decide)
  have e4 : inb 1 kE.2.1.length = true := inb_t (by decide) (by decide)
  have e5 : eqB (kE.2.1.getD (0 : Int).toNat ((0 : Int), (([] : List ((Int) × ((Int) × (Unit)))), ((0 : Int), ((0 : Int), ((0 : Int), ((0 : Int), ()))))))).2.2.2.1 2 = true := eqB_t rfl
  have e6 : eqB (kE.2.1.getD (0 : Int).toNat ((0 : Int), (([] : List ((Int) × ((Int) × (Unit)))), ((0 : Int), ((0 : Int), ((0 : Int), ((0 : Int), ()))))))).2.2.2.2.1 1 = true := eqB_t rfl
  have e7 : eqB (kE.2.1.getD (0 : Int).toNat ((0 : Int), (([] : List ((Int) × ((Int) × (Unit)))), ((0 : Int), ((0 : Int), ((0 : Int), ((0 : Int), ()))))))).2.2.2.2.2.1 5 = true := eqB_t rfl
  have e8 : eqB (kE.2.1.getD (1 : Int).toNat ((0 : Int), (([] : List ((Int) × ((Int) × (Unit)))), ((0 : Int), ((0 : Int), ((0 : Int), ((0 : Int), ()))))))).2.2.2.1 3 = true := eqB_t rfl
  simp only [e1, e2, e3, e4, e5, e6, e7, e8, cond_true, Bool.not_false]

theorem i64_of {x : Int} (h : (Lit.int .i64 x).wf = true) : In64 x := by
  have := wf_i64.1 h
  unfold In64; omega
theorem qty_wf {l : List (Ty.den tI3)} (h : WF (.slice tI3) l) : Qty64 l := fun x hx => by
  obtain ⟨i, hi, rfl⟩ := List.getElem_of_mem hx
  have h3 := h.2 i hi
  exact i64_of h3.2.2.1
theorem legs_wf {l : List (Ty.den tLot)} (h : WF (.slice tLot) l) : ∀ x ∈ l, ∀ y ∈ x.2.1, In64 y.2.1 := fun x hx y hy => by
  obtain ⟨i, hi, rfl⟩ := List.getElem_of_mem hx
  have h3 : WF (.slice tI2) l[i].2.1 := (h.2 i hi).2.1
  obtain ⟨j, hj, rfl⟩ := List.getElem_of_mem hy
  exact i64_of (h3.2 j hj).2.1

namespace Pure
theorem AwardAll (c : Ty.den tConfig) (b : Ty.den tBook) (lots : List (Ty.den tLot)) (l : List (Ty.den tI4)) (id : Int) (h : WFs [tConfig, tBook, .slice tLot, .slice tI4, .int .i64] (c, b, lots, l, id)) : ∃ N, novationlaw25_AwardAll N c b lots l id = some true := by
  refine ⟨6000000, ?_⟩
  obtain ⟨_, h2, h3, _⟩ := h
  have h2 : WF tBook b := h2
  have h3 : WF (.slice tLot) lots := h3
  have hr : Qty64 b.2.2.1 := qty_wf h2.2.2.1
  have hs : Qty64 b.2.2.2.1 := qty_wf h2.2.2.2.1
  have hg := legs_wf h3
  unfold novationlaw25_AwardAll novationlaw25_AwardAll.b
  rw [aknown_eq 6000000 (by omega), Option.bind_some, Bool.not_true, cond_false]
  simp only [cond_ltB]
  repeat' (split; rfl)
  have key : (∀ i, i < lots.length → (lots.getD i ((0 : Int), (([] : List ((Int) × ((Int) × (Unit)))), ((0 : Int), ((0 : Int), ((0 : Int), ((0 : Int), ()))))))).2.1.length ≤ 12) → novationlaw25_told 6000000 c b lots l id = some true := fun hw =>
    Told_eq 6000000 (by omega) c id ⟨⟨by omega, by omega, by omega, by omega, by omega, by omega, hr, hs⟩, by omega, by omega⟩ (by omega) (by omega) ⟨fun x hx => by
      obtain ⟨i, hi, rfl⟩ := List.getElem_of_mem hx
      have := hw i hi
      rw [List.getD_eq_getElem?_getD, List.getElem?_eq_getElem hi] at this
      exact Nat.le_trans this (by omega), hg⟩
  have loop : ∀ (m n i : Nat), lots.length - i ≤ m → m < n → i ≤ lots.length → (∀ j, j < i → (lots.getD j ((0 : Int), (([] : List ((Int) × ((Int) × (Unit)))), ((0 : Int), ((0 : Int), ((0 : Int), ((0 : Int), ()))))))).2.1.length ≤ 12) → novationlaw25_AwardAll.l6 6000000 n lots l id c b (i : Int) = some true := by
    intro m n
    induction n generalizing m with
    | zero => intro i _ hn; omega
    | succ n ih =>
      intro i hm hn hi hw
      unfold novationlaw25_AwardAll.l6 novationlaw25_AwardAll.l6b
      by_cases h : i < lots.length
      · rw [ltB_t (by omega), cond_true, inb_t (by omega) (by omega), cond_true, Int.toNat_natCast, cond_ltB, W_i64 (x := (i : Int) + 1) (by omega) (by omega), natCast_succ' i]
        split
        · rfl
        · rename_i h12
          exact ih (m - 1) (i + 1) (by omega) (by omega) (by omega) fun j hj => by
            by_cases e : j = i
            · rw [e]; omega
            · exact hw j (by omega)
      · rw [ltB_f (by omega), cond_false, key (fun j hj => hw j (by omega))]; rfl
  exact loop lots.length 6000000 0 (by omega) (by omega) (by omega) (fun j hj => absurd hj (by omega))
end Pure
end VM
end

