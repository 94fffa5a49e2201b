/- A part of the proof of TearAll, of layer 29: what the functions compute, in plain words. -/
import Derived.Test.YtnkhdmeoclffaaaGreatPlain2
import Derived.Test.YtnkhdmeoclffaaaGreatVm6
import Derived.Test.YtnkhdmeoclffaaaGreatPlain1
import Derived.Test.YtnkhdmeoclffaaaGreatPlain0
set_option linter.all false
section
/- Plain laws: novationref10.Shifted. -/
set_option linter.unusedSimpArgs false
namespace VM
open Go VM.F
set_option linter.unusedVariables false

def rowG (a b : Nat) : Nat → List Key2
  | 0 => []
  | m + 1 => ((a : Int), (b : Int)) :: rowG a (b + 1) m
def gridG (w a : Nat) : Nat → List Key2
  | 0 => []
  | m + 1 => rowG a 0 w ++ gridG w (a + 1) m
theorem mem_rowG {k : Key2} {a : Nat} : ∀ {m b : Nat}, k ∈ rowG a b m ↔ k.1 = a ∧ (b : Int) ≤ k.2 ∧ k.2 < (b + m : Nat)
  | 0, b => ⟨fun h => (nomatch h), fun h => by omega⟩
  | m + 1, b => by
    show k ∈ ((a : Int), (b : Int)) :: rowG a (b + 1) m ↔ _
    rw [List.mem_cons, mem_rowG]
    have : k = ((a : Int), (b : Int)) ↔ k.1 = a ∧ k.2 = b := ⟨fun h => h ▸ ⟨rfl, rfl⟩, fun h => Prod.ext h.1 h.2⟩
    rw [this]
    omega
theorem mem_gridG {k : Key2} {w : Nat} : ∀ {m a : Nat}, k ∈ gridG w a m ↔ (a : Int) ≤ k.1 ∧ k.1 < (a + m : Nat) ∧ 0 ≤ k.2 ∧ k.2 < w
  | 0, a => ⟨fun h => (nomatch h), fun h => by omega⟩
  | m + 1, a => by
    show k ∈ rowG a 0 w ++ gridG w (a + 1) m ↔ _
    rw [List.mem_append, mem_rowG, mem_gridG]
    omega
theorem srt_rowG (a : Nat) : ∀ (m b : Nat), Srt (rowG a b m)
  | 0, b => List.Pairwise.nil
  | m + 1, b => List.pairwise_cons.2 ⟨fun k hk => by
    have := mem_rowG.1 hk
    show (a : Int) < k.1 ∨ ((a : Int) = k.1 ∧ (b : Int) < k.2)
    omega, srt_rowG a m (b + 1)⟩
theorem srt_gridG (w : Nat) : ∀ (m a : Nat), Srt (gridG w a m)
  | 0, a => List.Pairwise.nil
  | m + 1, a => List.pairwise_append.2 ⟨srt_rowG a w 0, srt_gridG w m (a + 1), fun x hx y hy => by
    have h1 := mem_rowG.1 hx
    have h2 := mem_gridG.1 hy
    show x.1 < y.1 ∨ (x.1 = y.1 ∧ x.2 < y.2)
    omega⟩

/-- A place in sorted rows, on the way through the grid. -/
structure Mark (l : List (Ty.den tI3)) (a b p : Nat) : Prop where
  le : p ≤ l.length
  lo : ∀ x ∈ l.take p, kLt (keyOf x) ((a : Int), (b : Int))
  hi : ∀ x ∈ l.drop p, ¬ kLt (keyOf x) ((a : Int), (b : Int))
theorem kLt_next {k : Key2} {a b : Nat} : kLt k ((a : Int), ((b + 1 : Nat) : Int)) ↔ kLt k ((a : Int), (b : Int)) ∨ k = ((a : Int), (b : Int)) := by
  have : k = ((a : Int), (b : Int)) ↔ k.1 = a ∧ k.2 = b := ⟨fun h => h ▸ ⟨rfl, rfl⟩, fun h => Prod.ext h.1 h.2⟩
  rw [this]
  show (k.1 < (a : Int) ∨ (k.1 = (a : Int) ∧ k.2 < ((b + 1 : Nat) : Int))) ↔ (k.1 < (a : Int) ∨ (k.1 = (a : Int) ∧ k.2 < (b : Int))) ∨ _
  omega
theorem Mark.row {l : List (Ty.den tI3)} {a w p : Nat} (h : Mark l a w p) (hw : ∀ x ∈ l, 0 ≤ (keyOf x).2 ∧ (keyOf x).2 < w) : Mark l (a + 1) 0 p := by
  have key : ∀ x ∈ l, (kLt (keyOf x) ((a : Int), (w : Int)) ↔ kLt (keyOf x) (((a + 1 : Nat) : Int), ((0 : Nat) : Int))) := fun x hx => by
    have := hw x hx
    show ((keyOf x).1 < (a : Int) ∨ ((keyOf x).1 = (a : Int) ∧ (keyOf x).2 < (w : Int))) ↔ ((keyOf x).1 < ((a + 1 : Nat) : Int) ∨ ((keyOf x).1 = ((a + 1 : Nat) : Int) ∧ (keyOf x).2 < ((0 : Nat) : Int)))
    omega
  exact ⟨h.le, fun x hx => (key x (List.mem_of_mem_take hx)).1 (h.lo x hx), fun x hx k => h.hi x hx ((key x (List.mem_of_mem_drop hx)).2 k)⟩
theorem sumAt_append (a b : Int) (l m : List (Ty.den tI3)) : sumAt a b (l ++ m) = sumAt a b l + sumAt a b m := by
  induction l with
  | nil => rw [List.nil_append, sumAt_nil]; omega
  | cons x t ih => rw [List.cons_append, sumAt_cons, sumAt_cons, ih]; omega
theorem Mark.step {l : List (Ty.den tI3)} (hs : Srt (l.map keyOf)) {a b p : Nat} (h : Mark l a b p) :
    (p < l.length ∧ (l.getD p ((0 : Int), ((0 : Int), ((0 : Int), ())))).1 = (a : Int) ∧ (l.getD p ((0 : Int), ((0 : Int), ((0 : Int), ())))).2.1 = (b : Int) ∧ sumAt (a : Int) (b : Int) l = qty (l.getD p ((0 : Int), ((0 : Int), ((0 : Int), ())))) ∧ Mark l a (b + 1) (p + 1)) ∨
    ((p < l.length → (l.getD p ((0 : Int), ((0 : Int), ((0 : Int), ())))).1 = (a : Int) → (l.getD p ((0 : Int), ((0 : Int), ((0 : Int), ())))).2.1 = (b : Int) → False) ∧ sumAt (a : Int) (b : Int) l = 0 ∧ Mark l a (b + 1) p) := by
  have no : ∀ {x : Ty.den tI3} {k : Key2}, ¬ keyOf x = k → ¬ (x.1 = k.1 ∧ x.2.1 = k.2) := fun h e => h (Prod.ext e.1 e.2)
  have hz : sumAt (a : Int) (b : Int) (l.take p) = 0 := sumAt_zero fun x hx e => by
    have e' : keyOf x = ((a : Int), (b : Int)) := Prod.ext e.1 e.2
    have := h.lo x hx
    rw [e'] at this
    exact kLt_irr this
  have hsum : sumAt (a : Int) (b : Int) l = sumAt (a : Int) (b : Int) (l.drop p) := by
    conv => lhs; rw [← List.take_append_drop p l]
    rw [sumAt_append, hz]; omega
  by_cases hp : p < l.length
  · have hd := drop_cons hp ((0 : Int), ((0 : Int), ((0 : Int), ())))
    have hsd : Srt ((l.drop p).map keyOf) := by
      rw [List.map_drop]; exact List.Pairwise.sublist (List.drop_sublist ..) hs
    have hhi := h.hi
    rw [hd] at hsd hhi hsum
    have hgt := (List.pairwise_cons.1 hsd).1
    have hx0 := hhi _ (List.mem_cons_self ..)
    have htake : l.take (p + 1) = l.take p ++ [l.getD p ((0 : Int), ((0 : Int), ((0 : Int), ())))] := by
      rw [← List.take_append_getElem hp, List.getD_eq_getElem?_getD, List.getElem?_eq_getElem hp]; rfl
    by_cases he : keyOf (l.getD p ((0 : Int), ((0 : Int), ((0 : Int), ())))) = ((a : Int), (b : Int))
    · refine Or.inl ⟨hp, congrArg Prod.fst he, congrArg Prod.snd he, ?_, by omega, fun x hx => ?_, fun x hx hk => ?_⟩
      · rw [hsum, sumAt_cons, if_pos ⟨congrArg Prod.fst he, congrArg Prod.snd he⟩, sumAt_zero fun x hx e => ?_]
        · omega
        · have hg := hgt (keyOf x) (List.mem_map_of_mem hx)
          have e' : keyOf x = ((a : Int), (b : Int)) := Prod.ext e.1 e.2
          rw [he, e'] at hg
          exact kLt_irr hg
      · rw [htake] at hx
        rcases List.mem_append.1 hx with hx | hx
        · exact kLt_next.2 (Or.inl (h.lo x hx))
        · rw [List.mem_singleton.1 hx]; exact kLt_next.2 (Or.inr he)
      · have hg := hgt (keyOf x) (List.mem_map_of_mem hx)
        rw [he] at hg
        rcases kLt_next.1 hk with hk | hk
        · exact kLt_asymm hg hk
        · rw [hk] at hg; exact kLt_irr hg
    · have hall : ∀ x ∈ l.getD p ((0 : Int), ((0 : Int), ((0 : Int), ()))) :: l.drop (p + 1), keyOf x ≠ ((a : Int), (b : Int)) := fun x hx e => by
        rcases List.mem_cons.1 hx with rfl | hx
        · exact he e
        · have hg := hgt (keyOf x) (List.mem_map_of_mem hx)
          rw [e] at hg
          exact hx0 hg
      refine Or.inr ⟨fun _ e1 e2 => he (Prod.ext e1 e2), ?_, h.le, fun x hx => kLt_next.2 (Or.inl (h.lo x hx)), fun x hx hk => ?_⟩
      · rw [hsum]
        exact sumAt_zero fun x hx => no (hall x hx)
      · rw [hd] at hx
        rcases kLt_next.1 hk with hk | hk
        · exact hhi x hx hk
        · exact hall x hx hk
  · have hd : l.drop p = [] := List.drop_eq_nil_of_le (by omega)
    refine Or.inr ⟨fun h => absurd h hp, by rw [hsum, hd]; rfl, h.le, fun x hx => kLt_next.2 (Or.inl (h.lo x hx)), fun x hx => ?_⟩
    rw [hd] at hx; nomatch hx

def outB (out : List (Ty.den tI3)) (r : Option (List (Ty.den tI3))) : Option (List (Ty.den tI3) × Bool) := some (match r with | some o => (out ++ o, true) | none => ([], false))

theorem rQuantity_eq (N : Nat) (v : Int) : novationref1_Quantity N (bigN v) = some (if Fq v then (v, true) else (0, false)) := by
  unfold novationref1_Quantity
  rw [Int_eq, Option.bind_some]
  by_cases h : In64 v
  · rw [toI_pos h]
    dsimp only
    rw [Bool.not_true, cond_false, cond_eqB]
    by_cases h2 : okQ v
    · rw [if_neg (show ¬ v = -9223372036854775808 from h2), if_pos (show Fq v from ⟨h, h2⟩)]
    · rw [if_pos (show v = -9223372036854775808 by unfold okQ at h2; omega), if_neg (fun h => h2 h.2)]
  · rw [toI_neg h, if_neg (fun k => h k.1)]
    rfl

theorem shift_in (N : Nat) (hN : 4000000 ≤ N) (C4 : novationref10_Shifted.t_l4) (C7 : novationref10_Shifted.t_l7) {l E out : List (Ty.den tI3)} (hq : Qty64 E) (hl : E.length ≤ 100000) (ho : out.length ≤ 1000000) (p : Int) (a b : Nat) (hb : b ≤ 1000000) (q : Int) (hF : Fq q) :
    novationref10_Shifted.l15 N C4 C7 N l E out p (a : Int) (b : Int) q false (false, (([] : List Int), ())) 0 =
      if Fq (q + sumAt (a : Int) (b : Int) E) then C7 l E (if q + sumAt (a : Int) (b : Int) E = 0 then out else out ++ [((a : Int), ((b : Int), (q + sumAt (a : Int) (b : Int) E, ())))]) p (a : Int) ((b + 1 : Nat) : Int) else some ([], false) := by
  have := lrec E ((0 : Int), ((0 : Int), ((0 : Int), ()))) (fun n j ws => novationref10_Shifted.l15 N C4 C7 n l E out p (a : Int) (b : Int) q (!ws.isEmpty) (bigN ws.sum) j)
    (fun t ws => if Fq (q + (ws ++ valsAt (a : Int) (b : Int) t).sum) then C7 l E (if q + (ws ++ valsAt (a : Int) (b : Int) t).sum = 0 then out else out ++ [((a : Int), ((b : Int), (q + (ws ++ valsAt (a : Int) (b : Int) t).sum, ())))]) p (a : Int) ((b + 1 : Nat) : Int) else some ([], false))
    (fun j (ws : List Int) => ws.length ≤ j ∧ ∀ x ∈ ws, In64 x)
    (fun n j ws hj hI hr' => ?_) (fun n ws hI => ?_) E.length N 0 [] (by omega) (by omega) (by omega) ⟨Nat.le_refl _, fun x hx => nomatch hx⟩
  · rw [show ((0 : Nat) : Int) = 0 from rfl, List.drop_zero, List.sum_nil, bigN_zero] at this
    exact this
  · unfold novationref10_Shifted.l15 novationref10_Shifted.l15b
    have h64 := qty_at hq j
    have h64' := h64
    unfold In64 qty at h64'
    have hb := sum64 hI.2
    rw [ltB_t (by omega), cond_true, inb_t (by omega) (by omega), cond_true, cond_true, cond_true, Int.toNat_natCast, Whole_eq N (by omega) h64'.1 h64'.2, Option.bind_some, Plus_eq N (by omega) ((fit_sum (n := ws.length) (by omega) hb.1 hb.2).mono (by omega)) ((Fit.i64 h64'.1 h64'.2).mono (by omega)), Option.bind_some, W_i64 (x := (j : Int) + 1) (by omega) (by omega), natCast_succ' j, cond_eqB, cond_eqB]
    by_cases h1 : (E.getD j ((0 : Int), ((0 : Int), ((0 : Int), ())))).1 = (a : Int)
    · by_cases h2 : (E.getD j ((0 : Int), ((0 : Int), ((0 : Int), ())))).2.1 = (b : Int)
      · have hc : valsAt (a : Int) (b : Int) (E.getD j ((0 : Int), ((0 : Int), ((0 : Int), ()))) :: E.drop (j + 1)) = qty (E.getD j ((0 : Int), ((0 : Int), ((0 : Int), ())))) :: valsAt (a : Int) (b : Int) (E.drop (j + 1)) := by rw [valsAt_cons, if_pos ⟨h1, h2⟩]
        rw [if_pos h1, if_pos h2, hc]
        have := hr' (ws ++ [qty (E.getD j ((0 : Int), ((0 : Int), ((0 : Int), ()))))]) ⟨by rw [List.length_append, List.length_singleton]; omega, in64_snoc hI.2 h64⟩
        rw [List.sum_append, List.sum_cons, List.sum_nil, Int.add_zero, List.append_assoc] at this
        refine Eq.trans ?_ this
        rw [show (!(ws ++ [qty (E.getD j ((0 : Int), ((0 : Int), ((0 : Int), ()))))]).isEmpty) = true by cases ws <;> rfl]
        rfl
      · have hc : valsAt (a : Int) (b : Int) (E.getD j ((0 : Int), ((0 : Int), ((0 : Int), ()))) :: E.drop (j + 1)) = valsAt (a : Int) (b : Int) (E.drop (j + 1)) := by rw [valsAt_cons, if_neg (fun h => h2 h.2)]
        rw [if_pos h1, if_neg h2, hc]
        exact hr' ws ⟨by omega, hI.2⟩
    · have hc : valsAt (a : Int) (b : Int) (E.getD j ((0 : Int), ((0 : Int), ((0 : Int), ()))) :: E.drop (j + 1)) = valsAt (a : Int) (b : Int) (E.drop (j + 1)) := by rw [valsAt_cons, if_neg (fun h => h1 h.1)]
      rw [if_neg h1, hc]
      exact hr' ws ⟨by omega, hI.2⟩
  · unfold novationref10_Shifted.l15 novationref10_Shifted.l15b
    have hs := sum64 hI.2
    have hF' := hF.1
    unfold In64 at hF'
    rw [ltB_f (by omega), cond_false, Whole_eq N (by omega) hF'.1 hF'.2, Option.bind_some, Plus_eq N (by omega) ((fit_sum (n := ws.length) (by omega) hs.1 hs.2).mono (by omega)) ((Fit.i64 hF'.1 hF'.2).mono (by omega)), Option.bind_some, rQuantity_eq, Option.bind_some, W_i64 (x := (b : Int) + 1) (by omega) (by omega), natCast_succ' b, small_t (by rw [List.length_singleton]; omega), cond_true, small_t (by rw [List.length_singleton]; omega), cond_true, cond_not]
    show _ = if Fq (q + (ws ++ []).sum) then C7 l E (if q + (ws ++ []).sum = 0 then out else out ++ [((a : Int), ((b : Int), (q + (ws ++ []).sum, ())))]) p (a : Int) ((b + 1 : Nat) : Int) else some ([], false)
    rw [List.append_nil, Int.add_comm ws.sum q]
    cases ws with
    | nil =>
      show cond (!eqB q 0) _ _ = _
      rw [cond_not, cond_eqB, List.sum_nil, Int.add_zero, if_pos hF]
      by_cases h : q = 0
      · rw [if_pos h, if_pos h]
      · rw [if_neg h, if_neg h]
    | cons w ws =>
      show cond (!(if Fq (q + (w :: ws).sum) then (q + (w :: ws).sum, true) else (0, false)).2) _ _ = _
      by_cases h2 : Fq (q + (w :: ws).sum)
      · rw [if_pos h2, if_pos h2]
        dsimp only
        rw [Bool.not_true, cond_false, cond_not, cond_eqB]
        by_cases h : q + (w :: ws).sum = 0
        · rw [if_pos h, if_pos h]
        · rw [if_neg h, if_neg h]
      · rw [if_neg h2, if_neg h2]; rfl
end VM
end

section
/- Plain laws: novationref10.Shifted, whole; stock.Post and Shifted are one. -/
set_option linter.unusedSimpArgs false
namespace VM
open Go VM.F
set_option linter.unusedVariables false

theorem outB_next {P : Int → Prop} [DecidablePred P] {f : Int → Int → Int} {k : Key2} {K : List Key2} {out : List (Ty.den tI3)} {v : Int} (hv : f k.1 k.2 = v) :
    (if P v then outB (if v = 0 then out else out ++ [(k.1, (k.2, (v, ())))]) (coll P f K) else some ([], false)) = outB out (coll P f (k :: K)) := by
  rw [coll_cons, hv]
  by_cases h : P v
  · rw [if_pos h, if_pos h]
    cases coll P f K with
    | none => rfl
    | some o =>
      show some ((if v = 0 then out else out ++ [(k.1, (k.2, (v, ())))]) ++ o, true) = some (out ++ (if v = 0 then o else (k.1, (k.2, (v, ()))) :: o), true)
      by_cases h0 : v = 0
      · rw [if_pos h0, if_pos h0]
      · rw [if_neg h0, if_neg h0, List.append_assoc]; rfl
  · rw [if_neg h, if_neg h]; rfl

theorem fq_at {l : List (Ty.den tI3)} (hs : Srt (l.map keyOf)) (hl : ∀ x ∈ l, Fq (qty x)) (k : Key2) : Fq (sumAt k.1 k.2 l) := by
  by_cases hk : k ∈ l.map keyOf
  · have hm : rowK l k ∈ rowsOf l (l.map keyOf) := List.mem_map_of_mem hk
    rw [rowsOf_self hs] at hm
    exact hl (rowK l k) hm
  · rw [sumAt_nokey hk]; exact ⟨⟨by decide, by decide⟩, by decide⟩

theorem shift_row (N : Nat) (hN : 4000000 ≤ N) (C : novationref10_Shifted.t_l4) {l E : List (Ty.den tI3)} (hq : Qty64 E) (hl : E.length ≤ 100000) (hs : Srt (l.map keyOf)) (hll : l.length ≤ 100000) (hf : ∀ x ∈ l, Fq (qty x)) (hw : ∀ x ∈ l, 0 ≤ (keyOf x).2 ∧ (keyOf x).2 < (6 : Nat)) (a : Nat) (ha : a ≤ 24) (G : List Key2)
    (hc : ∀ (p : Nat) (out : List (Ty.den tI3)), Mark l (a + 1) 0 p → out.length ≤ 6 * (a + 1) → C l E out (p : Int) ((a + 1 : Nat) : Int) = outB out (coll Fq (fS l E) G)) :
    ∀ (m n b p : Nat) (out : List (Ty.den tI3)), b + m = 6 → m < n → Mark l a b p → out.length ≤ 6 * a + b → novationref10_Shifted.l7 N C n l E out (p : Int) (a : Int) (b : Int) = outB out (coll Fq (fS l E) (rowG a b m ++ G))
  | m, 0, b, p, out, _, hn, _, _ => by omega
  | 0, n + 1, b, p, out, hb, _, hM, ho => by
    have e : b = 6 := by omega
    subst e
    unfold novationref10_Shifted.l7 novationref10_Shifted.l7b
    rw [ltB_f (by omega), cond_false, W_i64 (x := (a : Int) + 1) (by omega) (by omega), natCast_succ' a]
    exact hc p out (hM.row hw) (by omega)
  | m + 1, n + 1, b, p, out, hb, hn, hM, ho => by
    have hp := hM.le
    have rec' : ∀ (p : Nat) (v : Int), Mark l a (b + 1) p → novationref10_Shifted.l7 N C n l E (if v = 0 then out else out ++ [((a : Int), ((b : Int), (v, ())))]) (p : Int) (a : Int) ((b + 1 : Nat) : Int) = outB (if v = 0 then out else out ++ [((a : Int), ((b : Int), (v, ())))]) (coll Fq (fS l E) (rowG a (b + 1) m ++ G)) := fun p v h =>
      shift_row N hN C hq hl hs hll hf hw a ha G hc m n (b + 1) p _ (by omega) (by omega) h (by
        split
        · omega
        · rw [List.length_append, List.length_singleton]; omega)
    have hq0 := fq_at hs hf ((a : Int), (b : Int))
    unfold novationref10_Shifted.l7 novationref10_Shifted.l7b novationref10_Shifted.j13 novationref10_Shifted.j13b
    show _ = outB out (coll Fq (fS l E) (((a : Int), (b : Int)) :: (rowG a (b + 1) m ++ G)))
    rw [ltB_t (x := (b : Int)) (by omega), cond_true, cond_ltB, cond_eqB, cond_eqB, Int.toNat_natCast]
    have fin : ∀ (p : Nat) (q : Int), q = sumAt (a : Int) (b : Int) l → Mark l a (b + 1) p → novationref10_Shifted.l15 N C (novationref10_Shifted.l7 N C n) N l E out (p : Int) (a : Int) (b : Int) q false (false, (([] : List Int), ())) 0 = outB out (coll Fq (fS l E) (((a : Int), (b : Int)) :: (rowG a (b + 1) m ++ G))) := fun p q e h => by
      subst e
      rw [shift_in N hN C _ hq hl (by omega) (p : Int) a b (by omega) _ hq0, rec' p _ h]
      exact outB_next (k := ((a : Int), (b : Int))) rfl
    rcases hM.step hs with ⟨h1, h2, h3, h4, h5⟩ | ⟨h1, h2, h3⟩
    · rw [if_pos (show (p : Int) < (l.length : Int) by omega), inb_t (by omega) (by omega), cond_true, cond_true, if_pos h2, if_pos h3, W_i64 (x := (p : Int) + 1) (by omega) (by omega), natCast_succ' p, cond_true]
      exact fin (p + 1) _ h4.symm h5
    · by_cases g1 : p < l.length
      · rw [if_pos (show (p : Int) < (l.length : Int) by omega), inb_t (by omega) (by omega), cond_true, cond_true]
        by_cases g2 : (l.getD p ((0 : Int), ((0 : Int), ((0 : Int), ())))).1 = (a : Int)
        · rw [if_pos g2, if_neg (fun g3 => h1 g1 g2 g3)]
          exact fin p _ h2.symm h3
        · rw [if_neg g2]
          exact fin p _ h2.symm h3
      · rw [if_neg (show ¬ (p : Int) < (l.length : Int) by omega)]
        exact fin p _ h2.symm h3

theorem shift_all (N : Nat) (hN : 4000000 ≤ N) {l E : List (Ty.den tI3)} (hq : Qty64 E) (hl : E.length ≤ 100000) (hs : Srt (l.map keyOf)) (hll : l.length ≤ 100000) (hf : ∀ x ∈ l, Fq (qty x)) (hw : ∀ x ∈ l, 0 ≤ (keyOf x).2 ∧ (keyOf x).2 < (6 : Nat)) :
    ∀ (m n a p : Nat) (out : List (Ty.den tI3)), a + m = 25 → m < n → Mark l a 0 p → out.length ≤ 6 * a → novationref10_Shifted.l4 N n l E out (p : Int) (a : Int) = outB out (coll Fq (fS l E) (gridG 6 a m))
  | m, 0, a, p, out, _, hn, _, _ => by omega
  | 0, n + 1, a, p, out, ha, _, hM, ho => by
    unfold novationref10_Shifted.l4 novationref10_Shifted.l4b
    rw [leB_f (by omega), cond_false]
    show some (out, true) = some (out ++ [], true)
    rw [List.append_nil]
  | m + 1, n + 1, a, p, out, ha, hn, hM, ho => by
    unfold novationref10_Shifted.l4 novationref10_Shifted.l4b
    rw [leB_t (by omega), cond_true]
    exact shift_row N hN _ hq hl hs hll hf hw a (by omega) (gridG 6 (a + 1) m) (fun p out h ho => shift_all N hN hq hl hs hll hf hw m n (a + 1) p out (by omega) (by omega) h ho) 6 N 0 p out (by omega) (by omega) hM (by omega)

/-- stock.Post's answer, with the document's. -/
def stockG : List Key2 := gridG 6 0 25
theorem Shifted_eq (N : Nat) (hN : 4000000 ≤ N) {l E : List (Ty.den tI3)} (hk : okStock l = true) (hl : l.length ≤ 90000) (hlq : Qty64 l) (hq : Qty64 E) (hE : E.length ≤ 100000) : novationref10_Shifted N l E = outB [] (coll Fq (fS l E) stockG) := by
  obtain ⟨hs, hlp⟩ := okStock_srt hk
  unfold novationref10_Shifted novationref10_Shifted.b
  refine shift_all N hN hq hE hs (by omega) (fun x hx => ⟨hlq x hx, (hlp x hx).2⟩) (fun x hx => ?_) 25 N 0 0 [] (by omega) (by omega) ⟨by omega, fun x hx => (nomatch hx), fun x hx hlt => ?_⟩ (by simp)
  · have h : okPlace (keyOf x).1 (keyOf x).2 := (hlp x hx).1
    unfold okPlace at h; omega
  · have h : okPlace (keyOf x).1 (keyOf x).2 := (hlp x (List.mem_of_mem_drop hx)).1
    unfold okPlace at h
    have hlt' : (keyOf x).1 < ((0 : Nat) : Int) ∨ ((keyOf x).1 = ((0 : Nat) : Int) ∧ (keyOf x).2 < ((0 : Nat) : Int)) := hlt
    omega
theorem stock_one {l E : List (Ty.den tI3)} (hk : okStock l = true) (hp : ∀ x ∈ E, okPlace x.1 x.2.1) : coll Fq (fS l E) (insAll (l.map keyOf) E) = coll Fq (fS l E) stockG := by
  obtain ⟨hs, hlp⟩ := okStock_srt hk
  refine coll_sub ⟨⟨by decide, by decide⟩, by decide⟩ (srt_insAll hs) (srt_gridG 6 25 0) (fun k hk => ?_) (fun k hk hn => ?_)
  · have : okPlace k.1 k.2 := by
      rcases mem_insAll.1 hk with h | ⟨x, hx, rfl⟩
      · obtain ⟨x, hx, rfl⟩ := List.mem_map.1 h
        exact (hlp x hx).1
      · exact hp x hx
    unfold okPlace at this
    exact mem_gridG.2 (by omega)
  · have h1 : k ∉ l.map keyOf := fun h => hn (mem_insAll.2 (Or.inl h))
    have h2 : k ∉ E.map keyOf := fun h => by
      obtain ⟨x, hx, e⟩ := List.mem_map.1 h
      exact hn (mem_insAll.2 (Or.inr ⟨x, hx, e⟩))
    unfold fS
    rw [sumAt_nokey h1, sumAt_nokey h2]; rfl
end VM
end

section
/- Plain laws: ledger.Post. -/
set_option linter.unusedSimpArgs false
namespace VM
open Go VM.F
set_option linter.unusedVariables false

def Q128 (E : List (Ty.den tI3)) : Prop := ∀ x ∈ E, In128 (qty x)
def entW (r : Ty.den tI3) : Ty.den tEntry := (r.1, (r.2.1, (wideN (qty r), ())))
theorem entW_at (E : List (Ty.den tI3)) (i : Nat) : (E.map entW).getD i ((0 : Int), ((0 : Int), (((0 : Int), ((0 : Int), ())), ()))) = entW (E.getD i ((0 : Int), ((0 : Int), ((0 : Int), ())))) := by
  by_cases h : i < E.length
  · rw [List.getD_eq_getElem?_getD, List.getElem?_map, List.getElem?_eq_getElem h, List.getD_eq_getElem?_getD, List.getElem?_eq_getElem h]; rfl
  · rw [List.getD_eq_getElem?_getD, List.getElem?_eq_none (by rw [List.length_map]; omega), List.getD_eq_getElem?_getD, List.getElem?_eq_none (by omega)]; rfl
theorem q128_at {l : List (Ty.den tI3)} (h : Q128 l) (i : Nat) : In128 (qty (l.getD i ((0 : Int), ((0 : Int), ((0 : Int), ()))))) := by
  by_cases hi : i < l.length
  · rw [List.getD_eq_getElem?_getD, List.getElem?_eq_getElem hi]; exact h _ (List.getElem_mem hi)
  · rw [List.getD_eq_getElem?_getD, List.getElem?_eq_none (by omega)]; exact ⟨by decide, by decide⟩
theorem in128_of64 {x : Int} (h : In64 x) : In128 x := by unfold In64 at h; unfold In128; omega
theorem in128_snoc {ws : List Int} {x : Int} (h : ∀ y ∈ ws, In128 y) (hx : In128 x) : ∀ y ∈ ws ++ [x], In128 y := fun y hy => by
  rcases List.mem_append.1 hy with hy | hy
  · exact h y hy
  · rw [List.mem_singleton.1 hy]; exact hx
theorem clipR_eq (N : Nat) {l : List (Ty.den tI3)} : slices_Clip_Row N l = some l := clipP_eq N

theorem postR_in (N : Nat) (hN : 2000000 ≤ N) (K : ledger_Post.t_l26) {E out R : List (Ty.den tI3)} (hq : Q128 E) (hl : E.length ≤ 100000) (ho : out.length ≤ 1000000) (r : Ty.den tI3) (hr : In64 (qty r)) (i : Nat) (hi : i ≤ 1000000) :
    ledger_Post.l30 N K N (E.map entW) out r [wideN (qty r)] R (R.length : Int) (i : Int) (E.map entW) ((E.map entW).length : Int) 0 =
      if In64 (qty r + sumAt r.1 r.2.1 E) then K (E.map entW) (if qty r + sumAt r.1 r.2.1 E = 0 then out else out ++ [(r.1, (r.2.1, (qty r + sumAt r.1 r.2.1 E, ())))]) R (R.length : Int) ((i + 1 : Nat) : Int) else some (([] : List ((Int) × ((Int) × ((Int) × (Unit))))), (2 : Int)) := by
  have := lrec E ((0 : Int), ((0 : Int), ((0 : Int), ()))) (fun n j ws => ledger_Post.l30 N K n (E.map entW) out r (ws.map wideN) R (R.length : Int) (i : Int) (E.map entW) ((E.map entW).length : Int) j)
    (fun t ws => if In64 (ws ++ valsAt r.1 r.2.1 t).sum then K (E.map entW) (if (ws ++ valsAt r.1 r.2.1 t).sum = 0 then out else out ++ [(r.1, (r.2.1, ((ws ++ valsAt r.1 r.2.1 t).sum, ())))]) R (R.length : Int) ((i + 1 : Nat) : Int) else some (([] : List ((Int) × ((Int) × ((Int) × (Unit))))), (2 : Int)))
    (fun j (ws : List Int) => ws.length ≤ j + 1 ∧ ∀ x ∈ ws, In128 x)
    (fun n j ws hj hI hr' => ?_) (fun n ws hI => ?_) E.length N 0 [qty r] (by omega) (by omega) (by omega) ⟨Nat.le_refl _, fun x hx => by rw [List.mem_singleton.1 hx]; exact in128_of64 hr⟩
  · rw [show ((0 : Nat) : Int) = 0 from rfl, List.drop_zero] at this
    refine this.trans ?_
    have e : ([qty r] ++ valsAt r.1 r.2.1 E).sum = qty r + sumAt r.1 r.2.1 E := by rw [List.singleton_append, List.sum_cons]; rfl
    rw [e]
  · unfold ledger_Post.l30 ledger_Post.l30b
    rw [ltB_t (by rw [List.length_map]; omega), cond_true, inb_t (by omega) (by rw [List.length_map]; omega), cond_true, Int.toNat_natCast, entW_at, small_t (by rw [List.length_map, List.length_singleton]; omega), cond_true, W_i64 (x := (j : Int) + 1) (by omega) (by omega), natCast_succ' j, cond_eqB, cond_eqB]
    by_cases h1 : (E.getD j ((0 : Int), ((0 : Int), ((0 : Int), ())))).1 = r.1
    · by_cases h2 : (E.getD j ((0 : Int), ((0 : Int), ((0 : Int), ())))).2.1 = r.2.1
      · have hc : valsAt r.1 r.2.1 (E.getD j ((0 : Int), ((0 : Int), ((0 : Int), ()))) :: E.drop (j + 1)) = qty (E.getD j ((0 : Int), ((0 : Int), ((0 : Int), ())))) :: valsAt r.1 r.2.1 (E.drop (j + 1)) := by rw [valsAt_cons, if_pos ⟨h1, h2⟩]
        rw [if_pos (show (entW (E.getD j ((0 : Int), ((0 : Int), ((0 : Int), ()))))).1 = r.1 from h1), if_pos (show (entW (E.getD j ((0 : Int), ((0 : Int), ((0 : Int), ()))))).2.1 = r.2.1 from h2), hc]
        have := hr' (ws ++ [qty (E.getD j ((0 : Int), ((0 : Int), ((0 : Int), ()))))]) ⟨by rw [List.length_append, List.length_singleton]; omega, in128_snoc hI.2 (q128_at hq j)⟩
        rw [List.map_append] at this
        refine this.trans ?_
        rw [List.append_assoc]; rfl
      · have hc : valsAt r.1 r.2.1 (E.getD j ((0 : Int), ((0 : Int), ((0 : Int), ()))) :: E.drop (j + 1)) = valsAt r.1 r.2.1 (E.drop (j + 1)) := by rw [valsAt_cons, if_neg (fun h => h2 h.2)]
        rw [if_pos (show (entW (E.getD j ((0 : Int), ((0 : Int), ((0 : Int), ()))))).1 = r.1 from h1), if_neg (show ¬ (entW (E.getD j ((0 : Int), ((0 : Int), ((0 : Int), ()))))).2.1 = r.2.1 from h2), hc]
        exact hr' ws ⟨by omega, hI.2⟩
    · have hc : valsAt r.1 r.2.1 (E.getD j ((0 : Int), ((0 : Int), ((0 : Int), ()))) :: E.drop (j + 1)) = valsAt r.1 r.2.1 (E.drop (j + 1)) := by rw [valsAt_cons, if_neg (fun h => h1 h.1)]
      rw [if_neg (show ¬ (entW (E.getD j ((0 : Int), ((0 : Int), ((0 : Int), ()))))).1 = r.1 from h1), hc]
      exact hr' ws ⟨by omega, hI.2⟩
  · unfold ledger_Post.l30 ledger_Post.l30b
    rw [ltB_f (by rw [List.length_map]; omega), cond_false, wSum_eq N hI.2 (by omega) (by omega), Option.bind_some]
    show _ = if In64 (ws ++ []).sum then K (E.map entW) (if (ws ++ []).sum = 0 then out else out ++ [(r.1, (r.2.1, ((ws ++ []).sum, ())))]) R (R.length : Int) ((i + 1 : Nat) : Int) else some (([] : List ((Int) × ((Int) × ((Int) × (Unit))))), (2 : Int))
    rw [List.append_nil]
    unfold sumW
    by_cases h0 : In128 ws.sum
    · rw [if_pos h0]
      dsimp only
      rw [wInt_eq' N h0, Option.bind_some, Bool.not_true, cond_false]
      by_cases h1 : In64 ws.sum
      · rw [toI_pos h1]
        dsimp only
        rw [Bool.not_true, cond_false, cond_not, cond_eqB, small_t (by rw [List.length_singleton]; omega), cond_true, W_i64 (x := (i : Int) + 1) (by omega) (by omega), natCast_succ' i, if_pos h1]
        split <;> rfl
      · rw [toI_neg h1, if_neg h1]
        rfl
    · rw [if_neg h0, if_neg (fun h => h0 (in128_of64 h))]
      have e : wide_Int N ((0 : Int), ((0 : Int), ())) = some (toI 0) := wInt_eq' N (v := 0) ⟨by decide, by decide⟩
      dsimp only
      rw [e, Option.bind_some]
      rfl

theorem postR_out (N : Nat) (hN : 2000000 ≤ N) {l E R : List (Ty.den tI3)} (hq : Q128 E) (hl : E.length ≤ 100000) (hR : R.length ≤ 200000) (hv : ∀ r ∈ R, In64 (qty r) ∧ qty r = sumAt r.1 r.2.1 l) :
    ledger_Post.l26 N N (E.map entW) [] R (R.length : Int) 0 = outS (coll In64 (fS l E) (R.map keyOf)) := by
  have := lrec R ((0 : Int), ((0 : Int), ((0 : Int), ()))) (fun n i out => ledger_Post.l26 N n (E.map entW) out R (R.length : Int) i) (fun t out => outS ((coll In64 (fS l E) (t.map keyOf)).map (fun o => out ++ o))) (fun i (out : List (Ty.den tI3)) => out.length ≤ i)
    (fun n i out hi hI hr => ?_) (fun n out hI => ?_) R.length N 0 [] (by omega) (by omega) (by omega) (Nat.le_refl _)
  · rw [show ((0 : Nat) : Int) = 0 from rfl, List.drop_zero] at this
    refine this.trans ?_
    simp
  · unfold ledger_Post.l26 ledger_Post.l26b
    have hm : R.getD i ((0 : Int), ((0 : Int), ((0 : Int), ()))) ∈ R := by
      rw [List.getD_eq_getElem?_getD, List.getElem?_eq_getElem hi]; exact List.getElem_mem hi
    have hv' := hv _ hm
    have h64 := hv'.1
    have h64' := h64
    unfold In64 qty at h64'
    rw [ltB_t (by omega), cond_true, inb_t (by omega) (by omega), cond_true, Int.toNat_natCast, wOf_eq N h64'.1 h64'.2, Option.bind_some]
    refine (postR_in N hN _ hq hl (by omega) _ h64 i (by omega)).trans ?_
    rw [List.map_cons, coll_cons]
    have ef : fS l E (keyOf (R.getD i ((0 : Int), ((0 : Int), ((0 : Int), ()))))).1 (keyOf (R.getD i ((0 : Int), ((0 : Int), ((0 : Int), ()))))).2 = qty (R.getD i ((0 : Int), ((0 : Int), ((0 : Int), ())))) + sumAt (R.getD i ((0 : Int), ((0 : Int), ((0 : Int), ())))).1 (R.getD i ((0 : Int), ((0 : Int), ((0 : Int), ())))).2.1 E := by
      show sumAt _ _ l + sumAt _ _ E = _
      rw [hv'.2]; rfl
    rw [ef]
    generalize hS : qty (R.getD i ((0 : Int), ((0 : Int), ((0 : Int), ())))) + sumAt (R.getD i ((0 : Int), ((0 : Int), ((0 : Int), ())))).1 (R.getD i ((0 : Int), ((0 : Int), ((0 : Int), ())))).2.1 E = v
    by_cases hF : In64 v
    · rw [if_pos hF, if_pos hF, hr _ (by
        split
        · omega
        · rw [List.length_append, List.length_singleton]; omega)]
      cases coll In64 (fS l E) ((R.drop (i + 1)).map keyOf) with
      | none => rfl
      | some o =>
        show outS (some _) = outS (some _)
        congr 2
        split
        · rfl
        · exact List.append_assoc _ _ _
    · rw [if_neg hF, if_neg hF]; rfl
  · unfold ledger_Post.l26 ledger_Post.l26b
    rw [ltB_f (by omega), cond_false, clipR_eq, Option.bind_some]
    show _ = outS (some (out ++ []))
    rw [List.append_nil]; rfl

theorem seekR (N : Nat) (C : ledger_Post.t_l16) {l : List (Ty.den tI3)} {E S : List (Ty.den tEntry)} {K : List Key2} (hs : Srt K) (hl : K.length ≤ 100000) (hf : ∀ k ∈ K, fewK k) (x : Ty.den tEntry) (k : Key2) (hxk : (x.1, x.2.1) = k) (hx : fewK k) (hz : zeroAt l K k) (len : Int) (i : Nat) (hi : i ≤ 1000000) :
    ∀ (m n p : Nat), K.length - p ≤ m → m < n → p ≤ K.length → (∀ y ∈ K.take p, kLt y k) →
      ledger_Post.l19 N C n E (rowsOf l K) x (p : Int) S len (i : Int) = C E (rowsOf l (K.take p ++ insK k (K.drop p))) S len ((i + 1 : Nat) : Int)
  | m, 0, p, _, hn, _, _ => by omega
  | m, n + 1, p, hm, hn, hp, hb => by
    unfold ledger_Post.l19 ledger_Post.l19b ledger_Post.j21 ledger_Post.j21b
    rw [rowsOf_len, W_i64 (x := (i : Int) + 1) (by omega) (by omega), natCast_succ' i]
    have ex : ((x.1, (x.2.1, ((0 : Int), ()))) : Ty.den tI3) = (k.1, (k.2, ((0 : Int), ()))) := by rw [← hxk]
    by_cases h : p < K.length
    · have hfk := hf (K.getD p (0, 0)) (by rw [List.getD_eq_getElem?_getD, List.getElem?_eq_getElem h]; exact List.getElem_mem h)
      have ho : ledger_order N x.1 x.2.1 ((rowsOf l K).getD p ((0 : Int), ((0 : Int), ((0 : Int), ())))) = some (ordI k.1 k.2 (K.getD p (0, 0)).1 (K.getD p (0, 0)).2) := by
        rw [rowsOf_at l h]
        rw [← hxk] at hx ⊢
        exact order_eq N hx.1 hx.2 hfk.1 hfk.2
      rw [ltB_t (by omega), cond_true, inb_t (by omega) (by omega), cond_true, Int.toNat_natCast, ho, Option.bind_some, eqB_f (x := (p : Int)) (by omega), cond_false, cond_true, Option.bind_some, cond_ltB, cond_not, cond_eqB, insK_at h]
      by_cases h1 : kLt (K.getD p (0, 0)) k
      · rw [if_pos (ordI_pos.2 h1), if_pos h1, W_i64 (x := (p : Int) + 1) (by omega) (by omega), natCast_succ' p, take_drop_at h]
        refine seekR N C hs hl hf x k hxk hx hz len i hi (m - 1) n (p + 1) (by omega) (by omega) (by omega) fun y hy => ?_
        rw [← List.take_append_getElem h] at hy
        rcases List.mem_append.1 hy with hy | hy
        · exact hb y hy
        · rw [List.getD_eq_getElem?_getD, List.getElem?_eq_getElem h] at h1
          rw [List.mem_singleton.1 hy]; exact h1
      · rw [if_neg (fun h => h1 (ordI_pos.1 h)), if_neg h1]
        by_cases h2 : K.getD p (0, 0) = k
        · rw [if_pos (ordI_zero.2 h2), if_pos h2, List.take_append_drop]
        · rw [if_neg (fun h => h2 (ordI_zero.1 h)), if_neg h2, insL_eq N (by rw [rowsOf_len]; omega) (by rw [rowsOf_len]; omega), Option.bind_some]
          have hz' := hz (not_mem_at hs hb (drop_gt hs h h1 h2))
          have e := rowsOf_ins l K p k
          rw [← rowK_zero hz'] at e
          refine Eq.trans ?_ (congrArg (fun R => C E R S len ((i + 1 : Nat) : Int)) e)
          exact congrArg (fun z : Ty.den tI3 => C E ((rowsOf l K).take p ++ z :: (rowsOf l K).drop p) S len ((i + 1 : Nat) : Int)) ex
    · have hd : K.drop p = [] := List.drop_eq_nil_of_le (by omega)
      rw [ltB_f (by omega), cond_false, eqB_t (by omega), cond_true, insL_eq N (by rw [rowsOf_len]; omega) (by rw [rowsOf_len]; omega), Option.bind_some]
      have hz' := hz (not_mem_at hs hb (by rw [hd]; exact fun x hx => nomatch hx))
      have e := rowsOf_ins l K p k
      rw [← rowK_zero hz'] at e
      have e2 : insK k (K.drop p) = k :: K.drop p := by rw [hd]; rfl
      rw [e2]
      refine Eq.trans ?_ (congrArg (fun R => C E R S len ((i + 1 : Nat) : Int)) e)
      exact congrArg (fun z : Ty.den tI3 => C E ((rowsOf l K).take p ++ z :: (rowsOf l K).drop p) S len ((i + 1 : Nat) : Int)) ex

theorem postR_ins (N : Nat) (hN : 2000000 ≤ N) {l E : List (Ty.den tI3)} (hq : Q128 E) (hE : E.length ≤ 400) (hp : ∀ x ∈ E, fewK (keyOf x)) (hs : Srt (l.map keyOf)) (hl : l.length ≤ 90000) (hlq : Qty64 l) (hlp : ∀ x ∈ l, fewK (keyOf x)) :
    ledger_Post.l16 N N (E.map entW) l (E.map entW) ((E.map entW).length : Int) 0 = outS (coll In64 (fS l E) (insAll (l.map keyOf) E)) := by
  have := lrec E ((0 : Int), ((0 : Int), ((0 : Int), ()))) (fun n i K => ledger_Post.l16 N n (E.map entW) (rowsOf l K) (E.map entW) ((E.map entW).length : Int) i) (fun t K => outS (coll In64 (fS l E) (insAll K t)))
    (fun i (K : List Key2) => K.length ≤ l.length + i ∧ Srt K ∧ (∀ k ∈ K, fewK k) ∧ ∀ x ∈ l, keyOf x ∈ K)
    (fun n i K hi hI hr => ?_) (fun n K hI => ?_) E.length N 0 (l.map keyOf) (by omega) (by omega) (by omega) ⟨by rw [List.length_map]; omega, hs, fun k hk => by
      obtain ⟨x, hx, rfl⟩ := List.mem_map.1 hk
      exact hlp x hx, fun x hx => List.mem_map_of_mem hx⟩
  · rw [show ((0 : Nat) : Int) = 0 from rfl, List.drop_zero] at this
    simp only [rowsOf_self hs] at this
    exact this
  · unfold ledger_Post.l16 ledger_Post.l16b
    obtain ⟨h1, h2, h3, h4⟩ := hI
    have hm : E.getD i ((0 : Int), ((0 : Int), ((0 : Int), ()))) ∈ E := by
      rw [List.getD_eq_getElem?_getD, List.getElem?_eq_getElem hi]; exact List.getElem_mem hi
    rw [ltB_t (by rw [List.length_map]; omega), cond_true, inb_t (by omega) (by rw [List.length_map]; omega), cond_true, Int.toNat_natCast, entW_at]
    refine (seekR N _ h2 (by omega) h3 (entW (E.getD i ((0 : Int), ((0 : Int), ((0 : Int), ()))))) (keyOf (E.getD i ((0 : Int), ((0 : Int), ((0 : Int), ()))))) rfl (hp _ hm) (fun hk => sumAt_nokey fun hx => hk (by
      obtain ⟨x, hx, e⟩ := List.mem_map.1 hx
      rw [← e]; exact h4 x hx)) ((E.map entW).length : Int) i (by omega) K.length N 0 (by omega) (by omega) (by omega) (fun y hy => nomatch hy)).trans ?_
    rw [List.take_zero, List.nil_append, List.drop_zero, insAll_cons]
    refine hr (insK (keyOf (E.getD i ((0 : Int), ((0 : Int), ((0 : Int), ()))))) K) ⟨Nat.le_trans (insK_len _ K) (by omega), srt_insK h2, fun k hk => (mem_insK.1 hk).elim (fun e => e ▸ hp _ hm) (h3 k), fun x hx => mem_insK.2 (Or.inr (h4 x hx))⟩
  · unfold ledger_Post.l16 ledger_Post.l16b
    obtain ⟨h1, h2, h3, h4⟩ := hI
    rw [ltB_f (by rw [List.length_map]; omega), cond_false, rowsOf_len, okMake_t (by omega) (by omega) (by omega), cond_true]
    have := postR_out N hN (l := l) (R := rowsOf l K) hq (by omega) (by rw [rowsOf_len]; omega) (fun r hr => by
      unfold rowsOf at hr
      obtain ⟨k, hk, rfl⟩ := List.mem_map.1 hr
      refine ⟨?_, rfl⟩
      show In64 (sumAt k.1 k.2 l)
      by_cases hkl : k ∈ l.map keyOf
      · have e : rowsOf l (l.map keyOf) = l := rowsOf_self hs
        have hm : rowK l k ∈ rowsOf l (l.map keyOf) := List.mem_map_of_mem hkl
        rw [e] at hm
        exact hlq (rowK l k) hm
      · rw [sumAt_nokey hkl]; exact ⟨by decide, by decide⟩)
    rw [rowsOf_keys, rowsOf_len] at this
    exact this

theorem okRows_srt {l : List (Ty.den tI3)} (h : okRows l = true) : Srt (l.map keyOf) ∧ (∀ x ∈ l, okKey x.1 x.2.1) := by
  unfold okRows at h
  rw [Bool.and_true] at h
  have h' := of_decide_eq_true h
  have get : ∀ (i : Nat) (hi : i < l.length), l.getD i ((0 : Int), ((0 : Int), ((0 : Int), ()))) = l[i] := fun i hi => by rw [List.getD_eq_getElem?_getD, List.getElem?_eq_getElem hi]; rfl
  have hadj : ∀ i, i + 1 < l.length → kLt (keyOf (l.getD i ((0 : Int), ((0 : Int), ((0 : Int), ()))))) (keyOf (l.getD (i + 1) ((0 : Int), ((0 : Int), ((0 : Int), ()))))) := fun i hi => (h' (i + 1) hi).2.2 (by omega)
  have hlt : ∀ j, j < l.length → ∀ i, i < j → kLt (keyOf (l.getD i ((0 : Int), ((0 : Int), ((0 : Int), ()))))) (keyOf (l.getD j ((0 : Int), ((0 : Int), ((0 : Int), ()))))) := by
    intro j
    induction j with
    | zero => intro _ i hi; omega
    | succ j ih =>
      intro hj i hi
      by_cases e : i = j
      · rw [e]; exact hadj j hj
      · exact kLt_trans (ih (by omega) i (by omega)) (hadj j hj)
  refine ⟨?_, fun x hx => ?_⟩
  · refine List.pairwise_map.2 (List.pairwise_iff_getElem.2 fun i j hi hj hij => ?_)
    have := hlt j hj i hij
    rw [get i hi, get j hj] at this
    exact this
  · obtain ⟨i, hi, e⟩ := List.getElem_of_mem hx
    have := h' i hi
    unfold okRow okRow6 at this
    rw [get i hi, e] at this
    exact this.1

/-- Entries that may be. -/
structure GoodE (E : List (Ty.den tI3)) : Prop where
  key : ∀ x ∈ E, okKey x.1 x.2.1
  q : Q128 E
  len : E.length ≤ 400
  zero : (E.map qty).sum = 0
theorem few_key {x : Ty.den tI3} (h : okKey x.1 x.2.1) : fewK (keyOf x) := by
  have h' : okKey (keyOf x).1 (keyOf x).2 := h
  unfold okKey at h'
  unfold fewK few
  omega

theorem PostR_eq (N : Nat) (hN : 2000000 ≤ N) {l E : List (Ty.den tI3)} (hk : okRows l = true) (hl : l.length ≤ 90000) (hlq : Qty64 l) (g : GoodE E) : ledger_Post N l (E.map entW) = outS (coll In64 (fS l E) (insAll (l.map keyOf) E)) := by
  obtain ⟨hs, hlp⟩ := okRows_srt hk
  have hE := g.len
  unfold ledger_Post ledger_Post.b
  rw [Rows_eq N (by omega) (by omega), hk, Option.bind_some, Bool.not_true, cond_false, ltB_f (by rw [List.length_map]; omega), cond_false, okMake_t (by omega) (by omega) (by rw [List.length_map]; omega), cond_true]
  have := lrec E ((0 : Int), ((0 : Int), ((0 : Int), ()))) (fun n i (ws : List Int) => ledger_Post.l5 N n l (E.map entW) (ws.map wideN) (E.map entW) ((E.map entW).length : Int) i)
    (fun t ws => if (ws ++ t.map qty).sum = 0 then outS (coll In64 (fS l E) (insAll (l.map keyOf) E)) else none)
    (fun j (ws : List Int) => ws.length ≤ j ∧ (ws ++ (E.drop j).map qty).sum = 0 ∧ ∀ x ∈ ws, In128 x)
    (fun n i ws hi hI hr => ?_) (fun n ws hI => ?_) E.length N 0 [] (by omega) (by omega) (by omega) ⟨Nat.le_refl _, g.zero, fun x hx => nomatch hx⟩
  · rw [show ((0 : Nat) : Int) = 0 from rfl, List.drop_zero] at this
    refine Eq.trans this ?_
    rw [List.nil_append, if_pos g.zero]
  · unfold ledger_Post.l5 ledger_Post.l5b
    have hm : E.getD i ((0 : Int), ((0 : Int), ((0 : Int), ()))) ∈ E := by
      rw [List.getD_eq_getElem?_getD, List.getElem?_eq_getElem hi]; exact List.getElem_mem hi
    have hkey : ledger_Key N (entW (E.getD i ((0 : Int), ((0 : Int), ((0 : Int), ()))))).1 (entW (E.getD i ((0 : Int), ((0 : Int), ((0 : Int), ()))))).2.1 = some true := by
      rw [Key_eq]
      exact congrArg some (decide_eq_true (g.key _ hm))
    rw [ltB_t (by rw [List.length_map]; omega), cond_true, inb_t (by omega) (by rw [List.length_map]; omega), cond_true, Int.toNat_natCast, entW_at, hkey, Option.bind_some, Bool.not_true, cond_false, small_t (by rw [List.length_map, List.length_singleton]; omega), cond_true, W_i64 (x := (i : Int) + 1) (by omega) (by omega), natCast_succ' i]
    have h0 := hI.2.1
    rw [drop_cons hi ((0 : Int), ((0 : Int), ((0 : Int), ()))), List.map_cons] at h0
    have := hr (ws ++ [qty (E.getD i ((0 : Int), ((0 : Int), ((0 : Int), ()))))]) ⟨by rw [List.length_append, List.length_singleton]; omega, by rw [List.append_assoc]; exact h0, in128_snoc hI.2.2 (q128_at g.q i)⟩
    rw [List.map_append] at this
    refine this.trans ?_
    rw [List.append_assoc]; rfl
  · unfold ledger_Post.l5 ledger_Post.l5b
    have h0 := hI.2.1
    rw [List.drop_length, List.map_nil, List.append_nil] at h0
    rw [ltB_f (by rw [List.length_map]; omega), cond_false, wSum_eq N hI.2.2 (by omega) (by omega), Option.bind_some, h0]
    have e0 : sumW 0 = (wideN 0, true) := by unfold sumW; exact if_pos ⟨by decide, by decide⟩
    rw [e0]
    dsimp only
    rw [Bool.not_true, cond_false, wSign_eq, Option.bind_some, show sgn 0 = 0 from rfl, eqB_t rfl, Bool.not_true, cond_false, clL_eq N (by omega), Option.bind_some]
    rw [List.map_nil, List.append_nil, if_pos h0]
    exact postR_ins N hN g.q hE (fun x hx => few_key (g.key x hx)) hs hl hlq (fun x hx => few_key (hlp x hx))
end VM
end

section
/- Plain laws: novationref10.Laid; book.Moved and novationref15.With. -/
set_option linter.unusedSimpArgs false
namespace VM
open Go VM.F
set_option linter.unusedVariables false

def partB (r : Ty.den tI3) : Ty.den tPart := (r.1, (r.2.1, (bigN (qty r), ())))
theorem partB_at {E : List (Ty.den tI3)} {i : Nat} (h : i < E.length) : (E.map partB).getD i ((0 : Int), ((0 : Int), ((false, (([] : List (Int)), ())), ()))) = partB (E.getD i ((0 : Int), ((0 : Int), ((0 : Int), ())))) := by
  rw [List.getD_eq_getElem?_getD, List.getElem?_map, List.getElem?_eq_getElem h, List.getD_eq_getElem?_getD, List.getElem?_eq_getElem h]; rfl
theorem fit128 {v : Int} {n : Nat} (hn : n ≤ 1000000) (h0 : -(170141183460469231731687303715884105728 * (n : Int)) ≤ v) (h1 : v ≤ 170141183460469231731687303715884105728 * (n : Int)) : Fit v 900000 := by
  have h5 : Fit v 5 := by
    unfold Fit
    rw [show (4294967296 : Nat) ^ 5 = 1461501637330902918203684832716283019655932542976 from rfl]
    omega
  exact h5.mono (by omega)
theorem fit128' {v : Int} (h : In128 v) : Fit v 900000 := fit128 (n := 1) (by omega) (by have := h.1; omega) (by have := h.2; omega)

theorem behind_eq (N : Nat) (hN : 4000000 ≤ N) {E : List (Ty.den tI3)} (hq : Q128 E) (hl : E.length ≤ 100000) (q a b : Int) (hF : In64 q) : novationref10_behind N q a b (E.map partB) = some (toI (q + sumAt a b E)) := by
  unfold novationref10_behind novationref10_behind.b
  have := lrec E ((0 : Int), ((0 : Int), ((0 : Int), ()))) (fun n j ws => novationref10_behind.l3 N n q a b (E.map partB) (bigN ws.sum) (!ws.isEmpty) j)
    (fun t ws => some (toI (q + (ws ++ valsAt a b t).sum)))
    (fun j (ws : List Int) => ws.length ≤ j ∧ ∀ x ∈ ws, In128 x)
    (fun n j ws hj hI hr' => ?_) (fun n ws hI => ?_) E.length N 0 [] (by omega) (by omega) (by omega) ⟨Nat.le_refl _, fun x hx => nomatch hx⟩
  · rw [show ((0 : Nat) : Int) = 0 from rfl, List.drop_zero, List.sum_nil, bigN_zero] at this
    exact this
  · unfold novationref10_behind.l3 novationref10_behind.l3b
    have h128 := q128_at hq j
    have hb := sum128 hI.2
    have hpl : novationref1_Plus N (bigN ws.sum) (partB (E.getD j ((0 : Int), ((0 : Int), ((0 : Int), ()))))).2.2.1 = some (bigN (ws.sum + qty (E.getD j ((0 : Int), ((0 : Int), ((0 : Int), ())))))) := Plus_eq N (by omega) (fit128 (n := ws.length) (by omega) hb.1 hb.2) (fit128' h128)
    rw [ltB_t (by rw [List.length_map]; omega), cond_true, inb_t (by omega) (by rw [List.length_map]; omega), cond_true, cond_true, cond_true, Int.toNat_natCast, partB_at hj, hpl, Option.bind_some, W_i64 (x := (j : Int) + 1) (by omega) (by omega), natCast_succ' j, cond_eqB, cond_eqB]
    by_cases h1 : (E.getD j ((0 : Int), ((0 : Int), ((0 : Int), ())))).1 = a
    · by_cases h2 : (E.getD j ((0 : Int), ((0 : Int), ((0 : Int), ())))).2.1 = b
      · have hc : valsAt a b (E.getD j ((0 : Int), ((0 : Int), ((0 : Int), ()))) :: E.drop (j + 1)) = qty (E.getD j ((0 : Int), ((0 : Int), ((0 : Int), ())))) :: valsAt a b (E.drop (j + 1)) := by rw [valsAt_cons, if_pos ⟨h1, h2⟩]
        rw [if_pos (show (partB (E.getD j ((0 : Int), ((0 : Int), ((0 : Int), ()))))).1 = a from h1), if_pos (show (partB (E.getD j ((0 : Int), ((0 : Int), ((0 : Int), ()))))).2.1 = b from h2), hc]
        have := hr' (ws ++ [qty (E.getD j ((0 : Int), ((0 : Int), ((0 : Int), ()))))]) ⟨by rw [List.length_append, List.length_singleton]; omega, in128_snoc hI.2 h128⟩
        rw [List.sum_append, List.sum_cons, List.sum_nil, Int.add_zero, List.append_assoc] at this
        refine Eq.trans ?_ this
        rw [show (!(ws ++ [qty (E.getD j ((0 : Int), ((0 : Int), ((0 : Int), ()))))]).isEmpty) = true by cases ws <;> rfl]
      · have hc : valsAt a b (E.getD j ((0 : Int), ((0 : Int), ((0 : Int), ()))) :: E.drop (j + 1)) = valsAt a b (E.drop (j + 1)) := by rw [valsAt_cons, if_neg (fun h => h2 h.2)]
        rw [if_pos (show (partB (E.getD j ((0 : Int), ((0 : Int), ((0 : Int), ()))))).1 = a from h1), if_neg (show ¬ (partB (E.getD j ((0 : Int), ((0 : Int), ((0 : Int), ()))))).2.1 = b from h2), hc]
        exact hr' ws ⟨by omega, hI.2⟩
    · have hc : valsAt a b (E.getD j ((0 : Int), ((0 : Int), ((0 : Int), ()))) :: E.drop (j + 1)) = valsAt a b (E.drop (j + 1)) := by rw [valsAt_cons, if_neg (fun h => h1 h.1)]
      rw [if_neg (show ¬ (partB (E.getD j ((0 : Int), ((0 : Int), ((0 : Int), ()))))).1 = a from h1), hc]
      exact hr' ws ⟨by omega, hI.2⟩
  · unfold novationref10_behind.l3 novationref10_behind.l3b
    have hs := sum128 hI.2
    have hF' := hF
    unfold In64 at hF'
    rw [ltB_f (by rw [List.length_map]; omega), cond_false, Whole_eq N (by omega) hF'.1 hF'.2, Option.bind_some, Plus_eq N (by omega) (fit128 (n := ws.length) (by omega) hs.1 hs.2) ((Fit.i64 hF'.1 hF'.2).mono (by omega)), Option.bind_some, Int_eq, Option.bind_some, cond_not]
    show _ = some (toI (q + (ws ++ []).sum))
    rw [List.append_nil, Int.add_comm ws.sum q]
    cases ws with
    | nil =>
      show some (q, true) = some (toI (q + 0))
      rw [Int.add_zero, toI_pos hF]
    | cons w ws => rfl

theorem in64_at {l : List (Ty.den tI3)} (hs : Srt (l.map keyOf)) (hl : Qty64 l) (k : Key2) : In64 (sumAt k.1 k.2 l) := by
  by_cases hk : k ∈ l.map keyOf
  · have hm : rowK l k ∈ rowsOf l (l.map keyOf) := List.mem_map_of_mem hk
    rw [rowsOf_self hs] at hm
    exact hl (rowK l k) hm
  · rw [sumAt_nokey hk]; exact ⟨by decide, by decide⟩

theorem laid_row (N : Nat) (hN : 4000000 ≤ N) (C : novationref10_Laid.t_l4) {l E : List (Ty.den tI3)} (hq : Q128 E) (hl : E.length ≤ 100000) (hs : Srt (l.map keyOf)) (hll : l.length ≤ 100000) (hf : Qty64 l) (hw : ∀ x ∈ l, 0 ≤ (keyOf x).2 ∧ (keyOf x).2 < (25 : Nat)) (a : Nat) (ha : a ≤ 24) (G : List Key2)
    (hc : ∀ (p : Nat) (out : List (Ty.den tI3)), Mark l (a + 1) 0 p → out.length ≤ 25 * (a + 1) → C l (E.map partB) out (p : Int) ((a + 1 : Nat) : Int) = outB out (coll In64 (fS l E) G)) :
    ∀ (m n b p : Nat) (out : List (Ty.den tI3)), b + m = 25 → m < n → Mark l a b p → out.length ≤ 25 * a + b → novationref10_Laid.l7 N C n l (E.map partB) out (p : Int) (a : Int) (b : Int) = outB out (coll In64 (fS l E) (rowG a b m ++ G))
  | m, 0, b, p, out, _, hn, _, _ => by omega
  | 0, n + 1, b, p, out, hb, _, hM, ho => by
    have e : b = 25 := by omega
    subst e
    unfold novationref10_Laid.l7 novationref10_Laid.l7b
    rw [leB_f (by omega), cond_false, W_i64 (x := (a : Int) + 1) (by omega) (by omega), natCast_succ' a]
    exact hc p out (hM.row hw) (by omega)
  | m + 1, n + 1, b, p, out, hb, hn, hM, ho => by
    have hp := hM.le
    have rec' : ∀ (p : Nat) (v : Int), Mark l a (b + 1) p → novationref10_Laid.l7 N C n l (E.map partB) (if v = 0 then out else out ++ [((a : Int), ((b : Int), (v, ())))]) (p : Int) (a : Int) ((b + 1 : Nat) : Int) = outB (if v = 0 then out else out ++ [((a : Int), ((b : Int), (v, ())))]) (coll In64 (fS l E) (rowG a (b + 1) m ++ G)) := fun p v h =>
      laid_row N hN C hq hl hs hll hf hw a ha G hc m n (b + 1) p _ (by omega) (by omega) h (by
        split
        · omega
        · rw [List.length_append, List.length_singleton]; omega)
    have hq0 := in64_at hs hf ((a : Int), (b : Int))
    unfold novationref10_Laid.l7 novationref10_Laid.l7b
    show _ = outB out (coll In64 (fS l E) (((a : Int), (b : Int)) :: (rowG a (b + 1) m ++ G)))
    rw [leB_t (x := (b : Int)) (by omega), cond_true, cond_ltB, cond_eqB, cond_eqB, Int.toNat_natCast]
    have fin : ∀ (p : Nat) (q : Int), q = sumAt (a : Int) (b : Int) l → Mark l a (b + 1) p → novationref10_Laid.j13 N C (novationref10_Laid.l7 N C n) l (E.map partB) out (p : Int) (a : Int) (b : Int) q = outB out (coll In64 (fS l E) (((a : Int), (b : Int)) :: (rowG a (b + 1) m ++ G))) := fun p q e h => by
      subst e
      unfold novationref10_Laid.j13 novationref10_Laid.j13b
      rw [behind_eq N hN hq hl _ _ _ hq0, Option.bind_some]
      refine Eq.trans ?_ (outB_next (k := ((a : Int), (b : Int))) (v := sumAt (a : Int) (b : Int) l + sumAt (a : Int) (b : Int) E) rfl)
      generalize sumAt (a : Int) (b : Int) l + sumAt (a : Int) (b : Int) E = v
      have hr := rec' p v h
      by_cases hv : In64 v
      · rw [toI_pos hv, if_pos hv]
        dsimp only
        rw [Bool.not_true, cond_false, cond_not, cond_eqB, small_t (by rw [List.length_singleton]; omega), cond_true, W_i64 (x := (b : Int) + 1) (by omega) (by omega), natCast_succ' b, ← hr]
        split <;> rfl
      · rw [toI_neg hv, if_neg hv]; rfl
    rcases hM.step hs with ⟨h1, h2, h3, h4, h5⟩ | ⟨h1, h2, h3⟩
    · rw [if_pos (show (p : Int) < (l.length : Int) by omega), inb_t (by omega) (by omega), cond_true, cond_true, if_pos h2, if_pos h3, W_i64 (x := (p : Int) + 1) (by omega) (by omega), natCast_succ' p, cond_true]
      exact fin (p + 1) _ h4.symm h5
    · by_cases g1 : p < l.length
      · rw [if_pos (show (p : Int) < (l.length : Int) by omega), inb_t (by omega) (by omega), cond_true, cond_true]
        by_cases g2 : (l.getD p ((0 : Int), ((0 : Int), ((0 : Int), ())))).1 = (a : Int)
        · rw [if_pos g2, if_neg (fun g3 => h1 g1 g2 g3)]
          exact fin p _ h2.symm h3
        · rw [if_neg g2]
          exact fin p _ h2.symm h3
      · rw [if_neg (show ¬ (p : Int) < (l.length : Int) by omega)]
        exact fin p _ h2.symm h3

theorem laid_all (N : Nat) (hN : 4000000 ≤ N) {l E : List (Ty.den tI3)} (hq : Q128 E) (hl : E.length ≤ 100000) (hs : Srt (l.map keyOf)) (hll : l.length ≤ 100000) (hf : Qty64 l) (hw : ∀ x ∈ l, 0 ≤ (keyOf x).2 ∧ (keyOf x).2 < (25 : Nat)) :
    ∀ (m n a p : Nat) (out : List (Ty.den tI3)), a + m = 8 → m < n → Mark l a 0 p → out.length ≤ 25 * a → novationref10_Laid.l4 N n l (E.map partB) out (p : Int) (a : Int) = outB out (coll In64 (fS l E) (gridG 25 a m))
  | m, 0, a, p, out, _, hn, _, _ => by omega
  | 0, n + 1, a, p, out, ha, _, hM, ho => by
    unfold novationref10_Laid.l4 novationref10_Laid.l4b
    rw [leB_f (by omega), cond_false]
    show some (out, true) = some (out ++ [], true)
    rw [List.append_nil]
  | m + 1, n + 1, a, p, out, ha, hn, hM, ho => by
    unfold novationref10_Laid.l4 novationref10_Laid.l4b
    rw [leB_t (by omega), cond_true]
    exact laid_row N hN _ hq hl hs hll hf hw a (by omega) (gridG 25 (a + 1) m) (fun p out h ho => laid_all N hN hq hl hs hll hf hw m n (a + 1) p out (by omega) (by omega) h ho) 25 N 0 p out (by omega) (by omega) hM (by omega)

def rowsG : List Key2 := gridG 25 1 7
theorem Laid_eq (N : Nat) (hN : 4000000 ≤ N) {l E : List (Ty.den tI3)} (hk : okRows l = true) (hl : l.length ≤ 90000) (hlq : Qty64 l) (hq : Q128 E) (hE : E.length ≤ 100000) : novationref10_Laid N l (E.map partB) = outB [] (coll In64 (fS l E) rowsG) := by
  obtain ⟨hs, hlp⟩ := okRows_srt hk
  unfold novationref10_Laid novationref10_Laid.b
  refine laid_all N hN hq hE hs (by omega) hlq (fun x hx => ?_) 7 N 1 0 [] (by omega) (by omega) ⟨by omega, fun x hx => (nomatch hx), fun x hx hlt => ?_⟩ (by simp)
  · have h : okKey (keyOf x).1 (keyOf x).2 := hlp x hx
    unfold okKey at h; omega
  · have h : okKey (keyOf x).1 (keyOf x).2 := hlp x (List.mem_of_mem_drop hx)
    unfold okKey at h
    have hlt' : (keyOf x).1 < ((1 : Nat) : Int) ∨ ((keyOf x).1 = ((1 : Nat) : Int) ∧ (keyOf x).2 < ((0 : Nat) : Int)) := hlt
    omega
theorem rows_one {l E : List (Ty.den tI3)} (hk : okRows l = true) (hp : ∀ x ∈ E, okKey x.1 x.2.1) : coll In64 (fS l E) (insAll (l.map keyOf) E) = coll In64 (fS l E) rowsG := by
  obtain ⟨hs, hlp⟩ := okRows_srt hk
  refine coll_sub ⟨by decide, by decide⟩ (srt_insAll hs) (srt_gridG 25 7 1) (fun k hk => ?_) (fun k hk hn => ?_)
  · have : okKey k.1 k.2 := by
      rcases mem_insAll.1 hk with h | ⟨x, hx, rfl⟩
      · obtain ⟨x, hx, rfl⟩ := List.mem_map.1 h
        exact hlp x hx
      · exact hp x hx
    unfold okKey at this
    exact mem_gridG.2 (by omega)
  · have h1 : k ∉ l.map keyOf := fun h => hn (mem_insAll.2 (Or.inl h))
    have h2 : k ∉ E.map keyOf := fun h => by
      obtain ⟨x, hx, e⟩ := List.mem_map.1 h
      exact hn (mem_insAll.2 (Or.inr ⟨x, hx, e⟩))
    unfold fS
    rw [sumAt_nokey h1, sumAt_nokey h2]; rfl

/-- A book, moved. -/
def movedOf (b : Ty.den tBook) (s e : List (Ty.den tI3)) : Ty.den tBook × Int :=
  match coll Fq (fS b.2.2.2.1 s) stockG with
  | none => ((([] : List ((Int) × ((Int) × (Unit)))), (([] : List ((Int) × ((Int) × ((Int) × ((Int) × (Unit)))))), (([] : List ((Int) × ((Int) × ((Int) × (Unit))))), (([] : List ((Int) × ((Int) × ((Int) × (Unit))))), (([] : List (Int)), (([] : List ((Int) × ((Int) × ((Int) × ((Int) × ((Int) × ((Int) × (Unit)))))))), ())))))), 2)
  | some s' => match coll In64 (fS b.2.2.1 e) rowsG with
    | none => ((([] : List ((Int) × ((Int) × (Unit)))), (([] : List ((Int) × ((Int) × ((Int) × ((Int) × (Unit)))))), (([] : List ((Int) × ((Int) × ((Int) × (Unit))))), (([] : List ((Int) × ((Int) × ((Int) × (Unit))))), (([] : List (Int)), (([] : List ((Int) × ((Int) × ((Int) × ((Int) × ((Int) × ((Int) × (Unit)))))))), ())))))), 2)
    | some r' => ((b.1, (b.2.1, (r', (s', b.2.2.2.2)))), 0)
theorem BCopy_eq (N : Nat) {b : Ty.den tBook} (w : BookWf b) : book_Copy N b = some b := by
  unfold book_Copy
  have h1 := w.m; have h2 := w.a; have h3 := w.r; have h4 := w.s; have h5 := w.p; have h6 := w.o
  rw [clL_eq N (by omega), Option.bind_some, clL_eq N (by omega), Option.bind_some, clL_eq N (by omega), Option.bind_some, clL_eq N (by omega), Option.bind_some, clL_eq N (by omega), Option.bind_some, clL_eq N (by omega), Option.bind_some]
end VM
end

section
/- Plain laws: books moved; bids right for the reference; the best bid. -/
set_option linter.unusedSimpArgs false
namespace VM
open Go VM.F
set_option linter.unusedVariables false

theorem Moved_eq (N : Nat) (hN : 2000000 ≤ N) {b : Ty.den tBook} {s e : List (Ty.den tI3)} (w : BookWf b) (hr : okRows b.2.2.1 = true) (hs : okStock b.2.2.2.1 = true) (lr : b.2.2.1.length ≤ 90000) (ls : b.2.2.2.1.length ≤ 90000) (gs : GoodS s) (ge : GoodE e) :
    book_Moved N b s (e.map entW) = some (movedOf b s e) := by
  unfold book_Moved movedOf
  rw [BCopy_eq N w, Option.bind_some, Post_eq N hN hs ls w.qs gs, PostR_eq N hN hr lr w.qr ge, stock_one hs gs.place, rows_one hr ge.key]
  unfold outS
  rw [Option.bind_some, Option.bind_some]
  have e1 : eqB 2 0 = false := eqB_f (by omega)
  have e2 : eqB 0 0 = true := eqB_t rfl
  cases coll Fq (fS b.2.2.2.1 s) stockG with
  | none => dsimp only; rw [e1]; rfl
  | some s' =>
    cases coll In64 (fS b.2.2.1 e) rowsG with
    | none => dsimp only; rw [e1, e2]; rfl
    | some r' => dsimp only; rw [e2]; rfl
theorem With_eq (N : Nat) (hN : 4000000 ≤ N) {b : Ty.den tBook} {s e : List (Ty.den tI3)} (w : BookWf b) (hr : okRows b.2.2.1 = true) (hs : okStock b.2.2.2.1 = true) (lr : b.2.2.1.length ≤ 90000) (ls : b.2.2.2.1.length ≤ 90000) (gs : GoodS s) (ge : GoodE e) :
    novationref15_With N b s (e.map partB) = some (movedOf b s e) := by
  have h1 := gs.len
  have h2 := ge.len
  unfold novationref15_With movedOf
  rw [Shifted_eq N hN hs ls w.qs (fun x hx => (gs.q x hx).1) (by omega), Laid_eq N hN hr lr w.qr ge.q (by omega)]
  unfold outB
  rw [Option.bind_some, Option.bind_some]
  cases coll Fq (fS b.2.2.2.1 s) stockG with
  | none => rfl
  | some s' =>
    cases coll In64 (fS b.2.2.1 e) rowsG with
    | none => rfl
    | some r' => rfl

end VM
end

section
/- Plain laws: lots that may be, copies of lots. -/
set_option linter.unusedSimpArgs false
namespace VM
open Go VM.F
set_option linter.unusedVariables false
end VM
end

section
/- Plain laws: what an award comes to. -/
set_option linter.unusedSimpArgs false
namespace VM
open Go VM.F
set_option linter.unusedVariables false
abbrev AwS := List (Ty.den tI3) × List (Ty.den tI3) × List (Ty.den tLot)
structure AwInv (z : AwS) (i : Nat) : Prop where
  place : ∀ x ∈ z.1, okPlace x.1 x.2.1
  q : ∀ x ∈ z.1, In64 (qty x) ∧ okQ (qty x)
  len : z.1.length ≤ 12 * i
  flat : ∀ a : Int, (qtysIn a z.1).sum = 0
  key : ∀ x ∈ z.2.1, okKey x.1 x.2.1
  qe : ∀ x ∈ z.2.1, In64 (qty x)
  lene : z.2.1.length ≤ 2 * i
  zero : (z.2.1.map qty).sum = 0
  out : z.2.2.length = i
theorem qtysIn_append (a : Int) (l m : List (Ty.den tI3)) : qtysIn a (l ++ m) = qtysIn a l ++ qtysIn a m := by
  induction l with
  | nil => rfl
  | cons x t ih =>
    rw [List.cons_append, qtysIn_cons, qtysIn_cons, ih]
    split <;> rfl
theorem negQ {v : Int} (h : In64 v ∧ okQ v) : In64 (0 - v) ∧ okQ (0 - v) := by
  unfold In64 okQ at *; omega
theorem AwInv.nil : AwInv ([], [], []) 0 := ⟨fun x hx => (nomatch hx), fun x hx => (nomatch hx), Nat.le_refl _, fun a => rfl, fun x hx => (nomatch hx), fun x hx => (nomatch hx), Nat.le_refl _, rfl, rfl⟩
end VM
end

section
/- Plain laws: Award, of the program and of the reference. -/
set_option linter.unusedSimpArgs false
namespace VM
open Go VM.F
set_option linter.unusedVariables false
theorem okBook_parts {c : Ty.den tConfig} {b : Ty.den tBook} (h : okBook c b = true) : okRows b.2.2.1 = true ∧ okStock b.2.2.2.1 = true := by
  unfold okBook at h
  have h1 := (Bool.and_eq_true_iff.1 (Bool.and_eq_true_iff.1 h).2).2
  have h2 := Bool.and_eq_true_iff.1 h1
  have h3 := (Bool.and_eq_true_iff.1 (Bool.and_eq_true_iff.1 h2.2).2).1
  refine ⟨h2.1, ?_⟩
  unfold okFlat at h3
  exact (Bool.and_eq_true_iff.1 h3).2

/-- Sizes of a book that is to be moved. -/
structure BookWf2 (b : Ty.den tBook) : Prop where
  w : BookWf b
  r : b.2.2.1.length ≤ 90000
  s : b.2.2.2.1.length ≤ 90000

end VM
end

section
/- Plain laws: Award of the reference. -/
set_option linter.unusedSimpArgs false
namespace VM
open Go VM.F
set_option linter.unusedVariables false
end VM
end

section
/- Plain laws: AwardAll. -/
set_option linter.unusedSimpArgs false
namespace VM
open Go VM.F
set_option linter.unusedVariables false

theorem eqB_self (x : Int) : eqB x x = true := eqB_t rfl
theorem teq_i2 (x : Ty.den tI2) : teq (.pair (.int .i64) (.pair (.int .i64) .unit)) x x = true := by
  show (eqB x.1 x.1 && (eqB x.2.1 x.2.1 && true)) = true
  rw [eqB_self, eqB_self]; rfl
theorem teq_i3 (x : Ty.den tI3) : teq (.pair (.int .i64) (.pair (.int .i64) (.pair (.int .i64) .unit))) x x = true := by
  show (eqB x.1 x.1 && teq (.pair (.int .i64) (.pair (.int .i64) .unit)) x.2 x.2) = true
  rw [eqB_self, teq_i2]; rfl
theorem teq_i4 (x : Ty.den tI4) : teq (.pair (.int .i64) (.pair (.int .i64) (.pair (.int .i64) (.pair (.int .i64) .unit)))) x x = true := by
  show (eqB x.1 x.1 && teq (.pair (.int .i64) (.pair (.int .i64) (.pair (.int .i64) .unit))) x.2 x.2) = true
  rw [eqB_self, teq_i3]; rfl
theorem teq_i6 (x : Ty.den tI6) : teq (.pair (.int .i64) (.pair (.int .i64) (.pair (.int .i64) (.pair (.int .i64) (.pair (.int .i64) (.pair (.int .i64) .unit)))))) x x = true := by
  show (eqB x.1 x.1 && (eqB x.2.1 x.2.1 && teq (.pair (.int .i64) (.pair (.int .i64) (.pair (.int .i64) (.pair (.int .i64) .unit)))) x.2.2 x.2.2)) = true
  rw [eqB_self, eqB_self, teq_i4]; rfl

theorem same_loop {F : Nat → Int → Option Bool} {len : Nat} (hs : ∀ n (i : Nat), i < len → F n ((i + 1 : Nat) : Int) = some true → F (n + 1) (i : Int) = some true) (he : ∀ n, F (n + 1) (len : Int) = some true) : ∀ (m n i : Nat), len - i ≤ m → m < n → i ≤ len → F n (i : Int) = some true
  | m, 0, i, _, hn, _ => by omega
  | m, n + 1, i, hm, hn, hi => by
    by_cases h : i < len
    · exact hs n i h (same_loop hs he (m - 1) n (i + 1) (by omega) (by omega) (by omega))
    · have : i = len := by omega
      subst this; exact he n
theorem hMembers_eq (N : Nat) {l : List (Ty.den tI2)} (hl : l.length ≤ 100000) (hN : 200000 ≤ N) : novationhelp_Members N l l = some true := by
  unfold novationhelp_Members novationhelp_Members.b
  rw [eqB_self, Bool.not_true, cond_false]
  refine same_loop (F := fun n i => novationhelp_Members.l4 N n l l i) (len := l.length) (fun n i hi hr => ?_) (fun n => ?_) l.length N 0 (by omega) (by omega) (by omega)
  · unfold novationhelp_Members.l4 novationhelp_Members.l4b
    rw [ltB_t (by omega), cond_true, inb_t (by omega) (by omega), cond_true, cond_true, teq_i2, Bool.not_true, cond_false, W_i64 (x := (i : Int) + 1) (by omega) (by omega), natCast_succ' i]
    exact hr
  · unfold novationhelp_Members.l4 novationhelp_Members.l4b
    rw [ltB_f (by omega), cond_false]
theorem hAccs_eq (N : Nat) {l : List (Ty.den tI4)} (hl : l.length ≤ 100000) (hN : 200000 ≤ N) : novationhelp_Accs N l l = some true := by
  unfold novationhelp_Accs novationhelp_Accs.b
  rw [eqB_self, Bool.not_true, cond_false]
  refine same_loop (F := fun n i => novationhelp_Accs.l4 N n l l i) (len := l.length) (fun n i hi hr => ?_) (fun n => ?_) l.length N 0 (by omega) (by omega) (by omega)
  · unfold novationhelp_Accs.l4 novationhelp_Accs.l4b
    rw [ltB_t (by omega), cond_true, inb_t (by omega) (by omega), cond_true, cond_true, teq_i4, Bool.not_true, cond_false, W_i64 (x := (i : Int) + 1) (by omega) (by omega), natCast_succ' i]
    exact hr
  · unfold novationhelp_Accs.l4 novationhelp_Accs.l4b
    rw [ltB_f (by omega), cond_false]
theorem hRows_eq (N : Nat) {l : List (Ty.den tI3)} (hl : l.length ≤ 100000) (hN : 200000 ≤ N) : novationhelp_Rows N l l = some true := by
  unfold novationhelp_Rows novationhelp_Rows.b
  rw [eqB_self, Bool.not_true, cond_false]
  refine same_loop (F := fun n i => novationhelp_Rows.l4 N n l l i) (len := l.length) (fun n i hi hr => ?_) (fun n => ?_) l.length N 0 (by omega) (by omega) (by omega)
  · unfold novationhelp_Rows.l4 novationhelp_Rows.l4b
    rw [ltB_t (by omega), cond_true, inb_t (by omega) (by omega), cond_true, cond_true, teq_i3, Bool.not_true, cond_false, W_i64 (x := (i : Int) + 1) (by omega) (by omega), natCast_succ' i]
    exact hr
  · unfold novationhelp_Rows.l4 novationhelp_Rows.l4b
    rw [ltB_f (by omega), cond_false]
theorem hStock_eq (N : Nat) {l : List (Ty.den tI3)} (hl : l.length ≤ 100000) (hN : 200000 ≤ N) : novationhelp_Stock N l l = some true := by
  unfold novationhelp_Stock novationhelp_Stock.b
  rw [eqB_self, Bool.not_true, cond_false]
  refine same_loop (F := fun n i => novationhelp_Stock.l4 N n l l i) (len := l.length) (fun n i hi hr => ?_) (fun n => ?_) l.length N 0 (by omega) (by omega) (by omega)
  · unfold novationhelp_Stock.l4 novationhelp_Stock.l4b
    rw [ltB_t (by omega), cond_true, inb_t (by omega) (by omega), cond_true, cond_true, teq_i3, Bool.not_true, cond_false, W_i64 (x := (i : Int) + 1) (by omega) (by omega), natCast_succ' i]
    exact hr
  · unfold novationhelp_Stock.l4 novationhelp_Stock.l4b
    rw [ltB_f (by omega), cond_false]
theorem hOrders_eq (N : Nat) {l : List (Ty.den tI6)} (hl : l.length ≤ 100000) (hN : 200000 ≤ N) : novationhelp_Orders N l l = some true := by
  unfold novationhelp_Orders novationhelp_Orders.b
  rw [eqB_self, Bool.not_true, cond_false]
  refine same_loop (F := fun n i => novationhelp_Orders.l4 N n l l i) (len := l.length) (fun n i hi hr => ?_) (fun n => ?_) l.length N 0 (by omega) (by omega) (by omega)
  · unfold novationhelp_Orders.l4 novationhelp_Orders.l4b
    rw [ltB_t (by omega), cond_true, inb_t (by omega) (by omega), cond_true, cond_true, teq_i6, Bool.not_true, cond_false, W_i64 (x := (i : Int) + 1) (by omega) (by omega), natCast_succ' i]
    exact hr
  · unfold novationhelp_Orders.l4 novationhelp_Orders.l4b
    rw [ltB_f (by omega), cond_false]
theorem hInts_eq (N : Nat) {l : List (Int)} (hl : l.length ≤ 100000) (hN : 200000 ≤ N) : novationhelp_Ints N l l = some true := by
  unfold novationhelp_Ints novationhelp_Ints.b
  rw [eqB_self, Bool.not_true, cond_false]
  refine same_loop (F := fun n i => novationhelp_Ints.l4 N n l l i) (len := l.length) (fun n i hi hr => ?_) (fun n => ?_) l.length N 0 (by omega) (by omega) (by omega)
  · unfold novationhelp_Ints.l4 novationhelp_Ints.l4b
    rw [ltB_t (by omega), cond_true, inb_t (by omega) (by omega), cond_true, cond_true, eqB_self, Bool.not_true, cond_false, W_i64 (x := (i : Int) + 1) (by omega) (by omega), natCast_succ' i]
    exact hr
  · unfold novationhelp_Ints.l4 novationhelp_Ints.l4b
    rw [ltB_f (by omega), cond_false]
theorem hBook_eq (N : Nat) (hN : 200000 ≤ N) {b : Ty.den tBook} (h1 : b.1.length ≤ 100000) (h2 : b.2.1.length ≤ 100000) (h3 : b.2.2.1.length ≤ 100000) (h4 : b.2.2.2.1.length ≤ 100000) (h5 : b.2.2.2.2.1.length ≤ 100000) (h6 : b.2.2.2.2.2.1.length ≤ 100000) : novationhelp_Book N b b = some true := by
  unfold novationhelp_Book
  rw [hMembers_eq N h1 hN, Option.bind_some, cond_true, hAccs_eq N h2 hN, Option.bind_some, cond_true, hRows_eq N h3 hN, Option.bind_some, cond_true, hStock_eq N h4 hN, Option.bind_some, cond_true, hInts_eq N h5 hN, Option.bind_some, cond_true, hOrders_eq N h6 hN, Option.bind_some]
theorem coll_len {P : Int → Prop} [DecidablePred P] {f : Int → Int → Int} : ∀ {K : List Key2} {o : List (Ty.den tI3)}, coll P f K = some o → o.length ≤ K.length
  | [], o, h => by
    have : some [] = some o := h
    rw [← Option.some.inj this]; exact Nat.le_refl _
  | k :: t, o, h => by
    rw [coll_cons] at h
    by_cases hP : P (f k.1 k.2)
    · rw [if_pos hP] at h
      cases hc : coll P f t with
      | none => rw [hc] at h; exact absurd h (by simp)
      | some r =>
        have ih := coll_len hc
        rw [hc] at h
        have h' := Option.some.inj h
        rw [← h', List.length_cons]
        dsimp only
        split
        · omega
        · rw [List.length_cons]; omega
    · rw [if_neg hP] at h; exact absurd h (by simp)
theorem stockG_len : stockG.length = 150 := by decide +kernel
theorem rowsG_len : rowsG.length = 175 := by decide +kernel
/-- A book whose parts are not too long. -/
structure Short (b : Ty.den tBook) : Prop where
  m : b.1.length ≤ 100000
  a : b.2.1.length ≤ 100000
  r : b.2.2.1.length ≤ 100000
  s : b.2.2.2.1.length ≤ 100000
  p : b.2.2.2.2.1.length ≤ 100000
  o : b.2.2.2.2.2.1.length ≤ 100000
theorem short_nil : Short (([] : List (Ty.den tI2)), (([] : List (Ty.den tI4)), (([] : List (Ty.den tI3)), (([] : List (Ty.den tI3)), (([] : List Int), (([] : List (Ty.den tI6)), ())))))) := ⟨Nat.zero_le _, Nat.zero_le _, Nat.zero_le _, Nat.zero_le _, Nat.zero_le _, Nat.zero_le _⟩
theorem moved_short {b : Ty.den tBook} (w : BookWf b) (s e : List (Ty.den tI3)) : Short (movedOf b s e).1 := by
  unfold movedOf
  cases h1 : coll Fq (fS b.2.2.2.1 s) stockG with
  | none => exact short_nil
  | some s' =>
    cases h2 : coll In64 (fS b.2.2.1 e) rowsG with
    | none => exact short_nil
    | some r' =>
      have g1 := coll_len h1
      have g2 := coll_len h2
      rw [stockG_len] at g1
      rw [rowsG_len] at g2
      exact ⟨w.m, w.a, by show r'.length ≤ _; omega, by show s'.length ≤ _; omega, w.p, w.o⟩
end VM
end

section
/- Plain laws: AwardAll, whole. -/
set_option linter.unusedSimpArgs false
namespace VM
open Go VM.F Go.RowKit
set_option linter.unusedVariables false

def firstAt (a b : Int) : List (Ty.den tI3) → Int
  | [] => 0
  | x :: t => if x.1 = a then (if x.2.1 = b then x.2.2.1 else firstAt a b t) else firstAt a b t
theorem firstAt_cons (a b : Int) (x : Ty.den tI3) (t : List (Ty.den tI3)) : firstAt a b (x :: t) = if x.1 = a then (if x.2.1 = b then x.2.2.1 else firstAt a b t) else firstAt a b t := rfl
def heldOf (l : List (Ty.den tI3)) (a b : Int) : Int := if okStock l then firstAt a b l else 0
theorem Held_eq (N : Nat) {l : List (Ty.den tI3)} (hl : l.length ≤ 100000) (hN : 200000 ≤ N) (a b : Int) : novationref10_Held N l a b = some (heldOf l a b) := by
  unfold novationref10_Held novationref10_Held.b heldOf
  rw [rStock_eq N hl hN, Option.bind_some, cond_not]
  have := lrec0 l ((0 : Int), ((0 : Int), ((0 : Int), ()))) (fun n i => novationref10_Held.l4 N n l a b i) (fun t => some (firstAt a b t)) (fun n i hi hr => ?_) (fun n => ?_) N (by omega)
  · rw [this]; cases okStock l <;> rfl
  · unfold novationref10_Held.l4 novationref10_Held.l4b
    rw [ltB_t (by omega), cond_true, inb_t (by omega) (by omega), cond_true, cond_true, cond_true, Int.toNat_natCast, W_i64 (x := (i : Int) + 1) (by omega) (by omega), natCast_succ' i, hr, cond_eqB, cond_eqB, firstAt_cons]
    split
    · split <;> rfl
    · rfl
  · unfold novationref10_Held.l4 novationref10_Held.l4b
    rw [ltB_f (by omega), cond_false]; rfl
theorem mem_q64 {l : List (Ty.den tI3)} (h : ∀ i, i < l.length → In64 (qty (l.getD i ((0 : Int), ((0 : Int), ((0 : Int), ())))))) : Qty64 l := fun x hx => by
  obtain ⟨i, hi, e⟩ := List.getElem_of_mem hx
  have := h i hi
  rw [List.getD_eq_getElem?_getD, List.getElem?_eq_getElem hi] at this
  rw [← e]; exact this
theorem in64_of {x : Int} (h : (Lit.int .i64 x).wf = true) : In64 x := by
  have := wf_i64.1 h
  unfold In64; omega
theorem qty_wf {l : List (Ty.den tI3)} (h : WF (.slice tI3) l) : Qty64 l := fun x hx => by
  obtain ⟨i, hi, rfl⟩ := List.getElem_of_mem hx
  have h3 := h.2 i hi
  exact in64_of h3.2.2.1
namespace Pure
end Pure
end VM
end

section
/- Plain laws: an account's positions, what it costs to close them out. -/
set_option linter.unusedSimpArgs false
namespace VM
open Go VM.F
set_option linter.unusedVariables false
end VM
end

section
/- Plain laws: what a client bears; positions that go to the clearing house. -/
set_option linter.unusedSimpArgs false
namespace VM
open Go VM.F
set_option linter.unusedVariables false
end VM
end

section
/- Plain laws: orders of places. -/
set_option linter.unusedSimpArgs false
set_option linter.unusedVariables false
namespace VM
open Go VM.F

/-- The number at a place. -/
def at0 (l : List Int) (k : Int) : Int := l.getD k.toNat 0
/-- A place put in ahead of the first one with a smaller number. -/
def ins (l : List Int) : List Int → Int → List Int
  | [], i => [i]
  | k :: t, i => if at0 l i ≤ at0 l k then k :: ins l t i else i :: k :: t
def orderTo (l : List Int) : Nat → List Int
  | 0 => []
  | n + 1 => ins l (orderTo l n) n
def orderL (l : List Int) : List Int := orderTo l l.length
def Ahead (l : List Int) (a b : Int) : Prop := at0 l b < at0 l a ∨ (at0 l b = at0 l a ∧ a < b)

theorem ins_len (l : List Int) : ∀ (o : List Int) (i : Int), (ins l o i).length = o.length + 1
  | [], i => rfl
  | k :: t, i => by unfold ins; split <;> simp [ins_len l t i]
theorem orderTo_len (l : List Int) : ∀ n, (orderTo l n).length = n
  | 0 => rfl
  | n + 1 => by unfold orderTo; rw [ins_len, orderTo_len l n]
theorem orderL_len (l : List Int) : (orderL l).length = l.length := orderTo_len l _
theorem mem_ins (l : List Int) {x : Int} : ∀ {o : List Int} {i : Int}, x ∈ ins l o i ↔ x = i ∨ x ∈ o
  | [], i => by simp [ins]
  | k :: t, i => by
    unfold ins; split
    · rw [List.mem_cons, mem_ins l, List.mem_cons]
      exact ⟨fun h => h.elim (fun h => .inr (.inl h)) (fun h => h.elim .inl (fun h => .inr (.inr h))), fun h => h.elim (fun h => .inr (.inl h)) (fun h => h.elim .inl (fun h => .inr (.inr h)))⟩
    · rw [List.mem_cons]
theorem mem_orderTo (l : List Int) {x : Int} : ∀ {n : Nat}, x ∈ orderTo l n ↔ 0 ≤ x ∧ x < n
  | 0 => ⟨(fun h => nomatch h), fun h => absurd h.1 (by omega)⟩
  | n + 1 => by unfold orderTo; rw [mem_ins, mem_orderTo l]; omega
theorem ins_pairwise (l : List Int) : ∀ {o : List Int} {i : Int}, o.Pairwise (Ahead l) → (∀ x ∈ o, x < i) → (ins l o i).Pairwise (Ahead l)
  | [], i, _, _ => List.pairwise_singleton _ _
  | k :: t, i, h, hi => by
    rw [List.pairwise_cons] at h
    have hk : k < i := hi k (List.mem_cons_self ..)
    unfold ins; split
    · rename_i hle
      rw [List.pairwise_cons]
      refine ⟨fun x hx => ?_, ins_pairwise l h.2 (fun x hx => hi x (List.mem_cons_of_mem _ hx))⟩
      rcases (mem_ins l).1 hx with rfl | hx
      · unfold Ahead; omega
      · exact h.1 x hx
    · rename_i hle
      rw [List.pairwise_cons, List.pairwise_cons]
      refine ⟨fun x hx => ?_, h.1, h.2⟩
      rcases List.mem_cons.1 hx with rfl | hx
      · unfold Ahead; omega
      · have := h.1 x hx; unfold Ahead at *; omega
theorem orderTo_pairwise (l : List Int) : ∀ n, (orderTo l n).Pairwise (Ahead l)
  | 0 => List.Pairwise.nil
  | n + 1 => by unfold orderTo; exact ins_pairwise l (orderTo_pairwise l n) (fun x hx => ((mem_orderTo l).1 hx).2)

theorem ins_at (l : List Int) : ∀ (o : List Int) (i : Int) (p : Nat), p ≤ o.length → (∀ j, j < p → at0 l i ≤ at0 l (o.getD j 0)) → (p < o.length → at0 l (o.getD p 0) < at0 l i) → ins l o i = o.take p ++ i :: o.drop p
  | [], i, p, hp, _, _ => by simp at hp; subst hp; rfl
  | k :: t, i, 0, hp, _, h => by
    unfold ins; rw [if_neg (by have := h (by simp); simp at this; omega)]; rfl
  | k :: t, i, p + 1, hp, h0, h => by
    unfold ins
    have h1 : at0 l i ≤ at0 l k := h0 0 (by omega)
    rw [if_pos h1, ins_at l t i p (by simpa using hp) (fun j hj => by have := h0 (j + 1) (by omega); simpa using this) (fun hp' => by have := h (by simpa using hp'); simpa using this)]
    rfl

theorem ins_sum (l : List Int) (f : Int → Int) : ∀ (o : List Int) (i : Int), ((ins l o i).map f).sum = (o.map f).sum + f i
  | [], i => by simp [ins]
  | k :: t, i => by
    unfold ins; split
    · rw [List.map_cons, List.sum_cons, ins_sum l f t i, List.map_cons, List.sum_cons]; omega
    · simp only [List.map_cons, List.sum_cons]; omega
theorem orderTo_sum (l r : List Int) : ∀ n, n ≤ r.length → ((orderTo l n).map (at0 r)).sum = (r.take n).sum
  | 0, _ => rfl
  | n + 1, h => by
    unfold orderTo; rw [ins_sum, orderTo_sum l r n (by omega), sum_take_succ r (by omega)]
    unfold at0; rw [Int.toNat_natCast]
theorem orderL_sum (l r : List Int) (h : l.length = r.length) : ((orderL l).map (at0 r)).sum = r.sum := by
  unfold orderL; rw [orderTo_sum l r _ (by omega), List.take_of_length_le (by omega)]

theorem mem_getD {o : List Int} {j : Nat} (h : j < o.length) : o.getD j 0 ∈ o := by
  rw [List.getD_eq_getElem?_getD, List.getElem?_eq_getElem h]; exact List.getElem_mem h
theorem ahead_le {l o : List Int} (h : o.Pairwise (Ahead l)) {j k : Nat} (hjk : j < k) (hk : k < o.length) : Ahead l (o.getD j 0) (o.getD k 0) := by
  rw [List.pairwise_iff_getElem] at h
  rw [List.getD_eq_getElem?_getD, List.getElem?_eq_getElem (by omega), List.getD_eq_getElem?_getD, List.getElem?_eq_getElem hk]
  exact h j k (by omega) hk hjk

theorem orderTo_at {l : List Int} {n j : Nat} (h : j < n) : 0 ≤ (orderTo l n).getD j 0 ∧ (orderTo l n).getD j 0 < n := by
  exact (mem_orderTo l).1 (mem_getD (by rw [orderTo_len]; exact h))

theorem insertL_eq {α : Type} (N : Nat) {l : List α} {i : Nat} {x : α} (hi : i ≤ l.length) (hl : l.length < 1000000) : insertL N l (i : Int) [x] = some (l.take i ++ x :: l.drop i) := by
  unfold insertL
  rw [if_pos ⟨by omega, by omega, rfl, by unfold big; omega⟩]
  rfl

theorem Order_in (N : Nat) (K : List Int → List Int → Int → Int → Option (List Int)) {l : List Int} (hl : l.length ≤ 100000) (i : Nat) (hi : i < l.length) : ∀ (p n : Nat), p ≤ i → p < n → (∀ j, p ≤ j → j < i → at0 l ((orderTo l i).getD j 0) < at0 l i) →
    share_Order.l6 N K n l (orderTo l i) (i : Int) (p : Int) (l.length : Int) (i : Int) = K l (orderTo l (i + 1)) (l.length : Int) ((i + 1 : Nat) : Int)
  | p, 0, _, hn, _ => by omega
  | p, n + 1, hp, hn, h => by
    have hlen := orderTo_len l i
    have fin : ∀ h2 : (∀ j, j < p → at0 l i ≤ at0 l ((orderTo l i).getD j 0)), ins l (orderTo l i) i = (orderTo l i).take p ++ (i : Int) :: (orderTo l i).drop p := fun h2 => ins_at l _ _ p (by omega) h2 (fun h3 => h p (by omega) (by omega))
    unfold share_Order.l6 share_Order.l6b
    match p, hp, hn, h, fin with
    | 0, hp, hn, h, fin =>
      have e := fin (fun j hj => by omega)
      rw [ltB_f (by omega), cond_false, insertL_eq N (by omega) (by omega), Option.bind_some, ← e, W_i64 (by omega) (by omega)]
      rfl
    | p + 1, hp, hn, h, fin =>
      have hr := orderTo_at (l := l) (n := i) (j := p) (by omega)
      have e1 : W .i64 (((p + 1 : Nat) : Int) - 1) = (p : Int) := by rw [W_i64 (by omega) (by omega)]; omega
      have hrec := Order_in N K hl i hi p n (by omega) (by omega)
      dsimp only
      rw [e1, Int.toNat_natCast]
      unfold at0 at *
      rw [Int.toNat_natCast] at *
      rw [ltB_t (by omega), cond_true, inb_t (by omega) (by omega), cond_true, inb_t (by omega) (by omega), cond_true, inb_t (by omega) (by omega), cond_true]
      by_cases h3 : l.getD ((orderTo l i).getD p 0).toNat 0 < l.getD i 0
      · rw [ltB_t h3, cond_true]
        exact hrec (fun j h4 h5 => by
          by_cases hjp : j = p
          · rw [hjp]; exact h3
          · exact h j (by omega) h5)
      · rw [ltB_f (by omega), cond_false, insertL_eq N (by omega) (by omega), Option.bind_some, W_i64 (by omega) (by omega)]
        rw [← fin (fun j hj => by
          by_cases hjp : j = p
          · rw [hjp]; omega
          · have := ahead_le (orderTo_pairwise l i) (j := j) (k := p) (by omega) (by omega)
            unfold Ahead at0 at this; omega)]
        rfl

theorem Order_out (N : Nat) {l : List Int} (hl : l.length ≤ 100000) (hN : l.length < N) : ∀ (m n i : Nat), l.length - i ≤ m → m < n → i ≤ l.length →
    share_Order.l3 N n l (orderTo l i) (l.length : Int) (i : Int) = some (orderL l)
  | m, 0, i, _, hn, _ => by omega
  | m, n + 1, i, hm, hn, hi => by
    unfold share_Order.l3 share_Order.l3b
    by_cases h : i < l.length
    · rw [ltB_t (by omega), cond_true, orderTo_len, Order_in N _ hl i h i N (by omega) (by omega) (fun j _ _ => by omega)]
      exact Order_out N hl hN (m - 1) n (i + 1) (by omega) (by omega) (by omega)
    · rw [ltB_f (by omega), cond_false]
      unfold slices_Clip_int
      rw [okCut_t (by omega) (by omega) (by omega) (by omega), cond_true, Option.bind_some]
      simp only [Int.toNat_zero, List.drop_zero, Int.toNat_natCast, List.take_length]
      rw [show i = l.length by omega]; rfl

theorem Order_eq (N : Nat) {l : List Int} (hl : l.length ≤ 100000) (hN : l.length < N) : share_Order N l = some (orderL l) := by
  unfold share_Order share_Order.b
  rw [okMake_t (by omega) (by omega) (by omega), cond_true]
  exact Order_out N hl hN l.length N 0 (by omega) (by omega) (by omega)

theorem rOrder_in (N : Nat) (K : List Int → List Int → Int → Option (List Int)) {l : List Int} (hl : l.length ≤ 100000) (i : Nat) (hi : i < l.length) : ∀ (m n p : Nat), i - p ≤ m → m < n → p ≤ i → (∀ j, j < p → at0 l i ≤ at0 l ((orderTo l i).getD j 0)) →
    novationref1_Order.l6 N K n l (orderTo l i) (i : Int) (p : Int) = K l (orderTo l (i + 1)) ((i + 1 : Nat) : Int)
  | m, 0, p, _, hn, _, _ => by omega
  | m, n + 1, p, hm, hn, hp, h => by
    have hlen := orderTo_len l i
    have fin : ∀ h2 : (p < i → at0 l ((orderTo l i).getD p 0) < at0 l i), novationref1_Order.j8 N K l (orderTo l i) (i : Int) (p : Int) = K l (orderTo l (i + 1)) ((i + 1 : Nat) : Int) := fun h2 => by
      have e := ins_at l (orderTo l i) i p (by omega) h (fun h3 => h2 (by omega))
      unfold novationref1_Order.j8 novationref1_Order.j8b
      dsimp only
      rw [okCut_t (by omega) (by omega) (by omega) (by omega), cond_true, Int.toNat_natCast, Int.toNat_natCast, Int.toNat_zero, List.drop_zero]
      rw [small_t (by rw [List.length_take]; omega), cond_true, small_t (by rw [List.length_take]; simp only [List.length_singleton]; omega), cond_true, okCut_t (by omega) (by omega) (by omega) (by omega), cond_true, small_t (by simp only [List.length_append, List.length_take, List.length_drop, List.length_singleton]; omega), cond_true, W_i64 (by omega) (by omega), List.take_length, List.append_assoc, List.singleton_append, ← e]
      rfl
    unfold novationref1_Order.l6 novationref1_Order.l6b
    by_cases hpi : p < i
    · have hr := orderTo_at (l := l) (n := i) (j := p) hpi
      rw [ltB_t (by omega), cond_true, inb_t (by omega) (by omega), cond_true, Int.toNat_natCast, Int.toNat_natCast, inb_t (by omega) (by omega), cond_true, inb_t (by omega) (by omega), cond_true]
      by_cases h3 : l.getD i 0 ≤ l.getD ((orderTo l i).getD p 0).toNat 0
      · rw [leB_t h3, cond_true, W_i64 (by omega) (by omega)]
        refine rOrder_in N K hl i hi (m - 1) n (p + 1) (by omega) (by omega) (by omega) (fun j hj => ?_)
        by_cases hjp : j = p
        · rw [hjp]; unfold at0; rw [Int.toNat_natCast]; exact h3
        · exact h j (by omega)
      · rw [leB_f (by omega), cond_false]
        exact fin (fun _ => by unfold at0; rw [Int.toNat_natCast]; omega)
    · rw [ltB_f (by omega), cond_false]
      exact fin (fun h => absurd h hpi)

theorem rOrder_out (N : Nat) {l : List Int} (hl : l.length ≤ 100000) (hN : l.length < N) : ∀ (m n i : Nat), l.length - i ≤ m → m < n → i ≤ l.length →
    novationref1_Order.l3 N n l (orderTo l i) (i : Int) = some (orderL l)
  | m, 0, i, _, hn, _ => by omega
  | m, n + 1, i, hm, hn, hi => by
    unfold novationref1_Order.l3 novationref1_Order.l3b
    by_cases h : i < l.length
    · have := rOrder_in N (novationref1_Order.l3 N n) hl i h i N 0 (by omega) (by omega) (by omega) (fun j hj => by omega)
      rw [ltB_t (by omega), cond_true]
      refine Eq.trans this ?_
      exact rOrder_out N hl hN (m - 1) n (i + 1) (by omega) (by omega) (by omega)
    · rw [ltB_f (by omega), cond_false, show i = l.length by omega]; rfl

theorem rOrder_eq (N : Nat) {l : List Int} (hl : l.length ≤ 100000) (hN : l.length < N) : novationref1_Order N l = some (orderL l) := by
  unfold novationref1_Order novationref1_Order.b
  exact rOrder_out N hl hN l.length N 0 (by omega) (by omega) (by omega)
end VM
end

