/- A part of the proof of TearAll, of layer 29: what the functions compute, in plain words. -/
import Derived.Test.YtnkhdmeoclffaaaGreatPlain4
set_option linter.all false
section
/- Plain laws: Cuts, of the program and of the reference. -/
set_option linter.unusedSimpArgs false
namespace VM
open Go VM.F
set_option linter.unusedVariables false

theorem sg_in {q x : Int} (h0 : 0 ≤ x) (h1 : x < 9223372036854775808) : In64 (sg q x) ∧ okQ (sg q x) := by
  unfold sg In64 okQ; split <;> omega
theorem full_out {t left : Int} {w out : List Int} (f : Full t w w out left) (i : Nat) (hi : i < w.length) : 0 ≤ out.getD i 0 ∧ out.getD i 0 < 9223372036854775808 := by
  have c := f.c
  have h1 := c.le i hi
  have h2 := (c.pc i).2
  have h3 := c.po i
  omega

theorem cut_loop (N : Nat) {a q : Int} {accs out : List Int} (hl : accs.length = out.length) (hle : out.length ≤ 1000) (ho : ∀ i, i < out.length → 0 ≤ out.getD i 0 ∧ out.getD i 0 < 9223372036854775808) (s : List (Ty.den tI3)) (hs : s.length ≤ 1000) (hN : 200000 ≤ N) :
    tear_Cuts.l21 N N a q accs s out (out.length : Int) 0 = some (s ++ zc a q (out.zip accs), 0) := by
  have hz : (out.zip accs).length = out.length := by rw [List.length_zip]; omega
  have := lrec (out.zip accs) (0, 0) (fun n i s => tear_Cuts.l21 N n a q accs s out (out.length : Int) i) (fun t s => some (s ++ zc a q t, (0 : Int))) (fun i (s : List (Ty.den tI3)) => s.length ≤ 1000 + i) (fun n i s hi hI hr => ?_) (fun n s hI => ?_) out.length N 0 s (by omega) (by omega) (by omega) (by omega)
  · exact this
  · unfold tear_Cuts.l21 tear_Cuts.l21b
    have hi' : i < out.length := by omega
    have h2 := ho i hi'
    rw [ltB_t (by omega), cond_true, inb_t (by omega) (by omega), cond_true, Int.toNat_natCast, inb_t (by omega) (by omega), cond_true, W_i64 (x := (i : Int) + 1) (by omega) (by omega), natCast_succ' i, W_i64 (x := 0 - out.getD i 0) (by omega) (by omega), zip_at hi' (by omega), zc_cons]
    dsimp only
    rw [cond_true, small_t (by rw [List.length_singleton]; omega), cond_true, small_t (by rw [List.length_singleton]; omega), cond_true]
    have e : sg q (out.getD i 0) = if q < 0 then 0 - out.getD i 0 else out.getD i 0 := rfl
    rw [cond_ltB, cond_not, cond_not, cond_eqB, cond_eqB]
    have fin : (if sg q (out.getD i 0) = 0 then tear_Cuts.l21 N n a q accs s out (out.length : Int) ((i + 1 : Nat) : Int) else tear_Cuts.l21 N n a q accs (s ++ [(accs.getD i 0, (a, (sg q (out.getD i 0), ())))]) out (out.length : Int) ((i + 1 : Nat) : Int)) = some (s ++ (if sg q (out.getD i 0) = 0 then zc a q ((out.zip accs).drop (i + 1)) else (accs.getD i 0, (a, (sg q (out.getD i 0), ()))) :: zc a q ((out.zip accs).drop (i + 1))), (0 : Int)) := by
      by_cases h : sg q (out.getD i 0) = 0
      · rw [if_pos h, if_pos h]; exact hr s (by omega)
      · rw [if_neg h, if_neg h, hr _ (by rw [List.length_append, List.length_singleton]; omega), List.append_assoc]; rfl
    refine Eq.trans ?_ fin
    by_cases h : q < 0
    · rw [if_pos h, e, if_pos h]
    · rw [if_neg h, e, if_neg h]
  · unfold tear_Cuts.l21 tear_Cuts.l21b
    rw [hz, ltB_f (by omega), cond_false]
    show _ = some (s ++ [], (0 : Int))
    rw [List.append_nil]
theorem rcut_loop (N : Nat) {a q : Int} {accs out : List Int} (hl : accs.length = out.length) (hle : out.length ≤ 1000) (ho : ∀ i, i < out.length → 0 ≤ out.getD i 0 ∧ out.getD i 0 < 9223372036854775808) (s : List (Ty.den tI3)) (hs : s.length ≤ 1000) (hN : 200000 ≤ N) :
    novationref26_Cuts.l21 N N a q accs out s 0 = some (s ++ zc a q (out.zip accs), 0) := by
  have hz : (out.zip accs).length = out.length := by rw [List.length_zip]; omega
  have := lrec (out.zip accs) (0, 0) (fun n i s => novationref26_Cuts.l21 N n a q accs out s i) (fun t s => some (s ++ zc a q t, (0 : Int))) (fun i (s : List (Ty.den tI3)) => s.length ≤ 1000 + i) (fun n i s hi hI hr => ?_) (fun n s hI => ?_) out.length N 0 s (by omega) (by omega) (by omega) (by omega)
  · exact this
  · unfold novationref26_Cuts.l21 novationref26_Cuts.l21b
    have hi' : i < out.length := by omega
    have h2 := ho i hi'
    rw [ltB_t (by omega), cond_true, inb_t (by omega) (by omega), cond_true, Int.toNat_natCast, inb_t (by omega) (by omega), cond_true, W_i64 (x := (i : Int) + 1) (by omega) (by omega), natCast_succ' i, W_i64 (x := 0 - out.getD i 0) (by omega) (by omega), zip_at hi' (by omega), zc_cons]
    dsimp only
    rw [cond_true, small_t (by rw [List.length_singleton]; omega), cond_true, small_t (by rw [List.length_singleton]; omega), cond_true]
    have e : sg q (out.getD i 0) = if q < 0 then 0 - out.getD i 0 else out.getD i 0 := rfl
    rw [cond_ltB, cond_not, cond_not, cond_eqB, cond_eqB]
    have fin : (if sg q (out.getD i 0) = 0 then novationref26_Cuts.l21 N n a q accs out s ((i + 1 : Nat) : Int) else novationref26_Cuts.l21 N n a q accs out (s ++ [(accs.getD i 0, (a, (sg q (out.getD i 0), ())))]) ((i + 1 : Nat) : Int)) = some (s ++ (if sg q (out.getD i 0) = 0 then zc a q ((out.zip accs).drop (i + 1)) else (accs.getD i 0, (a, (sg q (out.getD i 0), ()))) :: zc a q ((out.zip accs).drop (i + 1))), (0 : Int)) := by
      by_cases h : sg q (out.getD i 0) = 0
      · rw [if_pos h, if_pos h]; exact hr s (by omega)
      · rw [if_neg h, if_neg h, hr _ (by rw [List.length_append, List.length_singleton]; omega), List.append_assoc]; rfl
    refine Eq.trans ?_ fin
    by_cases h : q < 0
    · rw [if_pos h, e, if_pos h]
    · rw [if_neg h, e, if_neg h]
  · unfold novationref26_Cuts.l21 novationref26_Cuts.l21b
    rw [hz, ltB_f (by omega), cond_false]
    show _ = some (s ++ [], (0 : Int))
    rw [List.append_nil]

theorem held_in {l : List (Ty.den tI3)} (h : ∀ x ∈ l, In64 (qty x) ∧ okQ (qty x)) (a b : Int) : In64 (heldOf l a b) ∧ okQ (heldOf l a b) := by
  have key : ∀ l : List (Ty.den tI3), (∀ x ∈ l, In64 (qty x) ∧ okQ (qty x)) → In64 (firstAt a b l) ∧ okQ (firstAt a b l) := by
    intro l
    induction l with
    | nil => intro _; show In64 0 ∧ okQ 0; decide
    | cons x t ih =>
      intro h
      have ih := ih (fun y hy => h y (List.mem_cons_of_mem _ hy))
      rw [firstAt_cons]
      split
      · split
        · exact h x (List.mem_cons_self ..)
        · exact ih
      · exact ih
  unfold heldOf
  split
  · exact key l h
  · decide
theorem acc_len (l : List (Ty.den tI3)) : (accsL l).length = l.length := List.length_map ..
theorem size_len (l : List (Ty.den tI3)) : (sizesL l).length = l.length := List.length_map ..
theorem natAbs_in {q : Int} (h : In64 q ∧ okQ q) : (q.natAbs : Int) < 9223372036854775808 := by unfold In64 okQ at h; omega
theorem stock_q {l : List (Ty.den tI3)} (hk : okStock l = true) (hq : Qty64 l) : ∀ x ∈ l, In64 (qty x) ∧ okQ (qty x) := fun x hx => ⟨hq x hx, ((okStock_srt hk).2 x hx).2⟩
/-- What is so where the shares are told. -/
theorem cap_facts {l : List (Ty.den tI3)} (hk : okStock l = true) (hq : Qty64 l) {a q : Int} (h64 : In64 q ∧ okQ q) (hc : (capOf l a q).2.2 = 0) :
    Full (q.natAbs : Int) (sizesL (picks a q l)) (sizesL (picks a q l)) (capOf l a q).1 (capOf l a q).2.1 ∧ (capOf l a q).1.length = (picks a q l).length ∧ (capOf l a q).1.length ≤ 64 ∧ ∀ i, i < (capOf l a q).1.length → 0 ≤ (capOf l a q).1.getD i 0 ∧ (capOf l a q).1.getD i 0 < 9223372036854775808 := by
  have f : Full (q.natAbs : Int) (sizesL (picks a q l)) (sizesL (picks a q l)) (capOf l a q).1 (capOf l a q).2.1 := capped_len (natAbs_in h64) (sizes_i64 (stock_q hk hq) a q) hc
  have h1 := f.c.l2
  have h2 := f.c.n
  rw [size_len] at h1 h2
  exact ⟨f, h1, by omega, fun i hi => full_out f i (by rw [size_len]; omega)⟩

theorem Cuts_eq (N : Nat) (hN : 5000000 ≤ N) (c : Ty.den tConfig) {b : Ty.den tBook} (w : BookWf b) (a : Int) : tear_Cuts N c b a = some (cutsOf c b a) := by
  unfold tear_Cuts tear_Cuts.b cutsOf
  rw [Book_eq N (by omega) w, Option.bind_some, SGet_eq N w.s (by omega), Option.bind_some, cond_not, cond_ltB, cond_leB, cond_eqB]
  by_cases hB : okBook c b = false
  · rw [hB]; rfl
  rw [Bool.not_eq_false] at hB
  rw [hB, cond_true, if_pos rfl]
  obtain ⟨_, hk⟩ := okBook_parts hB
  have hq := stock_q hk w.qs
  have hh := held_in hq 0 a
  have hlen := w.s
  have hqs := w.qs
  generalize b.2.2.2.1 = l at *
  generalize heldOf l 0 a = q at *
  by_cases h1 : a < 0
  · rw [if_pos h1, if_pos h1]
  rw [if_neg h1, if_neg h1]
  by_cases h2 : (c.1.length : Int) ≤ a
  · rw [if_pos h2, if_pos h2]
  rw [if_neg h2, if_neg h2]
  by_cases h3 : q = 0
  · rw [if_pos h3, if_pos h3]
  rw [if_neg h3, if_neg h3]
  have hq' := hh.1
  unfold In64 at hq'
  have hqn : q ≠ -9223372036854775808 := hh.2
  have := lrec l ((0 : Int), ((0 : Int), ((0 : Int), ()))) (fun n i (z : List (Ty.den tI3)) => tear_Cuts.l11 N n a q (accsL z) (sizesL z) l (l.length : Int) i)
    (fun t z => some (if (capOf l a q).2.2 = 0 then (cutS l a q, 0) else ([], (capOf l a q).2.2))) (fun i z => z ++ picks a q (l.drop i) = picks a q l ∧ z.length ≤ i)
    (fun n i z hi hI hr => ?_) (fun n z hI => ?_) l.length N 0 [] (by omega) (by omega) (by omega) ⟨rfl, Nat.le_refl _⟩
  · exact this
  · unfold tear_Cuts.l11 tear_Cuts.l11b
    obtain ⟨i1, i2⟩ := hI
    have hm : l.getD i ((0 : Int), ((0 : Int), ((0 : Int), ()))) ∈ l := by
      rw [List.getD_eq_getElem?_getD, List.getElem?_eq_getElem hi]; exact List.getElem_mem hi
    have hx := hq _ hm
    rw [drop_cons hi ((0 : Int), ((0 : Int), ((0 : Int), ()))), picks_cons] at i1
    rw [ltB_t (by omega), cond_true, inb_t (by omega) (by omega), cond_true, Int.toNat_natCast, W_i64 (x := (i : Int) + 1) (by omega) (by omega), natCast_succ' i]
    generalize l.getD i ((0 : Int), ((0 : Int), ((0 : Int), ()))) = x at *
    have hx' := hx.1
    unfold In64 qty at hx'
    have hxs : (x.2.2.1.natAbs : Int) < 9223372036854775808 := natAbs_in hx
    rw [small_t (by rw [acc_len, List.length_singleton]; omega), cond_true, Size_eq N hx'.1 hx'.2, Option.bind_some, W_i64 (x := (x.2.2.1.natAbs : Int)) (by omega) (by omega)]
    dsimp only
    rw [small_t (by rw [size_len, List.length_singleton]; omega), cond_true, cond_not, cond_eqB, cond_eqB, cond_not, teq_bool, ltB_eq, ltB_eq]
    by_cases e1 : x.1 = 0
    · rw [if_pos e1]
      rw [if_neg (fun h => h.1 e1)] at i1
      exact hr z ⟨i1, by omega⟩
    · rw [if_neg e1]
      by_cases e2 : x.2.1 = a
      · rw [if_pos e2]
        by_cases e3 : oppI (qty x) q
        · have eb : (decide (x.2.2.1 < 0) == decide (q < 0)) = false := by
            unfold oppI qty at e3
            by_cases g1 : x.2.2.1 < 0 <;> by_cases g2 : q < 0
            · exact absurd ⟨fun _ => g2, fun _ => g1⟩ e3
            · rw [decide_eq_true g1, decide_eq_false g2]; rfl
            · rw [decide_eq_false g1, decide_eq_true g2]; rfl
            · exact absurd ⟨fun h => absurd h g1, fun h => absurd h g2⟩ e3
          rw [eb, cond_false]
          rw [if_pos ⟨e1, e2, e3⟩] at i1
          have := hr (z ++ [x]) ⟨by rw [List.append_assoc]; exact i1, by rw [List.length_append, List.length_singleton]; omega⟩
          unfold accsL sizesL at this
          rw [List.map_append, List.map_append] at this
          exact this
        · have eb : (decide (x.2.2.1 < 0) == decide (q < 0)) = true := by
            unfold oppI qty at e3
            have e3 := Decidable.not_not.1 e3
            rw [show decide (x.2.2.1 < 0) = decide (q < 0) from decide_eq_decide.2 e3]
            exact beq_self_eq_true _
          rw [eb, cond_true]
          rw [if_neg (fun h => e3 h.2.2)] at i1
          exact hr z ⟨i1, by omega⟩
      · rw [if_neg e2]
        rw [if_neg (fun h => e2 h.2.1)] at i1
        exact hr z ⟨i1, by omega⟩
  · unfold tear_Cuts.l11 tear_Cuts.l11b
    obtain ⟨i1, i2⟩ := hI
    rw [List.drop_length] at i1
    have ez : z = picks a q l := by rw [← i1]; exact (List.append_nil _).symm
    subst ez
    have hsz := size_len (picks a q l)
    rw [ltB_f (by omega), cond_false, Size_eq N hq'.1 hq'.2, Option.bind_some, W_i64 (x := (q.natAbs : Int)) (by omega) (by omega), Capped_eq N hN (by omega) (sizes_i64 hq a q) (sizes_i64 hq a q) (by rw [hsz]; omega), Option.bind_some, cond_not, cond_eqB, W_i64 (x := 0 - q) (by omega) (by omega)]
    show (if (capOf l a q).2.2 = 0 then _ else _) = _
    by_cases h4 : (capOf l a q).2.2 = 0
    · rw [if_pos h4, if_pos h4]
      obtain ⟨f, g1, g2, g3⟩ := cap_facts hk hqs hh h4
      exact cut_loop N (by rw [acc_len]; omega) (by omega) g3 _ (by simp) (by omega)
    · rw [if_neg h4, if_neg h4]; rfl

theorem stock_nz {l : List (Ty.den tI3)} (h : okStock l = true) : ∀ x ∈ l, qty x ≠ 0 := fun x hx => by
  unfold okStock at h
  rw [Bool.and_true] at h
  obtain ⟨i, hi, e⟩ := List.getElem_of_mem hx
  have := of_decide_eq_true h i hi
  unfold okPos okPos6 at this
  rw [List.getD_eq_getElem?_getD, List.getElem?_eq_getElem hi] at this
  simp only [Option.getD_some, e] at this
  exact this.2.1
theorem mx_abs {x : Int} (h : In64 x ∧ okQ x) : mx x (W .i64 (0 - x)) = (x.natAbs : Int) := by
  unfold In64 okQ at h
  rw [W_i64 (by omega) (by omega), mx_eq]; split <;> omega
theorem opp_flip {x q : Int} (hx : x ≠ 0) (hq : q ≠ 0) : oppI x q ↔ ¬ ((0 < x) ↔ (0 < q)) := by
  unfold oppI; omega
theorem rCuts_eq (N : Nat) (hN : 5000000 ≤ N) (c : Ty.den tConfig) {b : Ty.den tBook} (w : BookWf b) (a : Int) : novationref26_Cuts N c b a = some (cutsOf c b a) := by
  unfold novationref26_Cuts novationref26_Cuts.b cutsOf
  rw [rBook_eq N (by omega) w, Option.bind_some, Held_eq N w.s (by omega), Option.bind_some, cond_not, cond_ltB, cond_leB, cond_eqB]
  by_cases hB : okBook c b = false
  · rw [hB]; rfl
  rw [Bool.not_eq_false] at hB
  rw [hB, cond_true, if_pos rfl]
  obtain ⟨_, hk⟩ := okBook_parts hB
  have hq := stock_q hk w.qs
  have hnz := stock_nz hk
  have hh := held_in hq 0 a
  have hlen := w.s
  have hqs := w.qs
  generalize heldOf b.2.2.2.1 0 a = q at *
  by_cases h1 : a < 0
  · rw [if_pos h1, if_pos h1]
  rw [if_neg h1, if_neg h1]
  by_cases h2 : (c.1.length : Int) ≤ a
  · rw [if_pos h2, if_pos h2]
  rw [if_neg h2, if_neg h2]
  by_cases h3 : q = 0
  · rw [if_pos h3, if_pos h3]
  rw [if_neg h3, if_neg h3]
  have hq' := hh.1
  unfold In64 at hq'
  have hqn : q ≠ -9223372036854775808 := hh.2
  have := lrec b.2.2.2.1 ((0 : Int), ((0 : Int), ((0 : Int), ()))) (fun n i (z : List (Ty.den tI3)) => novationref26_Cuts.l11 N n a b q (accsL z) (sizesL z) i)
    (fun t z => some (if (capOf b.2.2.2.1 a q).2.2 = 0 then (cutS b.2.2.2.1 a q, 0) else ([], (capOf b.2.2.2.1 a q).2.2))) (fun i z => z ++ picks a q (b.2.2.2.1.drop i) = picks a q b.2.2.2.1 ∧ z.length ≤ i)
    (fun n i z hi hI hr => ?_) (fun n z hI => ?_) b.2.2.2.1.length N 0 [] (by omega) (by omega) (by omega) ⟨rfl, Nat.le_refl _⟩
  · exact this
  · unfold novationref26_Cuts.l11 novationref26_Cuts.l11b
    obtain ⟨i1, i2⟩ := hI
    have hm : b.2.2.2.1.getD i ((0 : Int), ((0 : Int), ((0 : Int), ()))) ∈ b.2.2.2.1 := by
      rw [List.getD_eq_getElem?_getD, List.getElem?_eq_getElem hi]; exact List.getElem_mem hi
    have hx := hq _ hm
    have hn := hnz _ hm
    rw [drop_cons hi ((0 : Int), ((0 : Int), ((0 : Int), ()))), picks_cons] at i1
    rw [ltB_t (by omega), cond_true, inb_t (by omega) (by omega), cond_true, Int.toNat_natCast, W_i64 (x := (i : Int) + 1) (by omega) (by omega), natCast_succ' i]
    generalize b.2.2.2.1.getD i ((0 : Int), ((0 : Int), ((0 : Int), ()))) = x at *
    have hmx : mx x.2.2.1 (W .i64 (0 - x.2.2.1)) = (x.2.2.1.natAbs : Int) := mx_abs hx
    rw [small_t (by rw [acc_len, List.length_singleton]; omega), cond_true, hmx]
    dsimp only
    rw [small_t (by rw [size_len, List.length_singleton]; omega), cond_true, cond_not, cond_eqB, cond_eqB, cond_not, teq_bool, ltB_eq, ltB_eq]
    by_cases e1 : x.1 = 0
    · rw [if_pos e1]
      rw [if_neg (fun h => h.1 e1)] at i1
      exact hr z ⟨i1, by omega⟩
    · rw [if_neg e1]
      by_cases e2 : x.2.1 = a
      · rw [if_pos e2]
        by_cases e3 : oppI (qty x) q
        · have eb : (decide (0 < x.2.2.1) == decide (0 < q)) = false := by
            have e3 := (opp_flip hn h3).1 e3
            unfold qty at e3
            by_cases g1 : 0 < x.2.2.1 <;> by_cases g2 : 0 < q
            · exact absurd ⟨fun _ => g2, fun _ => g1⟩ e3
            · rw [decide_eq_true g1, decide_eq_false g2]; rfl
            · rw [decide_eq_false g1, decide_eq_true g2]; rfl
            · exact absurd ⟨fun h => absurd h g1, fun h => absurd h g2⟩ e3
          rw [eb, cond_false]
          rw [if_pos ⟨e1, e2, e3⟩] at i1
          have := hr (z ++ [x]) ⟨by rw [List.append_assoc]; exact i1, by rw [List.length_append, List.length_singleton]; omega⟩
          unfold accsL sizesL at this
          rw [List.map_append, List.map_append] at this
          exact this
        · have eb : (decide (0 < x.2.2.1) == decide (0 < q)) = true := by
            have e3 := Decidable.not_not.1 (fun h => e3 ((opp_flip hn h3).2 h))
            unfold qty at e3
            rw [show decide (0 < x.2.2.1) = decide (0 < q) from decide_eq_decide.2 e3]
            exact beq_self_eq_true _
          rw [eb, cond_true]
          rw [if_neg (fun h => e3 h.2.2)] at i1
          exact hr z ⟨i1, by omega⟩
      · rw [if_neg e2]
        rw [if_neg (fun h => e2 h.2.1)] at i1
        exact hr z ⟨i1, by omega⟩
  · unfold novationref26_Cuts.l11 novationref26_Cuts.l11b
    obtain ⟨i1, i2⟩ := hI
    rw [List.drop_length] at i1
    have ez : z = picks a q b.2.2.2.1 := by rw [← i1]; exact (List.append_nil _).symm
    subst ez
    have hsz := size_len (picks a q b.2.2.2.1)
    have hpl := picks_len a q b.2.2.2.1
    rw [ltB_f (by omega), cond_false, mx_abs hh, rCapped_eq N hN (natAbs_in hh) (sizes_i64 hq a q) (sizes_i64 hq a q) (by rw [hsz]; omega), Option.bind_some, cond_not, cond_eqB, W_i64 (x := 0 - q) (by omega) (by omega)]
    show (if (capOf b.2.2.2.1 a q).2.2 = 0 then _ else _) = _
    by_cases h4 : (capOf b.2.2.2.1 a q).2.2 = 0
    · rw [if_pos h4, if_pos h4]
      obtain ⟨f, g1, g2, g3⟩ := cap_facts hk hqs hh h4
      exact rcut_loop N (by rw [acc_len]; omega) (by omega) g3 _ (by simp) (by omega)
    · rw [if_neg h4, if_neg h4]; rfl
end VM
end

section
/- Plain laws: TearAll. -/
set_option linter.unusedSimpArgs false
namespace VM
open Go VM.F Go.RowKit
set_option linter.unusedVariables false

/-- Shifts that come to nothing. -/
structure ShInv (s : List (Ty.den tI3)) (n : Nat) : Prop where
  place : ∀ x ∈ s, okPlace x.1 x.2.1
  q : ∀ x ∈ s, In64 (qty x) ∧ okQ (qty x)
  len : s.length ≤ n
  flat : ∀ i : Int, (qtysIn i s).sum = 0
theorem ShInv.nil (n : Nat) : ShInv [] n := ⟨fun x hx => (nomatch hx), fun x hx => (nomatch hx), Nat.zero_le _, fun i => rfl⟩
theorem ShInv.app {s t : List (Ty.den tI3)} {n m k : Nat} (a : ShInv s n) (b : ShInv t m) (h : n + m ≤ k) : ShInv (s ++ t) k :=
  ⟨fun x hx => (List.mem_append.1 hx).elim (a.place x) (b.place x), fun x hx => (List.mem_append.1 hx).elim (a.q x) (b.q x), by rw [List.length_append]; have := a.len; have := b.len; omega, fun i => by rw [qtysIn_append, List.sum_append, a.flat, b.flat]; rfl⟩
theorem ShInv.good {s : List (Ty.den tI3)} {n : Nat} (a : ShInv s n) (h : n ≤ 400) : GoodS s := ⟨a.place, a.q, by have := a.len; omega, a.flat⟩

theorem zc_sum (a q i : Int) : ∀ t : List (Int × Int), (qtysIn i (zc a q t)).sum = if a = i then sg q (t.map (·.1)).sum else 0
  | [] => by
    show (0 : Int) = if a = i then sg q 0 else 0
    unfold sg; split <;> (try split) <;> rfl
  | p :: t => by
    have ih := zc_sum a q i t
    have hs : sg q ((p :: t).map (·.1)).sum = sg q p.1 + sg q (t.map (·.1)).sum := by
      rw [List.map_cons, List.sum_cons]; unfold sg; split <;> omega
    rw [zc_cons, hs]
    by_cases h : sg q p.1 = 0
    · rw [if_pos h, ih, h]; split <;> omega
    · rw [if_neg h, qtysIn_cons]
      dsimp only
      by_cases e : a = i
      · rw [if_pos e, if_pos e, List.sum_cons, ih, if_pos e]; rfl
      · rw [if_neg e, if_neg e, ih, if_neg e]
theorem zc_mem {a q : Int} {x : Ty.den tI3} : ∀ {t : List (Int × Int)}, x ∈ zc a q t → ∃ p ∈ t, x = (p.2, (a, (sg q p.1, ())))
  | [], h => nomatch h
  | p :: t, h => by
    rw [zc_cons] at h
    split at h
    · obtain ⟨p', hp, e⟩ := zc_mem h
      exact ⟨p', List.mem_cons_of_mem _ hp, e⟩
    · rcases List.mem_cons.1 h with e | h
      · exact ⟨p, List.mem_cons_self .., e⟩
      · obtain ⟨p', hp, e⟩ := zc_mem h
        exact ⟨p', List.mem_cons_of_mem _ hp, e⟩
theorem zc_len (a q : Int) : ∀ t : List (Int × Int), (zc a q t).length ≤ t.length
  | [] => Nat.le_refl _
  | p :: t => by
    have := zc_len a q t
    rw [zc_cons, List.length_cons]
    split
    · omega
    · rw [List.length_cons]; omega
theorem okBook_flat {c : Ty.den tConfig} {b : Ty.den tBook} (h : okBook c b = true) : okFlat b.2.2.2.1 = true ∧ okPlan c = true := by
  unfold okBook at h
  have h0 := Bool.and_eq_true_iff.1 h
  have h1 := (Bool.and_eq_true_iff.1 h0.2).2
  have h2 := Bool.and_eq_true_iff.1 h1
  exact ⟨(Bool.and_eq_true_iff.1 (Bool.and_eq_true_iff.1 h2.2).2).1, h0.1⟩
theorem cuts_inv {c : Ty.den tConfig} {b : Ty.den tBook} (hB : okBook c b = true) (w : BookWf b) {a : Int} (h : (cutsOf c b a).2 = 0) : ShInv (cutsOf c b a).1 65 := by
  obtain ⟨_, hk⟩ := okBook_parts hB
  obtain ⟨hf, hpl⟩ := okBook_flat hB
  have hq := stock_q hk w.qs
  have hh := held_in hq 0 a
  obtain ⟨hs, hpp⟩ := okStock_srt hk
  unfold cutsOf at h ⊢
  rw [if_pos hB] at h ⊢
  by_cases h1 : a < 0
  · rw [if_pos h1]; exact ShInv.nil _
  rw [if_neg h1] at h ⊢
  by_cases h2 : (c.1.length : Int) ≤ a
  · rw [if_pos h2]; exact ShInv.nil _
  rw [if_neg h2] at h ⊢
  by_cases h3 : heldOf b.2.2.2.1 0 a = 0
  · rw [if_pos h3]; exact ShInv.nil _
  rw [if_neg h3] at h ⊢
  by_cases h4 : (capOf b.2.2.2.1 a (heldOf b.2.2.2.1 0 a)).2.2 = 0
  · rw [if_pos h4]
    have hfirst : firstAt 0 a b.2.2.2.1 = heldOf b.2.2.2.1 0 a := by unfold heldOf; rw [hk]; rfl
    have hn6 : a < 6 := by
      unfold okPlan at hpl
      have := (of_decide_eq_true (Bool.and_eq_true_iff.1 hpl).1).2
      omega
    have hz : (qtysIn a b.2.2.2.1).sum = 0 := by
      unfold okFlat at hf
      have hfa := of_decide_eq_true (Bool.and_eq_true_iff.1 hf).1 a.toNat (by unfold nInsts; omega)
      unfold flatAt eqI instSum at hfa
      rw [hk, if_pos rfl, show ((a.toNat : Nat) : Int) = a by omega] at hfa
      exact hfa
    generalize heldOf b.2.2.2.1 0 a = q at *
    obtain ⟨f, g1, g2, g3⟩ := cap_facts hk w.qs hh h4
    have hleft := full_all f (opp_enough hs hz hfirst h3)
    have hsum := f.c.s
    rw [hleft, Int.add_zero] at hsum
    have hzl : ((capOf b.2.2.2.1 a q).1.zip (accsL (picks a q b.2.2.2.1))).map (·.1) = (capOf b.2.2.2.1 a q).1 := List.map_fst_zip (by rw [acc_len]; omega)
    have hsg : sg q (q.natAbs : Int) = q := by unfold sg; split <;> omega
    have hzz : ∀ x ∈ zc a q ((capOf b.2.2.2.1 a q).1.zip (accsL (picks a q b.2.2.2.1))), okPlace x.1 x.2.1 ∧ In64 (qty x) ∧ okQ (qty x) := fun x hx => by
      obtain ⟨p, hp, rfl⟩ := zc_mem hx
      obtain ⟨i, hi, e⟩ := List.getElem_of_mem hp
      rw [List.length_zip] at hi
      have e' := zip_at (out := (capOf b.2.2.2.1 a q).1) (accs := accsL (picks a q b.2.2.2.1)) (i := i) (by omega) (by omega)
      rw [List.getD_eq_getElem?_getD, List.getElem?_eq_getElem (by rw [List.length_zip]; omega)] at e'
      have ep : p = _ := e.symm.trans e'
      have hr := g3 i (by omega)
      rw [ep]
      refine ⟨?_, sg_in hr.1 hr.2⟩
      have hm : (accsL (picks a q b.2.2.2.1)).getD i 0 ∈ accsL (picks a q b.2.2.2.1) := by
        rw [List.getD_eq_getElem?_getD, List.getElem?_eq_getElem (by omega)]; exact List.getElem_mem _
      obtain ⟨y, hy, ey⟩ := List.mem_map.1 hm
      have hy' := mem_picks hy
      have hpy := (hpp y hy'.1).1
      have g : ∀ u v z : Int, okPlace u v → v = a → u = z → okPlace z a := fun u v z h e1 e2 => by rw [← e1, ← e2]; exact h
      exact g _ _ _ hpy hy'.2.2 ey
    refine ⟨fun x hx => ?_, fun x hx => ?_, ?_, fun i => ?_⟩
    · rcases List.mem_cons.1 hx with e | hx
      · rw [e]; show okPlace 0 a; unfold okPlace; omega
      · exact (hzz x hx).1
    · rcases List.mem_cons.1 hx with e | hx
      · rw [e]; exact negQ hh
      · exact (hzz x hx).2
    · unfold cutS
      rw [List.length_cons]
      have := zc_len a q ((capOf b.2.2.2.1 a q).1.zip (accsL (picks a q b.2.2.2.1)))
      rw [List.length_zip] at this
      omega
    · unfold cutS
      rw [qtysIn_cons]
      dsimp only
      by_cases e : a = i
      · rw [if_pos e, List.sum_cons, zc_sum, if_pos e, hzl, hsum, hsg]
        show 0 - q + q = 0
        omega
      · rw [if_neg e, zc_sum, if_neg e]
  · rw [if_neg h4] at h
    exact absurd h h4

/-- All instruments, one by one. -/
def tearL (c : Ty.den tConfig) (b : Ty.den tBook) : Nat → Nat → List (Ty.den tI3) → Ty.den tBook × Int
  | 0, _, s => movedOf b s []
  | m + 1, i, s => if (cutsOf c b (i : Int)).2 = 0 then tearL c b m (i + 1) (s ++ (cutsOf c b (i : Int)).1) else ((([] : List ((Int) × ((Int) × (Unit)))), (([] : List ((Int) × ((Int) × ((Int) × ((Int) × (Unit)))))), (([] : List ((Int) × ((Int) × ((Int) × (Unit))))), (([] : List ((Int) × ((Int) × ((Int) × (Unit))))), (([] : List (Int)), (([] : List ((Int) × ((Int) × ((Int) × ((Int) × ((Int) × ((Int) × (Unit)))))))), ())))))), (cutsOf c b (i : Int)).2)
def tearOf (c : Ty.den tConfig) (b : Ty.den tBook) : Ty.den tBook × Int := if okBook c b then tearL c b c.1.length 0 [] else ((([] : List ((Int) × ((Int) × (Unit)))), (([] : List ((Int) × ((Int) × ((Int) × ((Int) × (Unit)))))), (([] : List ((Int) × ((Int) × ((Int) × (Unit))))), (([] : List ((Int) × ((Int) × ((Int) × (Unit))))), (([] : List (Int)), (([] : List ((Int) × ((Int) × ((Int) × ((Int) × ((Int) × ((Int) × (Unit)))))))), ())))))), 1)
theorem goodE_nil : GoodE [] := ⟨fun x hx => (nomatch hx), fun x hx => (nomatch hx), Nat.zero_le _, rfl⟩
theorem Tear_eq (N : Nat) (hN : 5000000 ≤ N) (c : Ty.den tConfig) {b : Ty.den tBook} (w : BookWf2 b) : tear_Tear N c b = some (tearOf c b) := by
  unfold tear_Tear tear_Tear.b tearOf
  rw [Book_eq N (by omega) w.w, Option.bind_some, cond_not]
  by_cases hB : okBook c b = false
  · rw [hB]; rfl
  rw [Bool.not_eq_false] at hB
  rw [hB, cond_true, if_pos rfl]
  obtain ⟨hr, hs⟩ := okBook_parts hB
  have h6 : c.1.length ≤ 6 := by
    have hpl := (okBook_flat hB).2
    unfold okPlan at hpl
    exact (of_decide_eq_true (Bool.and_eq_true_iff.1 hpl).1).2
  have key : ∀ (m n i : Nat) (s : List (Ty.den tI3)), i + m = c.1.length → m < n → ShInv s (65 * i) → tear_Tear.l5 N n c b (([] : List ((Int) × ((Int) × (Unit)))), (([] : List ((Int) × ((Int) × ((Int) × ((Int) × (Unit)))))), (([] : List ((Int) × ((Int) × ((Int) × (Unit))))), (([] : List ((Int) × ((Int) × ((Int) × (Unit))))), (([] : List (Int)), (([] : List ((Int) × ((Int) × ((Int) × ((Int) × ((Int) × ((Int) × (Unit)))))))), ())))))) s (c.1.length : Int) (i : Int) = some (tearL c b m i s) := by
    intro m n
    induction n generalizing m with
    | zero => intro i s _ hn _; omega
    | succ n ih =>
      intro i s hi hn I
      unfold tear_Tear.l5 tear_Tear.l5b
      have hls := I.len
      match m, hi, hn with
      | 0, hi, hn =>
        have hmv := Moved_eq N (by omega) w.w hr hs w.r w.s (I.good (by omega)) goodE_nil
        rw [ltB_f (by omega), cond_false]
        show (book_Moved N b s ([].map entW)).bind _ = some (movedOf b s [])
        rw [hmv, Option.bind_some]
      | m + 1, hi, hn =>
        rw [ltB_t (by omega), cond_true, Cuts_eq N hN c w.w, Option.bind_some, cond_not, cond_eqB, W_i64 (x := (i : Int) + 1) (by omega) (by omega), natCast_succ' i]
        show _ = some (if (cutsOf c b (i : Int)).2 = 0 then tearL c b m (i + 1) (s ++ (cutsOf c b (i : Int)).1) else ((([] : List ((Int) × ((Int) × (Unit)))), (([] : List ((Int) × ((Int) × ((Int) × ((Int) × (Unit)))))), (([] : List ((Int) × ((Int) × ((Int) × (Unit))))), (([] : List ((Int) × ((Int) × ((Int) × (Unit))))), (([] : List (Int)), (([] : List ((Int) × ((Int) × ((Int) × ((Int) × ((Int) × ((Int) × (Unit)))))))), ())))))), (cutsOf c b (i : Int)).2))
        by_cases h : (cutsOf c b (i : Int)).2 = 0
        · have J := cuts_inv hB w.w h
          have hlj := J.len
          rw [if_pos h, if_pos h, small_t (by omega), cond_true]
          exact ih m (i + 1) _ (by omega) (by omega) (I.app J (by omega))
        · rw [if_neg h, if_neg h]
  exact key c.1.length N 0 [] (by omega) (by omega) (ShInv.nil _)
theorem rTear_eq (N : Nat) (hN : 5000000 ≤ N) (c : Ty.den tConfig) {b : Ty.den tBook} (w : BookWf2 b) : novationref26_Tear N c b = some (tearOf c b) := by
  unfold novationref26_Tear novationref26_Tear.b tearOf
  rw [rBook_eq N (by omega) w.w, Option.bind_some, cond_not]
  by_cases hB : okBook c b = false
  · rw [hB]; rfl
  rw [Bool.not_eq_false] at hB
  rw [hB, cond_true, if_pos rfl]
  obtain ⟨hr, hs⟩ := okBook_parts hB
  have h6 : c.1.length ≤ 6 := by
    have hpl := (okBook_flat hB).2
    unfold okPlan at hpl
    exact (of_decide_eq_true (Bool.and_eq_true_iff.1 hpl).1).2
  have key : ∀ (m n i : Nat) (s : List (Ty.den tI3)), i + m = c.1.length → m < n → ShInv s (65 * i) → novationref26_Tear.l5 N n c b (([] : List ((Int) × ((Int) × (Unit)))), (([] : List ((Int) × ((Int) × ((Int) × ((Int) × (Unit)))))), (([] : List ((Int) × ((Int) × ((Int) × (Unit))))), (([] : List ((Int) × ((Int) × ((Int) × (Unit))))), (([] : List (Int)), (([] : List ((Int) × ((Int) × ((Int) × ((Int) × ((Int) × ((Int) × (Unit)))))))), ())))))) s (i : Int) = some (tearL c b m i s) := by
    intro m n
    induction n generalizing m with
    | zero => intro i s _ hn _; omega
    | succ n ih =>
      intro i s hi hn I
      unfold novationref26_Tear.l5 novationref26_Tear.l5b
      have hls := I.len
      match m, hi, hn with
      | 0, hi, hn =>
        have hmv := With_eq N (by omega) w.w hr hs w.r w.s (I.good (by omega)) goodE_nil
        rw [ltB_f (by omega), cond_false]
        show (novationref15_With N b s ([].map partB)).bind _ = some (movedOf b s [])
        rw [hmv, Option.bind_some]
      | m + 1, hi, hn =>
        rw [ltB_t (by omega), cond_true, rCuts_eq N hN c w.w, Option.bind_some, cond_not, cond_eqB, W_i64 (x := (i : Int) + 1) (by omega) (by omega), natCast_succ' i]
        show _ = some (if (cutsOf c b (i : Int)).2 = 0 then tearL c b m (i + 1) (s ++ (cutsOf c b (i : Int)).1) else ((([] : List ((Int) × ((Int) × (Unit)))), (([] : List ((Int) × ((Int) × ((Int) × ((Int) × (Unit)))))), (([] : List ((Int) × ((Int) × ((Int) × (Unit))))), (([] : List ((Int) × ((Int) × ((Int) × (Unit))))), (([] : List (Int)), (([] : List ((Int) × ((Int) × ((Int) × ((Int) × ((Int) × ((Int) × (Unit)))))))), ())))))), (cutsOf c b (i : Int)).2))
        by_cases h : (cutsOf c b (i : Int)).2 = 0
        · have J := cuts_inv hB w.w h
          have hlj := J.len
          rw [if_pos h, if_pos h, small_t (by omega), cond_true]
          exact ih m (i + 1) _ (by omega) (by omega) (I.app J (by omega))
        · rw [if_neg h, if_neg h]
  exact key c.1.length N 0 [] (by omega) (by omega) (ShInv.nil _)
theorem tear_short {c : Ty.den tConfig} {b : Ty.den tBook} (w : BookWf b) : Short (tearOf c b).1 := by
  have key : ∀ (m i : Nat) (s : List (Ty.den tI3)), Short (tearL c b m i s).1 := by
    intro m
    induction m with
    | zero => intro i s; exact moved_short w s []
    | succ m ih =>
      intro i s
      show Short (if (cutsOf c b (i : Int)).2 = 0 then tearL c b m (i + 1) (s ++ (cutsOf c b (i : Int)).1) else ((([] : List ((Int) × ((Int) × (Unit)))), (([] : List ((Int) × ((Int) × ((Int) × ((Int) × (Unit)))))), (([] : List ((Int) × ((Int) × ((Int) × (Unit))))), (([] : List ((Int) × ((Int) × ((Int) × (Unit))))), (([] : List (Int)), (([] : List ((Int) × ((Int) × ((Int) × ((Int) × ((Int) × ((Int) × (Unit)))))))), ())))))), (cutsOf c b (i : Int)).2)).1
      split
      · exact ih _ _
      · exact short_nil
  unfold tearOf
  split
  · exact key _ _ _
  · exact short_nil
theorem cuts_len {c : Ty.den tConfig} {b : Ty.den tBook} (w : BookWf b) (a : Int) : (cutsOf c b a).1.length ≤ 100000 := by
  by_cases hB : okBook c b = true
  · by_cases h : (cutsOf c b a).2 = 0
    · have := (cuts_inv hB w h).len; omega
    · unfold cutsOf at h ⊢
      rw [if_pos hB] at h ⊢
      by_cases h1 : a < 0
      · rw [if_pos h1]; exact Nat.zero_le _
      rw [if_neg h1] at h ⊢
      by_cases h2 : (c.1.length : Int) ≤ a
      · rw [if_pos h2]; exact Nat.zero_le _
      rw [if_neg h2] at h ⊢
      by_cases h3 : heldOf b.2.2.2.1 0 a = 0
      · rw [if_pos h3]; exact Nat.zero_le _
      rw [if_neg h3] at h ⊢
      by_cases h4 : (capOf b.2.2.2.1 a (heldOf b.2.2.2.1 0 a)).2.2 = 0
      · rw [if_pos h4] at h; exact absurd rfl h
      · rw [if_neg h4]; exact Nat.zero_le _
  · unfold cutsOf
    rw [if_neg hB]; exact Nat.zero_le _
theorem hShifts_eq (N : Nat) {l : List (Ty.den tI3)} (hl : l.length ≤ 100000) (hN : 200000 ≤ N) : novationhelp_Shifts N l l = some true := by
  unfold novationhelp_Shifts novationhelp_Shifts.b
  rw [eqB_self, Bool.not_true, cond_false]
  refine same_loop (F := fun n i => novationhelp_Shifts.l4 N n l l i) (len := l.length) (fun n i hi hr => ?_) (fun n => ?_) l.length N 0 (by omega) (by omega) (by omega)
  · unfold novationhelp_Shifts.l4 novationhelp_Shifts.l4b
    rw [ltB_t (by omega), cond_true, inb_t (by omega) (by omega), cond_true, cond_true, teq_i3, Bool.not_true, cond_false, W_i64 (x := (i : Int) + 1) (by omega) (by omega), natCast_succ' i]
    exact hr
  · unfold novationhelp_Shifts.l4 novationhelp_Shifts.l4b
    rw [ltB_f (by omega), cond_false]
theorem TTold_eq (N : Nat) (hN : 5000000 ≤ N) (c : Ty.den tConfig) {b : Ty.den tBook} (w : BookWf2 b) (a : Int) : novationlaw29_told N c b a = some true := by
  unfold novationlaw29_told
  have sh := tear_short (c := c) w.w
  rw [Cuts_eq N hN c w.w, Option.bind_some, rCuts_eq N hN c w.w, Option.bind_some, Tear_eq N hN c w, Option.bind_some, rTear_eq N hN c w, Option.bind_some, eqB_self, cond_true, hShifts_eq N (cuts_len w.w a) (by omega), Option.bind_some, cond_true, eqB_self, cond_true, hBook_eq N (by omega) sh.m sh.a sh.r sh.s sh.p sh.o, Option.bind_some]

def tC : Ty.den tConfig := ([((0 : Int), ((100 : Int), ((0 : Int), ((0 : Int), ()))))], ((0 : Int), ((0 : Int), ((0 : Int), ((0 : Int), ((1 : Int), ((0 : Int), ())))))))
def tS : List (Ty.den tI3) := [((0 : Int), ((0 : Int), ((3 : Int), ()))), ((1 : Int), ((0 : Int), ((-4 : Int), ()))), ((2 : Int), ((0 : Int), ((-2 : Int), ()))), ((3 : Int), ((0 : Int), ((3 : Int), ())))]
def tB : Ty.den tBook := ([((1 : Int), ((1 : Int), ()))], ([((1 : Int), ((1 : Int), ((1 : Int), ((0 : Int), ())))), ((2 : Int), ((1 : Int), ((2 : Int), ((0 : Int), ())))), ((3 : Int), ((1 : Int), ((2 : Int), ((0 : Int), ()))))], (([] : List (Ty.den tI3)), (tS, ([(100 : Int)], (([] : List ((Int) × ((Int) × ((Int) × ((Int) × ((Int) × ((Int) × (Unit)))))))), ()))))))
theorem tW : BookWf2 tB := ⟨⟨by decide, by decide, by decide, by decide, by decide, by decide, fun x hx => (nomatch hx), mem_q64 (l := tS) (by decide)⟩, by decide, by decide⟩
def tL0 : List (Ty.den tI3) := [((0 : Int), ((0 : Int), ((-3 : Int), ()))), ((1 : Int), ((0 : Int), ((2 : Int), ()))), ((2 : Int), ((0 : Int), ((1 : Int), ())))]
def tL1 : List (Ty.den tI3) := [((1 : Int), ((0 : Int), ((-2 : Int), ()))), ((2 : Int), ((0 : Int), ((-1 : Int), ()))), ((3 : Int), ((0 : Int), ((3 : Int), ())))]
theorem tC0 : cutsOf tC tB 0 = (tL0, 0) := by kernel_rfl
theorem tC1 : (cutsOf tC tB 1).2 = 3 := by kernel_rfl
theorem tT0 : (tearOf tC tB).2 = 0 := by kernel_rfl
theorem tT1 : (tearOf tC tB).1.2.2.2.1 = tL1 := by kernel_rfl
theorem tknown_eq (N : Nat) (hN : 5000000 ≤ N) : novationlaw29_known N = some true := by
  unfold novationlaw29_known novationlaw29_small
  rw [Option.bind_some]
  show (tear_Cuts N tC tB 0).bind _ = _
  rw [Cuts_eq N hN tC tW.w, Option.bind_some, tC0]
  show (tear_Tear N tC tB).bind _ = _
  rw [Tear_eq N hN tC tW, Option.bind_some]
  show (tear_Cuts N tC tB 1).bind _ = _
  rw [Cuts_eq N hN tC tW.w, Option.bind_some, tC1, tT0, tT1]
  have h1 : novationhelp_Shifts N tL0 tL0 = some true := hShifts_eq N (by decide) (by omega)
  have h2 : novationhelp_Stock N tL1 tL1 = some true := hStock_eq N (by decide) (by omega)
  show cond (eqB 0 0) ((novationhelp_Shifts N tL0 tL0).bind fun r5 => cond (r5) (cond (eqB 0 0) ((novationhelp_Stock N tL1 tL1).bind fun r6 => cond (r6) (some (eqB 3 3)) (some false)) (some false)) (some false)) (some false) = some true
  rw [h1, h2]
  simp only [eqB_self, cond_true, Option.bind_some]

namespace Pure
theorem TearAll (c : Ty.den tConfig) (b : Ty.den tBook) (a : Int) (h : WFs [tConfig, tBook, .int .i64] (c, b, a)) : ∃ N, novationlaw29_TearAll N c b a = some true := by
  refine ⟨6000000, ?_⟩
  obtain ⟨_, h2, _⟩ := h
  have h2 : WF tBook b := h2
  have hr : Qty64 b.2.2.1 := qty_wf h2.2.2.1
  have hs : Qty64 b.2.2.2.1 := qty_wf h2.2.2.2.1
  unfold novationlaw29_TearAll
  rw [tknown_eq 6000000 (by omega), Option.bind_some, Bool.not_true, cond_false]
  simp only [cond_ltB]
  repeat' (split; rfl)
  rw [TTold_eq 6000000 (by omega) c ⟨⟨by omega, by omega, by omega, by omega, by omega, by omega, hr, hs⟩, by omega, by omega⟩ a]
  rfl
end Pure
end VM
end

