/- A part of the proof of HedgeAll of layer 22: what the functions compute, in plain words. -/
import Derived.Test.YthpchkeghefokaaGreatPlain3
import Derived.Test.YthpchkeghefokaaGreatPlain1
import Derived.Test.YthpchkeghefokaaGreatPlain0
set_option linter.all false
section
/- Plain laws: book.Trades. -/
set_option linter.unusedSimpArgs false
namespace VM
open Go VM.F
set_option linter.unusedVariables false

theorem btrade_loop (N : Nat) (hN : 10 ≤ N) {l : wtI5} (hl : l.length ≤ 100000) : ∀ (m n i : Nat), l.length - i ≤ m → m < n → i ≤ l.length →
    ∃ r, F177.l2 N n l () (l.length : Int) (i : Int) = some r ∧ (leB 0 r = !(l.drop i).all (fun t => decide (okTrade t)))
  | m, 0, i, _, hn, _ => by omega
  | m, n + 1, i, hm, hn, hi => by
    unfold F177.l2 F177.l2b F95
    by_cases h : i < l.length
    · rw [ltB_t (by omega), cond_true, inb_t (by omega) (by omega), cond_true, Int.toNat_natCast, mTrade_eq N hN, Option.bind_some, Option.bind_some, cond_not, cond_dec, drop_cons h zz5, List.all_cons]
      by_cases hP : okTrade (l.getD i zz5)
      · rw [if_pos hP, W_i64 (by omega) (by omega), decide_eq_true hP, Bool.true_and]
        exact btrade_loop N hN hl (m - 1) n (i + 1) (by omega) (by omega) (by omega)
      · rw [if_neg hP, decide_eq_false hP, Bool.false_and]
        exact ⟨_, rfl, by rw [leB_t (by omega)]; rfl⟩
    · have e : i = l.length := by omega
      subst e
      rw [ltB_f (by omega), cond_false, List.drop_length]
      exact ⟨_, rfl, by rw [leB_f (by omega)]; rfl⟩
theorem btrades_eq (N : Nat) {l : wtI5} (hl : l.length ≤ 100000) (hN : 200000 ≤ N) : F94 N l () = some (!l.all (fun t => decide (okTrade t))) := by
  unfold F94 F177 F177.b
  obtain ⟨r, e, h⟩ := btrade_loop N (by omega) hl l.length N 0 (by omega) (by omega) (by omega)
  rw [show ((0 : Nat) : Int) = 0 from rfl] at e
  rw [e, Option.bind_some, h, List.drop_zero]

theorem Trades_move (N : Nat) (hN : 4000000 ≤ N) (c : vtConfig) {b : vtBook} (w : BookWf2 b) (hB : okBook c b = true) {l : wtI5} (hk : ∀ t ∈ l, okTrade t) (hth : ∀ t ∈ l, thereT c b t = true) (hl : l.length ≤ 200) :
    F31.l12 N N b (ee2, (ee4, (ee3, (ee3, (eeI, (ee6, ())))))) [] [] l (l.length : Int) 0 = some (movedOf b (tradeS l) (tradeE b l)) := by
  obtain ⟨hr, hs⟩ := okBook_parts hB
  obtain ⟨hpl, hpr⟩ := okBook_prices hB
  have gs := trades_gs hk hl
  have hnat : ∀ t ∈ l, t.2.2.1.toNat < b.2.2.2.2.1.length ∧ inb t.2.2.1 b.2.2.2.2.1.length = true := fun t ht => by
    have h := hth t ht
    unfold thereT at h
    have hlt := of_decide_eq_true (Bool.and_eq_true_iff.1 (Bool.and_eq_true_iff.1 h).2).2
    have hin := (hk t ht).2.2.2.1
    have g : ∀ x : Int, (0 ≤ x ∧ x < 6) → ltI x c.1.length → x.toNat < b.2.2.2.2.1.length ∧ inb x b.2.2.2.2.1.length = true := fun x _ h => by unfold ltI at h; exact ⟨by omega, inb_t (by omega) (by omega)⟩
    exact g _ hin hlt
  have hall : ∀ t ∈ l, okTrade t ∧ priceIn (priceAt b t) := fun t ht => ⟨hk t ht, price_ok hpr (hnat t ht).1⟩
  have := lrec l zz5 (fun n i (z : wtI3 × wtI3) => F31.l12 N n b (ee2, (ee4, (ee3, (ee3, (eeI, (ee6, ())))))) z.1 (z.2.map entW) l (l.length : Int) i)
    (fun u z => some (movedOf b (tradeS l) (tradeE b l)))
    (fun i z => z.1 ++ tradeS (l.drop i) = tradeS l ∧ z.2 ++ tradeE b (l.drop i) = tradeE b l)
    (fun n i z hi hI hrec => ?_) (fun n z hI => ?_) l.length N 0 ([], []) (by omega) (by omega) (by omega) ⟨rfl, rfl⟩
  · exact this
  · unfold F31.l12 F31.l12b
    obtain ⟨i1, i2⟩ := hI
    have hls := tradeS_len l
    have hle := tradeE_len b l
    have z1 : z.1.length ≤ 400 := by rw [← i1, List.length_append] at hls; omega
    have z2 : z.2.length ≤ 400 := by rw [← i2, List.length_append] at hle; omega
    have hm : l.getD i zz5 ∈ l := by
      rw [List.getD_eq_getElem?_getD, List.getElem?_eq_getElem hi]; exact List.getElem_mem hi
    have ht := hk _ hm
    have hn := hnat _ hm
    have hp := (hall _ hm).2
    rw [drop_cons hi zz5, tradeS_cons] at i1
    rw [drop_cons hi zz5, tradeE_cons] at i2
    rw [ltB_t (by omega), cond_true, inb_t (by omega) (by omega), cond_true, Int.toNat_natCast, W_i64 (x := (i : Int) + 1) (by omega) (by omega), natCast_succ' i]
    generalize l.getD i zz5 = t at *
    have hq := ht.2.2.2.2.1
    have e0 : W .i64 (0 - t.2.2.2.1) = 0 - t.2.2.2.1 := by
      have g : ∀ d : Int, 1 ≤ d ∧ d ≤ 1000000000 → W .i64 (0 - d) = 0 - d := fun d _ => W_i64 (by omega) (by omega)
      exact g _ hq
    rw [e0]
    dsimp only
    have htp : F98 N t (b.2.2.2.2.1.getD t.2.2.1.toNat 0) = some ((tradeC t (priceAt b t)).map entW, 0) := mTradeE_eq N (by omega) ht hp
    have hcl := tradeC_len t (priceAt b t)
    rw [small_t (by rw [List.length_cons, List.length_singleton]; omega), cond_true, hn.2, cond_true, htp, Option.bind_some, small_t (by rw [List.length_map, List.length_map]; omega), cond_true]
    have := hrec (z.1 ++ [(t.1, (t.2.2.1, (t.2.2.2.1, ()))), (t.2.1, (t.2.2.1, ((0 - t.2.2.2.1 : Int), ())))], z.2 ++ tradeC t (priceAt b t)) ⟨by rw [← i1, List.append_assoc]; rfl, by rw [← i2, List.append_assoc]⟩
    rw [List.map_append] at this
    exact this
  · unfold F31.l12 F31.l12b
    obtain ⟨i1, i2⟩ := hI
    rw [List.drop_length] at i1 i2
    have e1 : z.1 = tradeS l := by rw [← i1]; exact (List.append_nil _).symm
    have e2 : z.2 = tradeE b l := by rw [← i2]; exact (List.append_nil _).symm
    rw [ltB_f (by omega), cond_false, e1, e2, Moved_eq N (by omega) w.w hr hs w.r w.s gs (trades_ge hall hl), Option.bind_some]
theorem btrade_there {f : Bool} {a : Int} {r : Option (vtBook × Int)} : cond (!eqB a 0) (cond (!f) (some ((ee2, (ee4, (ee3, (ee3, (eeI, (ee6, ())))))), (3 : Int))) r) r = if (f || decide (eqI a 0)) = true then r else some ((ee2, (ee4, (ee3, (ee3, (eeI, (ee6, ())))))), (3 : Int)) := by
  rw [cond_not, cond_eqB, cond_not]
  by_cases h : a = 0
  · rw [if_pos h, decide_eq_true (show eqI a 0 from h), Bool.or_true, if_pos rfl]
  · rw [if_neg h, decide_eq_false (show ¬ eqI a 0 from h), Bool.or_false]
    cases f <;> rfl
theorem Trades_eq (N : Nat) (hN : 4000000 ≤ N) (c : vtConfig) {b : vtBook} (w : BookWf2 b) {l : wtI5} (hl : l.length ≤ 100000) : F31 N c b l = some (tradesOf c b l) := by
  unfold F31 F31.b tradesOf
  rw [Book_eq N hN w.w, Option.bind_some, cond_not, cond_ltB, btrades_eq N hl (by omega), Option.bind_some, cond_not]
  by_cases hB : okBook c b = false
  · rw [hB]; rfl
  rw [Bool.not_eq_false] at hB
  rw [hB, cond_true, if_pos rfl]
  by_cases h200 : l.length ≤ 200
  · rw [if_neg (by omega), if_pos h200]
    by_cases hk : l.all (fun t => decide (okTrade t)) = false
    · rw [hk]; rfl
    rw [Bool.not_eq_false] at hk
    rw [hk, cond_true, if_pos rfl]
    have hk' : ∀ t ∈ l, okTrade t := fun t ht => of_decide_eq_true (List.all_eq_true.1 hk t ht)
    have key : ∀ (m n i : Nat), l.length - i ≤ m → m < n → i ≤ l.length → (∀ j, j < i → thereT c b (l.getD j zz5) = true) → F31.l4 N n l c b (ee2, (ee4, (ee3, (ee3, (eeI, (ee6, ())))))) l (l.length : Int) (i : Int) = some (if l.all (thereT c b) then movedOf b (tradeS l) (tradeE b l) else ((ee2, (ee4, (ee3, (ee3, (eeI, (ee6, ())))))), 3)) := by
      intro m n
      induction n generalizing m with
      | zero => intro i _ hn; omega
      | succ n ih =>
        intro i hm hn hi hj
        unfold F31.l4 F31.l4b
        by_cases h : i < l.length
        · have hno : thereT c b (l.getD i zz5) = false → some ((ee2, (ee4, (ee3, (ee3, (eeI, (ee6, ())))))), (3 : Int)) = some (if l.all (thereT c b) then movedOf b (tradeS l) (tradeE b l) else ((ee2, (ee4, (ee3, (ee3, (eeI, (ee6, ())))))), 3)) := fun hf => by
            have : l.all (thereT c b) = false := by
              rw [List.all_eq_false]
              refine ⟨l.getD i zz5, ?_, by rw [hf]; decide⟩
              rw [List.getD_eq_getElem?_getD, List.getElem?_eq_getElem h]; exact List.getElem_mem h
            rw [this]; rfl
          have hyes : thereT c b (l.getD i zz5) = true → ∀ j, j < i + 1 → thereT c b (l.getD j zz5) = true := fun h j hj' => by
            by_cases e : j = i
            · rw [e]; exact h
            · exact hj j (by omega)
          rw [ltB_t (by omega), cond_true, inb_t (by omega) (by omega), cond_true, Int.toNat_natCast, Acc_eq N b w.w.a (by omega), Acc_eq N b w.w.a (by omega), W_i64 (x := (i : Int) + 1) (by omega) (by omega), natCast_succ' i]
          simp only [Option.bind_some]
          rw [btrade_there, btrade_there, cond_leB]
          generalize l.getD i zz5 = t at *
          unfold thereT at hno hyes
          by_cases h1 : ((findOf b.2.1 t.1).2 || decide (eqI t.1 0)) = true
          · rw [if_pos h1]
            by_cases h2 : ((findOf b.2.1 t.2.1).2 || decide (eqI t.2.1 0)) = true
            · rw [if_pos h2]
              by_cases h3 : (c.1.length : Int) ≤ t.2.2.1
              · rw [if_pos h3]
                exact hno (by rw [h1, h2, decide_eq_false (show ¬ ltI t.2.2.1 c.1.length from fun h => by unfold ltI at h; exact absurd h (Int.not_lt.2 h3))]; rfl)
              · rw [if_neg h3]
                exact ih (m - 1) (i + 1) (by omega) (by omega) (by omega) (hyes (by rw [h1, h2, decide_eq_true (show ltI t.2.2.1 c.1.length from Int.not_le.1 h3)]; rfl))
            · rw [if_neg h2]
              exact hno (by rw [Bool.not_eq_true] at h2; rw [h1, h2]; rfl)
          · rw [if_neg h1]
            exact hno (by rw [Bool.not_eq_true] at h1; rw [h1]; rfl)
        · have hth : ∀ t ∈ l, thereT c b t = true := fun t ht => by
            obtain ⟨k, hk, e⟩ := List.getElem_of_mem ht
            have := hj k (by omega)
            rw [List.getD_eq_getElem?_getD, List.getElem?_eq_getElem hk] at this
            rw [← e]; exact this
          rw [ltB_f (by omega), cond_false, List.all_eq_true.2 hth, if_pos rfl]
          exact Trades_move N hN c w hB hk' hth h200
    exact key l.length N 0 (by omega) (by omega) (by omega) (fun j hj => absurd hj (by omega))
  · rw [if_pos (by omega), if_neg h200]
end VM
end

section
/- Plain laws: orders of places. -/
set_option linter.unusedSimpArgs false
set_option linter.unusedVariables false
namespace VM
open Go VM.F
end VM
end

section
/- Plain laws: shares by weights. -/
set_option linter.unusedSimpArgs false
set_option linter.unusedVariables false
namespace VM
open Go VM.F
end VM
end

section
/- Plain laws: what shares are. -/
set_option linter.unusedSimpArgs false
set_option linter.unusedVariables false
namespace VM
open Go VM.F
end VM
end

section
/- Plain laws: the reference's shares; equal shares. -/
set_option linter.unusedSimpArgs false
set_option linter.unusedVariables false
namespace VM
open Go VM.F
end VM
end

section
/- Plain laws: shares up to caps. -/
set_option linter.unusedSimpArgs false
set_option linter.unusedVariables false
namespace VM
open Go VM.F
end VM
end

section
/- Plain laws: what is torn up. -/
set_option linter.unusedSimpArgs false
namespace VM
open Go VM.F
set_option linter.unusedVariables false
theorem first_sum {a b : Int} : ∀ {l : wtI3}, Srt (l.map keyOf) → firstAt a b l = sumAt a b l
  | [], _ => rfl
  | x :: t, h => by
    obtain ⟨h1, h2⟩ := List.pairwise_cons.1 h
    rw [firstAt_cons, sumAt_cons, ← first_sum h2]
    by_cases e1 : x.1 = a
    · by_cases e2 : x.2.1 = b
      · have hz : sumAt a b t = 0 := sumAt_zero fun y hy e => by
          have hk := h1 (keyOf y) (List.mem_map_of_mem hy)
          have he : keyOf y = keyOf x := Prod.ext (e.1.trans e1.symm) (e.2.trans e2.symm)
          rw [he] at hk
          exact kLt_irr hk
        rw [if_pos e1, if_pos e2, if_pos ⟨e1, e2⟩, first_sum h2, hz, Int.add_zero]; rfl
      · rw [if_pos e1, if_neg e2, if_neg (fun h => e2 h.2), Int.zero_add]
    · rw [if_neg e1, if_neg (fun h => e1 h.1), Int.zero_add]

end VM
end

section
/- Plain laws: nets, by positions. -/
set_option linter.unusedSimpArgs false
namespace VM
open Go VM.F
set_option linter.unusedVariables false

/-- A bucket's net, by 0's positions in some rows. -/
def netL (c : vtConfig) (p : List Int) (k : Int) : wtI3 → Int
  | [] => 0
  | x :: t => (if x.1 = 0 ∧ (c.1.getD x.2.1.toNat zz4).1 = k then qty x * p.getD x.2.1.toNat 0 else 0) + netL c p k t
/-- The same, instrument by instrument. -/
def netI (c : vtConfig) (p : List Int) (k : Int) (l : wtI3) : Nat → Int
  | 0 => 0
  | n + 1 => netI c p k l n + if (c.1.getD n zz4).1 = k then sumAt 0 (n : Int) l * p.getD n 0 else 0
theorem netI_succ (c : vtConfig) (p : List Int) (k : Int) (l : wtI3) (n : Nat) : netI c p k l (n + 1) = netI c p k l n + if (c.1.getD n zz4).1 = k then sumAt 0 (n : Int) l * p.getD n 0 else 0 := rfl
theorem netI_nil (c : vtConfig) (p : List Int) (k : Int) : ∀ n, netI c p k [] n = 0
  | 0 => rfl
  | n + 1 => by rw [netI_succ, netI_nil, sumAt_nil, Int.zero_mul]; split <;> rfl
theorem netI_cons (c : vtConfig) (p : List Int) (k : Int) (x : vtI3) (t : wtI3) (m : Nat) (hm : (x.2.1 : Int) = (m : Int)) : ∀ n, netI c p k (x :: t) n = netI c p k t n + if x.1 = 0 ∧ m < n ∧ (c.1.getD m zz4).1 = k then qty x * p.getD m 0 else 0
  | 0 => by rw [if_neg (fun h => by omega)]; rfl
  | n + 1 => by
    rw [netI_succ, netI_succ, netI_cons c p k x t m hm n, sumAt_cons]
    by_cases hk : (c.1.getD n zz4).1 = k
    · rw [if_pos hk, if_pos hk, Int.add_mul]
      by_cases hn : m = n
      · subst hn
        rw [if_neg (fun h => by omega)]
        by_cases h0 : x.1 = 0
        · rw [if_pos ⟨h0, hm⟩, if_pos ⟨h0, by omega, hk⟩]; omega
        · rw [if_neg (fun h => h0 h.1), if_neg (fun h => h0 h.1), Int.zero_mul]; omega
      · have e : ¬ (x.1 = 0 ∧ x.2.1 = (n : Int)) := fun h => hn (by
          have h2 : (n : Int) = (m : Int) := h.2.symm.trans hm
          omega)
        rw [if_neg e, Int.zero_mul]
        by_cases h1 : x.1 = 0 ∧ m < n ∧ (c.1.getD m zz4).1 = k
        · rw [if_pos h1, if_pos ⟨h1.1, by omega, h1.2.2⟩]; omega
        · rw [if_neg h1, if_neg (fun h => h1 ⟨h.1, by have := h.2.1; omega, h.2.2⟩)]; omega
    · rw [if_neg hk, if_neg hk]
      by_cases h1 : x.1 = 0 ∧ m < n ∧ (c.1.getD m zz4).1 = k
      · rw [if_pos h1, if_pos ⟨h1.1, by omega, h1.2.2⟩]; omega
      · rw [if_neg h1, if_neg (fun h => h1 ⟨h.1, by
          have h2 := h.2.1
          by_cases e : m = n
          · subst e; exact absurd h.2.2 hk
          · omega, h.2.2⟩)]
theorem netI_netL (c : vtConfig) (p : List Int) (k : Int) (n : Nat) : ∀ {l : wtI3}, (∀ x ∈ l, placeIn x.2.1 n) → netI c p k l n = netL c p k l
  | [], _ => netI_nil c p k n
  | x :: t, h => by
    have ih := netI_netL c p k n (l := t) (fun y hy => h y (List.mem_cons_of_mem _ hy))
    have hx := h x (List.mem_cons_self ..)
    have g : ∀ v : Int, placeIn v n → v = ((v.toNat : Nat) : Int) ∧ v.toNat < n := fun v h => by unfold placeIn at h; omega
    have gx := g _ hx
    rw [netI_cons c p k x t x.2.1.toNat gx.1 n, ih]
    show _ = (if x.1 = 0 ∧ (c.1.getD x.2.1.toNat zz4).1 = k then qty x * p.getD x.2.1.toNat 0 else 0) + netL c p k t
    by_cases h1 : x.1 = 0 ∧ (c.1.getD x.2.1.toNat zz4).1 = k
    · rw [if_pos h1, if_pos ⟨h1.1, gx.2, h1.2⟩]; omega
    · rw [if_neg h1, if_neg (fun h => h1 ⟨h.1, h.2.2⟩)]; omega
theorem netTo_netI {c : vtConfig} {b : vtBook} (hk : okStock b.2.2.2.1 = true) (k : Int) : ∀ n, netTo c b k n = netI c b.2.2.2.2.1 k b.2.2.2.1 n
  | 0 => rfl
  | n + 1 => by
    have hs := (okStock_srt hk).1
    have e : heldOf b.2.2.2.1 0 (n : Int) = sumAt 0 (n : Int) b.2.2.2.1 := by
      unfold heldOf; rw [hk]
      exact first_sum hs
    rw [netTo_succ, netI_succ, netTo_netI hk k n]
    unfold nTerm
    rw [e]
end VM
end

section
/- Plain laws: hedge.Nets. -/
set_option linter.unusedSimpArgs false
namespace VM
open Go VM.F
set_option linter.unusedVariables false

def netG (c : vtConfig) (p : List Int) (k : Int) : wtI2 → Int
  | [] => 0
  | y :: t => (if (c.1.getD y.1.toNat zz4).1 = k then y.2.1 * p.getD y.1.toNat 0 else 0) + netG c p k t
theorem netG_cons (c : vtConfig) (p : List Int) (k : Int) (y : vtI2) (t : wtI2) : netG c p k (y :: t) = (if (c.1.getD y.1.toNat zz4).1 = k then y.2.1 * p.getD y.1.toNat 0 else 0) + netG c p k t := rfl
theorem netL_netG (c : vtConfig) (p : List Int) (k : Int) : ∀ l : wtI3, netL c p k l = netG c p k (legsOf 0 l)
  | [] => rfl
  | x :: t => by
    have ih := netL_netG c p k t
    show (if x.1 = 0 ∧ (c.1.getD x.2.1.toNat zz4).1 = k then qty x * p.getD x.2.1.toNat 0 else 0) + netL c p k t = _
    rw [legsOf_cons, ih]
    by_cases h : x.1 = 0
    · rw [if_pos h, netG_cons]
      by_cases h2 : (c.1.getD x.2.1.toNat zz4).1 = k
      · rw [if_pos ⟨h, h2⟩, if_pos h2]; rfl
      · rw [if_neg (fun h => h2 h.2), if_neg h2]
    · rw [if_neg h, if_neg (fun k => h k.1), Int.zero_add]
def wides4 (f : Int → Int) : wtWide := [wideN (f 0), wideN (f 1), wideN (f 2), wideN (f 3)]
theorem wides4_at (f : Int → Int) {k : Int} (h : 0 ≤ k ∧ k ≤ 3) : (wides4 f).getD k.toNat zz2 = wideN (f k) := by
  have : k = 0 ∨ k = 1 ∨ k = 2 ∨ k = 3 := by omega
  rcases this with rfl | rfl | rfl | rfl <;> rfl
theorem wides4_set (f : Int → Int) {k : Int} (h : 0 ≤ k ∧ k ≤ 3) (v : Int) : (wides4 f).set k.toNat (wideN (f k + v)) = wides4 (fun j => f j + if k = j then v else 0) := by
  have : k = 0 ∨ k = 1 ∨ k = 2 ∨ k = 3 := by omega
  unfold wides4
  rcases this with rfl | rfl | rfl | rfl <;> simp
theorem wides4_congr {f g : Int → Int} (h : ∀ k, f k = g k) : wides4 f = wides4 g := by rw [funext h]
theorem Nets_loop (N : Nat) (hN : 200000 ≤ N) (c : vtConfig) {b : vtBook} {t : wtI2} (hl : t.length ≤ 6) (h64 : ∀ y ∈ t, In64 y.2.1) (hpl : ∀ y ∈ t, placeIn y.1 c.1.length) (hp : b.2.2.2.2.1.length = c.1.length) (hpr : okPrices b.2.2.2.2.1 = true) (hbk : ∀ i, i < c.1.length → 0 ≤ (c.1.getD i zz4).1 ∧ (c.1.getD i zz4).1 ≤ 3) :
    F64.l5 N N c b (wides4 fun _ => 0) t (t.length : Int) 0 = some (wides4 (fun k => netG c b.2.2.2.2.1 k t), 0) := by
  have := lrec t zz2 (fun n i (f : Int → Int) => F64.l5 N n c b (wides4 f) t (t.length : Int) i) (fun u f => some (wides4 (fun k => f k + netG c b.2.2.2.2.1 k u), (0 : Int)))
    (fun i f => ∀ k, -(9223372036854775808000000000000 * (i : Int)) ≤ f k ∧ f k ≤ 9223372036854775808000000000000 * (i : Int))
    (fun n i f hi hI hr => ?_) (fun n f hI => ?_) t.length N 0 (fun _ => 0) (by omega) (by omega) (by omega) (fun k => ⟨Int.le_refl _, Int.le_refl _⟩)
  · refine this.trans ?_
    rw [List.drop_zero]
    exact congrArg (fun z => some (z, (0 : Int))) (wides4_congr fun k => Int.zero_add _)
  · unfold F64.l5 F64.l5b
    have hm : t.getD i zz2 ∈ t := by
      rw [List.getD_eq_getElem?_getD, List.getElem?_eq_getElem hi]; exact List.getElem_mem hi
    have hq := h64 _ hm
    have hpy := hpl _ hm
    rw [ltB_t (by omega), cond_true, inb_t (by omega) (by omega), cond_true, Int.toNat_natCast, W_i64 (x := (i : Int) + 1) (by omega) (by omega), natCast_succ' i]
    generalize t.getD i zz2 = y at *
    have g : ∀ v : Int, placeIn v c.1.length → inb v c.1.length = true ∧ inb v b.2.2.2.2.1.length = true ∧ v.toNat < c.1.length := fun v h => by unfold placeIn at h; exact ⟨inb_t (by omega) (by omega), inb_t (by omega) (by omega), by omega⟩
    have gy := g _ hpy
    have hk := hbk _ gy.2.2
    have hpp := price_ok hpr (i := y.1.toNat) (by omega)
    have hin : inb (c.1.getD y.1.toNat zz4).1 (wides4 f).length = true := inb_t hk.1 (by
      have g : ∀ x : Int, x ≤ 3 → x < ((4 : Nat) : Int) := fun x _ => by omega
      exact g _ hk.2)
    have hma := mul_abs hq hpp
    have hpp' := hpp
    unfold priceIn at hpp'
    have hq' := hq
    unfold In64 at hq'
    have hf := hI (c.1.getD y.1.toNat zz4).1
    rw [gy.1, cond_true, hin, cond_true, gy.2.1, cond_true, wMul_eq N hq'.1 hq'.2 (by omega) (by omega), Option.bind_some, wides4_at f hk, wAdd_eq N (by unfold In128; omega) (by unfold In128; omega) (by unfold In128; omega), Option.bind_some, cond_true]
    dsimp only
    rw [wides4_set f hk, hr _ (fun k => by
      have := hI k
      split <;> omega)]
    refine congrArg (fun z => some (z, (0 : Int))) (wides4_congr fun k => ?_)
    rw [netG_cons]
    omega
  · unfold F64.l5 F64.l5b
    rw [ltB_f (by omega), cond_false]
    refine congrArg (fun z => some (z, (0 : Int))) (wides4_congr fun k => ?_)
    show f k = f k + 0
    omega
theorem okBook_place {c : vtConfig} {b : vtBook} (h : okBook c b = true) : ∀ x ∈ b.2.2.2.1, placeIn x.2.1 c.1.length := fun x hx => by
  have hk := (okBook_parts h).2
  have h0 := (okStock_srt hk).2 x hx
  unfold okBook at h
  simp only [Bool.and_eq_true] at h
  have h1 := of_decide_eq_true h.2.2.2.2.2.2.2.2.1
  obtain ⟨i, hi, e⟩ := List.getElem_of_mem hx
  have h2 := h1 i hi
  unfold okPosOf at h2
  rw [List.getD_eq_getElem?_getD, List.getElem?_eq_getElem hi] at h2
  simp only [Option.getD_some, e] at h2
  have g : ∀ u v : Int, okPlace u v → ltI v c.1.length → placeIn v c.1.length := fun u v h1 h2 => by unfold okPlace at h1; unfold ltI at h2; unfold placeIn; omega
  exact g _ _ h0.1 h2.2
theorem Nets_eq (N : Nat) (hN : 4000000 ≤ N) (c : vtConfig) {b : vtBook} (w : BookWf b) : F64 N c b = some (if okBook c b then (wides4 (netsOf c b), 0) else ([], 1)) := by
  unfold F64 F64.b
  rw [Book_eq N hN w, Option.bind_some, cond_not]
  by_cases hB : okBook c b = false
  · rw [hB]; rfl
  rw [Bool.not_eq_false] at hB
  rw [hB, cond_true, if_pos rfl, okMake_t (by omega) (by omega) (by omega), cond_true, Of_eq N w.s (by omega), Option.bind_some]
  obtain ⟨hpl, hpr⟩ := okBook_prices hB
  obtain ⟨h6, hbk⟩ := plan_bucket (okBook_flat' hB)
  obtain ⟨_, hk⟩ := okBook_parts hB
  have hplc := okBook_place hB
  have e : posOf b.2.2.2.1 0 = legsOf 0 b.2.2.2.1 := by unfold posOf; rw [hk]; rfl
  have hlp := Nets_loop N (by omega) c (b := b) (t := posOf b.2.2.2.1 0) (pos_good hk w.qs 0).len (posOf_in w.qs 0) (fun y hy => by
    rw [e] at hy
    obtain ⟨x, hx, _, rfl⟩ := mem_legsOf hy
    exact hplc x hx) hpl hpr hbk
  have e0 : wides4 (fun _ => 0) = List.replicate (4 : Int).toNat zz2 := rfl
  rw [e0] at hlp
  refine hlp.trans (congrArg (fun z => some (z, (0 : Int))) (wides4_congr fun k => ?_))
  unfold netsOf
  rw [e, ← netL_netG, netTo_netI hk, netI_netL c _ k _ hplc]
end VM
end

section
/- Plain laws: sizes of Wides. -/
set_option linter.unusedSimpArgs false
namespace VM
open Go VM.F
set_option linter.unusedVariables false

theorem wNeg128 (N : Nat) {x : Int} (h : In128 x) (hx : x ≠ -170141183460469231731687303715884105728) : F78 N (wideN x) = some (wideN (-x), true) := by
  unfold F78 F165 wideN
  unfold In128 at h
  dsimp only
  have hp : 0 ≤ x % 18446744073709551616 ∧ x % 18446744073709551616 < 18446744073709551616 := by omega
  have hh : -9223372036854775808 ≤ x / 18446744073709551616 ∧ x / 18446744073709551616 < 9223372036854775808 := by omega
  rw [W_mod, W_mod, sub64_eq N (by omega) (by omega) (by omega) (by omega) (by omega) (by omega), Option.bind_some]
  dsimp only
  have hb : (0 : Int) ≤ (if (0 : Int) < x % 18446744073709551616 + 0 then 1 else 0) ∧ (if (0 : Int) < x % 18446744073709551616 + 0 then (1 : Int) else 0) ≤ 1 := by split <;> omega
  rw [sub64_eq N (by omega) (by omega) (by omega) (by omega) hb.1 hb.2, Option.bind_some]
  dsimp only
  have key : ∀ {z : vtWide}, z = wideN (-x) → ((some (z, true) : Option (vtWide × Bool)).bind fun r1 => some (r1.1, r1.2)) = some (wideN (-x), true) := fun e => by rw [e]; rfl
  have e3 : W .i64 ((0 % 18446744073709551616 - x / 18446744073709551616 % 18446744073709551616 - (if (0 : Int) < x % 18446744073709551616 + 0 then 1 else 0)) % 18446744073709551616) = (-x) / 18446744073709551616 := by
    by_cases h0 : x % 18446744073709551616 = 0
    · rw [if_neg (show ¬ (0 : Int) < x % 18446744073709551616 + 0 by omega), W_i64_def]; split <;> omega
    · rw [if_pos (show (0 : Int) < x % 18446744073709551616 + 0 by omega), W_i64_def]; split <;> omega
  have e1 : (0 - x % 18446744073709551616 - 0) % 18446744073709551616 = (-x) % 18446744073709551616 := by omega
  rw [e3, e1]
  simp only [teq_bool, ltB_eq]
  by_cases a : x / 18446744073709551616 < 0
  · have c : ¬ (-x) / 18446744073709551616 < 0 := by omega
    rw [decide_eq_false (show ¬ (0 : Int) < 0 by omega), decide_eq_true a, decide_eq_false c]
    exact key rfl
  · rw [decide_eq_false (show ¬ (0 : Int) < 0 by omega), decide_eq_false a]
    exact key rfl
theorem wAbs_eq (N : Nat) {x : Int} (h : In128 x) (hx : x ≠ -170141183460469231731687303715884105728) : F153 N (wideN x) = some (wideN (x.natAbs : Int), true) := by
  unfold F153
  have e : (wideN x).1 = x / 18446744073709551616 := rfl
  rw [e]
  by_cases h0 : x < 0
  · rw [ltB_t (show x / 18446744073709551616 < 0 by omega), cond_true, wNeg128 N h hx, Option.bind_some, show (x.natAbs : Int) = -x by omega]
  · rw [ltB_f (show 0 ≤ x / 18446744073709551616 by omega), cond_false, show (x.natAbs : Int) = x by omega]
end VM
end

section
/- Plain laws: the orders that nets make. -/
set_option linter.unusedSimpArgs false
namespace VM
open Go VM.F
set_option linter.unusedVariables false

theorem bucket_nil {k : Int} : ∀ {i : Nat} {l : wtI4}, bucketL k i l = [] → ∀ x ∈ l, ¬ x.1 = k
  | i, [], _, x, hx => nomatch hx
  | i, y :: t, h, x, hx => by
    rw [bucketL_cons] at h
    by_cases e : y.1 = k
    · rw [if_pos e] at h; exact absurd h (by simp)
    · rw [if_neg e] at h
      rcases List.mem_cons.1 hx with rfl | hx
      · exact e
      · exact bucket_nil h x hx
theorem bucket_head {k : Int} : ∀ {i : Nat} {l : wtI4}, bucketL k i l ≠ [] → (i : Int) ≤ (bucketL k i l).getD 0 0 ∧ (bucketL k i l).getD 0 0 < ((i + l.length : Nat) : Int)
  | i, [], h => absurd rfl h
  | i, y :: t, h => by
    rw [bucketL_cons] at h ⊢
    by_cases e : y.1 = k
    · rw [if_pos e, List.length_cons]
      show (i : Int) ≤ (i : Int) ∧ (i : Int) < _
      omega
    · rw [if_neg e] at h ⊢
      have := bucket_head h
      rw [List.length_cons]; omega
theorem nets_empty {c : vtConfig} {b : vtBook} (hp : okPlan c = true) {k : Int} (h : bucketOf c k = []) : netsOf c b k = 0 := by
  unfold bucketOf at h
  rw [hp, if_pos rfl] at h
  have hn := bucket_nil h
  have key : ∀ n, n ≤ c.1.length → netTo c b k n = 0 := by
    intro n
    induction n with
    | zero => intro _; rfl
    | succ n ih =>
      intro hle
      rw [netTo_succ, ih (by omega), if_neg (hn _ (by
        rw [List.getD_eq_getElem?_getD, List.getElem?_eq_getElem (by omega)]; exact List.getElem_mem _))]; rfl
  exact key _ (Nat.le_refl _)
def hMin (c : vtConfig) : Int := c.2.2.2.2.2.2.1
def qOf (v p : Int) : Int := if (v.natAbs : Int) / p ≤ 1000000000 then (v.natAbs : Int) / p else 1000000000
def ordAt (c : vtConfig) (b : vtBook) (k : Int) : Int × Int × Int :=
  ((bucketOf c k).getD 0 0, ((if 0 < netsOf c b k then 2 else 1), qOf (netsOf c b k) (b.2.2.2.2.1.getD ((bucketOf c k).getD 0 0).toNat 0)))
/-- The orders of the buckets from one on. -/
def ordL (c : vtConfig) (b : vtBook) (next : Int) : Nat → Nat → wtI4 → wtI4
  | 0, _, out => out
  | m + 1, k, out => if ((netsOf c b (k : Int)).natAbs : Int) ≤ hMin c then ordL c b next m (k + 1) out else
    if (ordAt c b (k : Int)).2.2 = 0 then ordL c b next m (k + 1) out else
    ordL c b next m (k + 1) (out ++ [(next + (out.length : Int), ((ordAt c b (k : Int)).1, ((ordAt c b (k : Int)).2.1, ((ordAt c b (k : Int)).2.2, ()))))])
theorem ordL_succ (c : vtConfig) (b : vtBook) (next : Int) (m k : Nat) (out : wtI4) : ordL c b next (m + 1) k out = if ((netsOf c b (k : Int)).natAbs : Int) ≤ hMin c then ordL c b next m (k + 1) out else
    if (ordAt c b (k : Int)).2.2 = 0 then ordL c b next m (k + 1) out else
    ordL c b next m (k + 1) (out ++ [(next + (out.length : Int), ((ordAt c b (k : Int)).1, ((ordAt c b (k : Int)).2.1, ((ordAt c b (k : Int)).2.2, ()))))]) := rfl
def ordersOf (c : vtConfig) (b : vtBook) (next : Int) : wtI4 × Int :=
  if okBook c b then (if 1 ≤ next ∧ next ≤ 1099511627772 then (ordL c b next 4 0 [], 0) else ([], 1)) else ([], 1)
/-- What is so of a bucket that is exposed. -/
theorem exposed {c : vtConfig} {b : vtBook} (w : BookWf b) (hB : okBook c b = true) {k : Int} (h : ¬ ((netsOf c b k).natAbs : Int) ≤ hMin c) (h0 : 0 ≤ hMin c) :
    bucketOf c k ≠ [] ∧ inb ((bucketOf c k).getD 0 0) b.2.2.2.2.1.length = true ∧ priceIn (b.2.2.2.2.1.getD ((bucketOf c k).getD 0 0).toNat 0) := by
  have hpl := okBook_flat' hB
  obtain ⟨hp, hpr⟩ := okBook_prices hB
  have hne : bucketOf c k ≠ [] := fun e => h (by rw [nets_empty hpl e]; exact h0)
  have hh : 0 ≤ (bucketOf c k).getD 0 0 ∧ (bucketOf c k).getD 0 0 < (c.1.length : Int) := by
    unfold bucketOf at hne ⊢
    rw [hpl, if_pos rfl] at hne ⊢
    have := bucket_head hne
    omega
  exact ⟨hne, inb_t (by omega) (by omega), price_ok hpr (by omega)⟩
theorem nets_128 {c : vtConfig} {b : vtBook} (w : BookWf b) (hB : okBook c b = true) (k : Int) : In128 (netsOf c b k) ∧ ((netsOf c b k).natAbs : Int) ≤ 60000000000000000000000000000000 := by
  have h6 := (plan_bucket (okBook_flat' hB)).1
  have := netTo_rng w hB k c.1.length (Nat.le_refl _)
  unfold netsOf In128
  omega
theorem hMin_ok {c : vtConfig} {b : vtBook} (hB : okBook c b = true) : 0 ≤ hMin c := by
  have h := okBook_flat' hB
  unfold okPlan at h
  simp only [Bool.and_eq_true] at h
  have := of_decide_eq_true h.2.2
  exact this.2.2.2.2.2
theorem div_rng {v p : Int} (hv : (v.natAbs : Int) ≤ 60000000000000000000000000000000) (hp : priceIn p) : 0 ≤ (v.natAbs : Int) / p ∧ In128 ((v.natAbs : Int) / p) := by
  unfold priceIn at hp
  have h1 : 0 ≤ (v.natAbs : Int) / p := Int.ediv_nonneg (by omega) (by omega)
  have h2 : (v.natAbs : Int) / p ≤ v.natAbs := Int.ediv_le_self _ (by omega)
  unfold In128; omega
end VM
end

section
/- Plain laws: hedge.Orders. -/
set_option linter.unusedSimpArgs false
namespace VM
open Go VM.F
set_option linter.unusedVariables false

theorem HOrders_eq (N : Nat) (hN : 4000000 ≤ N) (c : vtConfig) (hc : In64 (hMin c)) {b : vtBook} (w : BookWf b) (next : Int) : F65 N c b next = some (ordersOf c b next) := by
  unfold F65 F65.b ordersOf
  rw [Nets_eq N hN c w, Option.bind_some]
  by_cases hB : okBook c b = false
  · rw [hB]
    show cond (!eqB 1 0) _ _ = _
    rw [eqB_f (by omega)]; rfl
  rw [Bool.not_eq_false] at hB
  rw [hB, if_pos rfl, if_pos rfl]
  dsimp only
  rw [eqB_self, Bool.not_true, cond_false, cond_ltB, cond_ltB]
  by_cases h1 : next < 1
  · rw [if_pos h1, if_neg (by omega)]
  rw [if_neg h1]
  by_cases h2 : 1099511627772 < next
  · rw [if_pos h2, if_neg (by omega)]
  rw [if_neg h2, if_pos (by omega)]
  have h0 := hMin_ok hB
  obtain ⟨h6, hbk⟩ := plan_bucket (okBook_flat' hB)
  have key : ∀ (m n k : Nat) (out : wtI4), k + m = 4 → m < n → out.length ≤ k → F65.l6 N n next c b out (wides4 (netsOf c b)) ((wides4 (netsOf c b)).length : Int) (k : Int) = some (ordL c b next m k out, 0) := by
    intro m n
    induction n generalizing m with
    | zero => intro k out _ hn; omega
    | succ n ih =>
      intro k out hk hn ho
      unfold F65.l6 F65.l6b
      have hlen : (wides4 (netsOf c b)).length = 4 := rfl
      rw [hlen]
      match m, hk, hn with
      | 0, hk, hn => rw [ltB_f (by omega), cond_false]; rfl
      | m + 1, hk, hn =>
        obtain ⟨hv, hva⟩ := nets_128 w hB (k : Int)
        have hvn : netsOf c b (k : Int) ≠ -170141183460469231731687303715884105728 := by omega
        have hat := wides4_at (netsOf c b) (k := (k : Int)) (by omega)
        have ih' := fun out' ho' => ih m (k + 1) out' (by omega) (by omega) ho'
        rw [hlen] at ih'
        unfold In64 hMin at hc
        rw [ltB_t (by omega), cond_true, inb_t (by omega) (by omega), cond_true, hat, wAbs_eq N hv hvn, Option.bind_some, wOf_eq N hc.1 hc.2, Option.bind_some, wCmp_eq, Option.bind_some, cond_leB, W_i64 (x := (k : Int) + 1) (by omega) (by omega), natCast_succ' k, ordL_succ]
        have hs : sgn (((netsOf c b (k : Int)).natAbs : Int) - c.2.2.2.2.2.2.1) ≤ 0 ↔ ((netsOf c b (k : Int)).natAbs : Int) ≤ hMin c := by
          unfold hMin sgn; split <;> (try split) <;> omega
        by_cases h3 : ((netsOf c b (k : Int)).natAbs : Int) ≤ hMin c
        · rw [if_pos (hs.2 h3), if_pos h3]
          exact ih' out (by omega)
        · obtain ⟨hne, hin, hp⟩ := exposed w hB h3 h0
          have hl0 : 0 < (bucketOf c (k : Int)).length := List.length_pos_iff.2 hne
          have hd := div_rng hva hp
          have hp' := hp
          unfold priceIn at hp'
          rw [if_neg (fun h => h3 (hs.1 h)), if_neg h3, Bucket_eq N (by omega) c (by omega), Option.bind_some, inb_t (i := 0) (by omega) (by omega), cond_true, show (0 : Int).toNat = 0 from rfl, hin, cond_true, wDiv_eq N (by omega) (by omega) (by omega) (by omega) (by omega), Option.bind_some, wInt_eq' N hd.2, Option.bind_some]
          have fin : ∀ q : Int, q = (ordAt c b (k : Int)).2.2 → F65.j15 N (F65.l6 N n) next c b out (wideN (netsOf c b (k : Int))) ((bucketOf c (k : Int)).getD 0 0) q (wides4 (netsOf c b)) ((4 : Nat) : Int) (k : Int) = some (if (ordAt c b (k : Int)).2.2 = 0 then ordL c b next m (k + 1) out else ordL c b next m (k + 1) (out ++ [(next + (out.length : Int), ((ordAt c b (k : Int)).1, ((ordAt c b (k : Int)).2.1, ((ordAt c b (k : Int)).2.2, ()))))]), 0) := fun q e => by
            subst e
            unfold F65.j15 F65.j15b
            have hs2 : 0 < sgn (netsOf c b (k : Int)) ↔ 0 < netsOf c b (k : Int) := by unfold sgn; split <;> (try split) <;> omega
            rw [cond_eqB, W_i64 (x := (k : Int) + 1) (by omega) (by omega), natCast_succ' k, wSign_eq, Option.bind_some, W_i64 (x := next + (out.length : Int)) (by omega) (by omega), cond_ltB]
            by_cases h4 : (ordAt c b (k : Int)).2.2 = 0
            · rw [if_pos h4, if_pos h4]; exact ih' out (by omega)
            · rw [if_neg h4, if_neg h4]
              rw [small_t (by rw [List.length_singleton]; omega), cond_true, small_t (by rw [List.length_singleton]; omega), cond_true]
              by_cases h5 : 0 < netsOf c b (k : Int)
              · rw [if_pos (hs2.2 h5)]
                have e2 : (ordAt c b (k : Int)).2.1 = 2 := by unfold ordAt; exact if_pos h5
                rw [e2]
                exact ih' _ (by rw [List.length_append, List.length_singleton]; omega)
              · rw [if_neg (fun h => h5 (hs2.1 h))]
                have e2 : (ordAt c b (k : Int)).2.1 = 1 := by unfold ordAt; exact if_neg h5
                rw [e2]
                exact ih' _ (by rw [List.length_append, List.length_singleton]; omega)
          have hq : ∀ d : Int, d = ((netsOf c b (k : Int)).natAbs : Int) / (b.2.2.2.2.1.getD ((bucketOf c (k : Int)).getD 0 0).toNat 0) → (ordAt c b (k : Int)).2.2 = if d ≤ 1000000000 then d else 1000000000 := fun d e => by subst e; rfl
          have hq' := hq _ rfl
          generalize ((netsOf c b (k : Int)).natAbs : Int) / (b.2.2.2.2.1.getD ((bucketOf c (k : Int)).getD 0 0).toNat 0) = d at *
          by_cases h6 : In64 d
          · rw [toI_pos h6]
            dsimp only
            rw [Bool.not_true, cond_false, cond_ltB]
            by_cases h7 : 1000000000 < d
            · rw [if_pos h7]; exact fin _ (by rw [hq', if_neg (by omega)])
            · rw [if_neg h7]; exact fin _ (by rw [hq', if_pos (by omega)])
          · rw [toI_neg h6]
            dsimp only
            rw [Bool.not_false, cond_true]
            exact fin _ (by rw [hq', if_neg (by unfold In64 at h6; omega)])
  exact key 4 N 0 [] (by omega) (by omega) (Nat.le_refl _)
end VM
end

section
/- Plain laws: novationref20.Hedges. -/
set_option linter.unusedSimpArgs false
namespace VM
open Go VM.F
set_option linter.unusedVariables false

theorem rHedges_eq (N : Nat) (hN : 5000000 ≤ N) (c : vtConfig) (hc : In64 (hMin c)) {b : vtBook} (w : BookWf b) (next : Int) : F69 N c b next = some (ordersOf c b next) := by
  unfold F69 F69.b ordersOf
  rw [rNets_eq N hN c w, Option.bind_some]
  by_cases hB : okBook c b = false
  · rw [hB]
    show cond (!eqB 1 0) _ _ = _
    rw [eqB_f (by omega)]; rfl
  rw [Bool.not_eq_false] at hB
  rw [hB, if_pos rfl, if_pos rfl]
  dsimp only
  rw [eqB_self, Bool.not_true, cond_false, cond_ltB, cond_ltB]
  by_cases h1 : next < 1
  · rw [if_pos h1, if_neg (by omega)]
  rw [if_neg h1]
  by_cases h2 : 1099511627772 < next
  · rw [if_pos h2, if_neg (by omega)]
  rw [if_neg h2, if_pos (by omega)]
  have h0 := hMin_ok hB
  obtain ⟨h6, hbk⟩ := plan_bucket (okBook_flat' hB)
  have key : ∀ (m n k : Nat) (out : wtI4), k + m = 4 → m < n → out.length ≤ k → F69.l6 N n (next + (out.length : Int)) c b (bigs4 (netsOf c b)) out (k : Int) = some (ordL c b next m k out, 0) := by
    intro m n
    induction n generalizing m with
    | zero => intro k out _ hn; omega
    | succ n ih =>
      intro k out hk hn ho
      unfold F69.l6 F69.l6b
      have hlen : (bigs4 (netsOf c b)).length = 4 := rfl
      match m, hk, hn with
      | 0, hk, hn => rw [ltB_f (by omega), cond_false]; rfl
      | m + 1, hk, hn =>
        obtain ⟨hv, hva⟩ := nets_128 w hB (k : Int)
        have hat := bigs4_at (netsOf c b) (k := (k : Int)) (by omega)
        have ih' := fun out' ho' => ih m (k + 1) out' (by omega) (by omega) ho'
        unfold In64 hMin at hc
        have hab : In128 ((netsOf c b (k : Int)).natAbs : Int) := by unfold In128; omega
        rw [ltB_t (by omega), cond_true, rBucket_eq N (by omega) c (by omega), Option.bind_some, hlen, inb_t (by omega) (by omega), cond_true, hat, Sized_eq N (by omega) (fit128' hv), Option.bind_some, cond_eqB, Whole_eq N (by omega) hc.1 hc.2, Option.bind_some, Cmp_eq N (by omega) (fit128' hab) ((Fit.i64 hc.1 hc.2).mono (by omega)), Option.bind_some, cond_leB, W_i64 (x := (k : Int) + 1) (by omega) (by omega), natCast_succ' k, ordL_succ]
        have hs : sgn (((netsOf c b (k : Int)).natAbs : Int) - c.2.2.2.2.2.2.1) ≤ 0 ↔ ((netsOf c b (k : Int)).natAbs : Int) ≤ hMin c := by
          unfold hMin sgn; split <;> (try split) <;> omega
        by_cases h3 : ((netsOf c b (k : Int)).natAbs : Int) ≤ hMin c
        · rw [if_pos (hs.2 h3), if_pos h3, ih' out (by omega)]
          split <;> rfl
        · obtain ⟨hne, hin, hp⟩ := exposed w hB h3 h0
          have hl0 : 0 < (bucketOf c (k : Int)).length := List.length_pos_iff.2 hne
          have hd := div_rng hva hp
          have h5 : Fit ((netsOf c b (k : Int)).natAbs : Int) 5 := by
            unfold Fit
            rw [show (4294967296 : Nat) ^ 5 = 1461501637330902918203684832716283019655932542976 from rfl]
            omega
          have hfa : Fit ((netsOf c b (k : Int)).natAbs : Int) 80000 := Fit.mono h5 (by decide)
          have hat' : (bigs4 (netsOf c b)).getD k (false, zzB) = bigN (netsOf c b (k : Int)) := by rw [← hat, Int.toNat_natCast]
          have hp' := hp
          unfold priceIn at hp'
          rw [if_neg (show ¬ ((bucketOf c (k : Int)).length : Int) = 0 by omega), if_neg (fun h => h3 (hs.1 h)), if_neg h3, inb_t (i := 0) (by omega) (by omega), cond_true, show (0 : Int).toNat = 0 from rfl, hin, cond_true, Whole_eq N (by omega) (by omega) (by omega), Option.bind_some, Over_eq N hN (by omega) hfa ((Fit.i64 (by omega) (by omega)).mono (by omega)), Option.bind_some, Int_eq, Option.bind_some]
          have fin : ∀ q : Int, q = (ordAt c b (k : Int)).2.2 → F69.j15 N (F69.l6 N n) (next + (out.length : Int)) c b (bigs4 (netsOf c b)) out (k : Int) (bucketOf c (k : Int)) q = some (if (ordAt c b (k : Int)).2.2 = 0 then ordL c b next m (k + 1) out else ordL c b next m (k + 1) (out ++ [(next + (out.length : Int), ((ordAt c b (k : Int)).1, ((ordAt c b (k : Int)).2.1, ((ordAt c b (k : Int)).2.2, ()))))]), 0) := fun q e => by
            subst e
            unfold F69.j15 F69.j15b
            have hs2 : 0 < sgn (netsOf c b (k : Int)) ↔ 0 < netsOf c b (k : Int) := by unfold sgn; split <;> (try split) <;> omega
            rw [cond_eqB, W_i64 (x := (k : Int) + 1) (by omega) (by omega), natCast_succ' k, inb_t (i := 0) (by omega) (by omega), cond_true, hlen, inb_t (by omega) (by omega), cond_true, Int.toNat_natCast, hat', Sign_eq, Option.bind_some, cond_ltB, W_i64 (x := next + (out.length : Int) + 1) (by omega) (by omega), show (0 : Int).toNat = 0 from rfl]
            by_cases h4 : (ordAt c b (k : Int)).2.2 = 0
            · rw [if_pos h4, if_pos h4]; exact ih' out (by omega)
            · rw [if_neg h4, if_neg h4, small_t (by rw [List.length_singleton]; omega), cond_true, small_t (by rw [List.length_singleton]; omega), cond_true]
              have step := fun z : vtI4 => ih' (out ++ [z]) (by rw [List.length_append, List.length_singleton]; omega)
              have el : ∀ z : vtI4, next + ((out ++ [z]).length : Int) = next + (out.length : Int) + 1 := fun z => by rw [List.length_append, List.length_singleton]; omega
              by_cases h5 : 0 < netsOf c b (k : Int)
              · rw [if_pos (hs2.2 h5)]
                have e2 : (ordAt c b (k : Int)).2.1 = 2 := by unfold ordAt; exact if_pos h5
                rw [e2, ← step _, el]; rfl
              · rw [if_neg (fun h => h5 (hs2.1 h))]
                have e2 : (ordAt c b (k : Int)).2.1 = 1 := by unfold ordAt; exact if_neg h5
                rw [e2, ← step _, el]; rfl
          have hq : ∀ d : Int, d = ((netsOf c b (k : Int)).natAbs : Int) / (b.2.2.2.2.1.getD ((bucketOf c (k : Int)).getD 0 0).toNat 0) → (ordAt c b (k : Int)).2.2 = if d ≤ 1000000000 then d else 1000000000 := fun d e => by subst e; rfl
          have hq' := hq _ rfl
          generalize ((netsOf c b (k : Int)).natAbs : Int) / (b.2.2.2.2.1.getD ((bucketOf c (k : Int)).getD 0 0).toNat 0) = d at *
          by_cases h6 : In64 d
          · rw [toI_pos h6]
            dsimp only
            rw [Bool.not_true, cond_false, cond_ltB]
            by_cases h7 : 1000000000 < d
            · rw [if_pos h7]; exact fin _ (by rw [hq', if_neg (by omega)])
            · rw [if_neg h7]; exact fin _ (by rw [hq', if_pos (by omega)])
          · rw [toI_neg h6]
            dsimp only
            rw [Bool.not_false, cond_true]
            exact fin _ (by rw [hq', if_neg (by unfold In64 at h6; omega)])
  have := key 4 N 0 [] (by omega) (by omega) (Nat.le_refl _)
  rw [List.length_nil, show next + ((0 : Nat) : Int) = next by omega] at this
  exact this
end VM
end

section
/- Plain laws: open orders of an account. -/
set_option linter.unusedSimpArgs false
namespace VM
open Go VM.F
set_option linter.unusedVariables false

/-- What an account's orders in an instrument buy and sell. -/
def addO (x : vtI6) (z : Int × Int) : Int × Int := if x.2.2.2.1 = 1 then (z.1 + x.2.2.2.2.1, z.2) else (z.1, z.2 + x.2.2.2.2.1)
def bsL (a k : Int) : wtI6 → Int × Int → Int × Int
  | [], z => z
  | x :: t, z => bsL a k t (if x.2.1 = a ∧ x.2.2.1 = k then addO x z else z)
theorem bsL_cons (a k : Int) (x : vtI6) (t : wtI6) (z : Int × Int) : bsL a k (x :: t) z = bsL a k t (if x.2.1 = a ∧ x.2.2.1 = k then addO x z else z) := rfl
theorem bsL_snoc (a k : Int) (o : vtI6) : ∀ (l : wtI6) (z : Int × Int), bsL a k (l ++ [o]) z = if o.2.1 = a ∧ o.2.2.1 = k then addO o (bsL a k l z) else bsL a k l z
  | [], z => rfl
  | x :: t, z => by rw [List.cons_append, bsL_cons, bsL_cons]; exact bsL_snoc a k o t _
def nz (i : Int) (z : Int × Int) : vtI3 := (i, (z.1, (z.2, ())))
def opF (f : Int → Int × Int) : Nat → Nat → wtI3
  | 0, _ => []
  | m + 1, k => if 0 < (f (k : Int)).1 + (f (k : Int)).2 then nz (k : Int) (f (k : Int)) :: opF f m (k + 1) else opF f m (k + 1)
theorem opF_succ (f : Int → Int × Int) (m k : Nat) : opF f (m + 1) k = if 0 < (f (k : Int)).1 + (f (k : Int)).2 then nz (k : Int) (f (k : Int)) :: opF f m (k + 1) else opF f m (k + 1) := rfl
def bsF (l : wtI6) (a k : Int) : Int × Int := bsL a k l (0, 0)
def opensOf (l : wtI6) (a : Int) : wtI3 := opF (bsF l a) 6 0
theorem opF_len (f : Int → Int × Int) : ∀ m k, (opF f m k).length ≤ m
  | 0, _ => Nat.le_refl _
  | m + 1, k => by
    rw [opF_succ]
    have := opF_len f m (k + 1)
    split
    · rw [List.length_cons]; omega
    · omega
theorem opF_ge (f : Int → Int × Int) : ∀ m k, ∀ x ∈ opF f m k, (k : Int) ≤ x.1
  | 0, _, x, hx => nomatch hx
  | m + 1, k, x, hx => by
    rw [opF_succ] at hx
    have ih := opF_ge f m (k + 1) x
    split at hx
    · rcases List.mem_cons.1 hx with rfl | hx
      · exact Int.le_refl _
      · have := ih hx; omega
    · have := ih hx; omega
theorem opF_congr {f g : Int → Int × Int} : ∀ m k, (∀ j : Nat, k ≤ j → f (j : Int) = g (j : Int)) → opF f m k = opF g m k
  | 0, _, _ => rfl
  | m + 1, k, h => by rw [opF_succ, opF_succ, h k (Nat.le_refl _), opF_congr m (k + 1) (fun j hj => h j (by omega))]
/-- Quantities that orders may have. -/
def QOrd (l : wtI6) : Prop := ∀ x ∈ l, 1 ≤ x.2.2.2.2.1 ∧ x.2.2.2.2.1 ≤ 1000000000
theorem qord_at {l : wtI6} (h : QOrd l) {i : Nat} (hi : i < l.length) : 1 ≤ (l.getD i zz6).2.2.2.2.1 ∧ (l.getD i zz6).2.2.2.2.1 ≤ 1000000000 := h _ (by
  rw [List.getD_eq_getElem?_getD, List.getElem?_eq_getElem hi]; exact List.getElem_mem hi)
def zIn (z : Int × Int) (n : Nat) : Prop := 0 ≤ z.1 ∧ z.1 ≤ 1000000000 * (n : Int) ∧ 0 ≤ z.2 ∧ z.2 ≤ 1000000000 * (n : Int)
theorem addO_in {x : vtI6} {z : Int × Int} {n : Nat} (hq : 1 ≤ x.2.2.2.2.1 ∧ x.2.2.2.2.1 ≤ 1000000000) (h : zIn z n) : zIn (addO x z) (n + 1) := by
  have g : ∀ q : Int, 1 ≤ q ∧ q ≤ 1000000000 → zIn (z.1 + q, z.2) (n + 1) ∧ zIn (z.1, z.2 + q) (n + 1) := fun q hq => by unfold zIn at *; dsimp only; omega
  have gx := g _ hq
  unfold addO
  split
  · exact gx.1
  · exact gx.2
theorem zIn.mono {z : Int × Int} {n m : Nat} (h : zIn z n) (hm : n ≤ m) : zIn z m := by unfold zIn at *; omega
theorem bs_rng {a k : Int} : ∀ {l : wtI6} {z : Int × Int} {n : Nat}, QOrd l → zIn z n → zIn (bsL a k l z) (n + l.length)
  | [], z, n, _, h => h
  | x :: t, z, n, hq, h => by
    have hx := hq x (List.mem_cons_self ..)
    rw [bsL_cons, List.length_cons, show n + (t.length + 1) = n + 1 + t.length by omega]
    refine bs_rng (fun y hy => hq y (List.mem_cons_of_mem _ hy)) ?_
    split
    · exact addO_in hx h
    · exact zIn.mono h (by omega)
theorem bsF_rng {l : wtI6} (h : QOrd l) (a k : Int) : zIn (bsF l a k) l.length := by
  have := bs_rng (a := a) (k := k) (z := (0, 0)) (n := 0) h (by unfold zIn; dsimp only; omega)
  rw [Nat.zero_add] at this; exact this
theorem orders_q {l : wtI6} (h : okOrders l = true) : QOrd l ∧ l.length ≤ 32 := by
  unfold okOrders at h
  rw [Bool.and_eq_true] at h
  refine ⟨fun x hx => ?_, of_decide_eq_true h.2⟩
  obtain ⟨i, hi, e⟩ := List.getElem_of_mem hx
  have := of_decide_eq_true h.1 i hi
  unfold okOrdAt at this
  have h1 := this.1
  rw [List.getD_eq_getElem?_getD, List.getElem?_eq_getElem hi, Option.getD_some, e] at h1
  unfold okOrd at h1
  exact h1.2.2.2.2.1
def oI (o : vtI6) : Int := o.2.2.1
def oQ (o : vtI6) : Int := o.2.2.2.2.1
def oK (x : vtI3) : Int := x.1
/-- One more order. -/
def withL (o : vtI6) : wtI3 → wtI3
  | [] => [nz (oI o) (addO o (0, 0))]
  | x :: t => if oK x < oI o then x :: withL o t else if oK x = oI o then nz (oK x) (addO o (x.2.1, x.2.2.1)) :: t else nz (oI o) (addO o (0, 0)) :: x :: t
theorem withL_cons (o : vtI6) (x : vtI3) (t : wtI3) : withL o (x :: t) = if oK x < oI o then x :: withL o t else if oK x = oI o then nz (oK x) (addO o (x.2.1, x.2.2.1)) :: t else nz (oI o) (addO o (0, 0)) :: x :: t := rfl
theorem withL_lt (o : vtI6) {l : wtI3} (h : ∀ x ∈ l, oI o < oK x) : withL o l = nz (oI o) (addO o (0, 0)) :: l := by
  match l, h with
  | [], _ => rfl
  | x :: t, h =>
    have := h x (List.mem_cons_self ..)
    rw [withL_cons, if_neg (Int.lt_asymm this), if_neg (fun e => Int.lt_irrefl _ (e ▸ this))]
def updF (o : vtI6) (f : Int → Int × Int) (k : Int) : Int × Int := if k = oI o then addO o (f k) else f k
theorem addO_sum (o : vtI6) (z : Int × Int) : (addO o z).1 + (addO o z).2 = z.1 + z.2 + oQ o := by
  unfold addO
  have : ∀ a b q : Int, a + q + b = a + b + q ∧ a + (b + q) = a + b + q := fun a b q => by omega
  split
  · exact (this _ _ _).1
  · exact (this _ _ _).2
theorem withL_opF (o : vtI6) {f : Int → Int × Int} (hf : ∀ k, 0 ≤ (f k).1 ∧ 0 ≤ (f k).2) (hq : 1 ≤ oQ o) : ∀ m k : Nat, (k : Int) ≤ oI o → oI o < ((k + m : Nat) : Int) → withL o (opF f m k) = opF (updF o f) m k
  | 0, k, h1, h2 => by omega
  | m + 1, k, h1, h2 => by
    have hk := hf (k : Int)
    by_cases e : (k : Int) = oI o
    · have hu : updF o f (k : Int) = addO o (f (k : Int)) := by unfold updF; rw [if_pos e]
      have hs := addO_sum o (f (k : Int))
      have hc : opF f m (k + 1) = opF (updF o f) m (k + 1) := opF_congr m (k + 1) fun j hj => by unfold updF; rw [if_neg (by omega)]
      rw [opF_succ, opF_succ, hu, if_pos (show 0 < (addO o (f (k : Int))).1 + (addO o (f (k : Int))).2 by omega), ← hc]
      by_cases h0 : 0 < (f (k : Int)).1 + (f (k : Int)).2
      · rw [if_pos h0, withL_cons, if_neg (show ¬ oK (nz (k : Int) (f (k : Int))) < oI o from by show ¬ (k : Int) < oI o; omega), if_pos (show oK (nz (k : Int) (f (k : Int))) = oI o from e)]
        rfl
      · have hz : f (k : Int) = (0, 0) := Prod.ext (by omega) (by omega)
        rw [if_neg h0, hz, withL_lt o (fun x hx => by have : ((k + 1 : Nat) : Int) ≤ oK x := opF_ge f m (k + 1) x hx; omega), e]
    · have hu : updF o f (k : Int) = f (k : Int) := by unfold updF; rw [if_neg e]
      have ih := withL_opF o hf hq m (k + 1) (by omega) (by omega)
      rw [opF_succ, opF_succ, hu]
      by_cases h0 : 0 < (f (k : Int)).1 + (f (k : Int)).2
      · rw [if_pos h0, if_pos h0, withL_cons, if_pos (show oK (nz (k : Int) (f (k : Int))) < oI o from by show (k : Int) < oI o; omega), ih]
      · rw [if_neg h0, if_neg h0, ih]
theorem withL_opens {l : wtI6} (h : QOrd l) {o : vtI6} (ho : okOrd o) : withL o (opensOf l o.2.1) = opensOf (l ++ [o]) o.2.1 := by
  unfold okOrd at ho
  unfold opensOf
  rw [withL_opF o (fun k => by have := bsF_rng h o.2.1 k; unfold zIn at this; omega) ho.2.2.2.2.1.1 6 0 ho.2.2.1.1 (Int.lt_of_lt_of_le ho.2.2.1.2 (by decide))]
  refine opF_congr 6 0 fun j _ => ?_
  unfold updF bsF
  rw [bsL_snoc]
  by_cases e : oI o = (j : Int)
  · rw [if_pos e.symm]; exact (if_pos ⟨rfl, e⟩).symm
  · rw [if_neg (fun h => e h.symm)]; exact (if_neg fun h => e h.2).symm
/-- Where the order's instrument is, or would be. -/
def cutAt (a : Int) : wtI3 → Nat
  | [] => 0
  | x :: t => if oK x < a then cutAt a t + 1 else 0
theorem cutAt_cons (a : Int) (x : vtI3) (t : wtI3) : cutAt a (x :: t) = if oK x < a then cutAt a t + 1 else 0 := rfl
theorem cutAt_le (a : Int) : ∀ l : wtI3, cutAt a l ≤ l.length
  | [] => Nat.le_refl _
  | x :: t => by
    rw [cutAt_cons, List.length_cons]
    have := cutAt_le a t
    split <;> omega
def atO (o : vtI6) (x : vtI3) : vtI3 := nz (oK x) (addO o (x.2.1, x.2.2.1))
theorem withL_new (o : vtI6) : ∀ l : wtI3, (cutAt (oI o) l = l.length ∨ ¬ oK (l.getD (cutAt (oI o) l) zz3) = oI o) → withL o l = l.take (cutAt (oI o) l) ++ nz (oI o) (addO o (0, 0)) :: l.drop (cutAt (oI o) l)
  | [], _ => rfl
  | x :: t, h => by
    rw [cutAt_cons] at h ⊢
    rw [withL_cons]
    by_cases h1 : oK x < oI o
    · rw [if_pos h1] at h ⊢
      rw [if_pos h1, withL_new o t (by
        rw [List.length_cons, List.getD_cons_succ] at h
        rcases h with h | h
        · exact .inl (by omega)
        · exact .inr h)]; rfl
    · rw [if_neg h1] at h ⊢
      have h2 : ¬ oK x = oI o := by
        rcases h with h | h
        · rw [List.length_cons] at h; omega
        · exact h
      rw [if_neg h1, if_neg h2]; rfl
theorem withL_old (o : vtI6) : ∀ l : wtI3, cutAt (oI o) l < l.length → oK (l.getD (cutAt (oI o) l) zz3) = oI o → withL o l = l.set (cutAt (oI o) l) (atO o (l.getD (cutAt (oI o) l) zz3))
  | [], h, _ => by exact absurd h (Nat.lt_irrefl 0)
  | x :: t, h, h' => by
    rw [cutAt_cons] at h h'
    rw [withL_cons, cutAt_cons]
    by_cases h1 : oK x < oI o
    · rw [if_pos h1] at h h'
      rw [if_pos h1, if_pos h1]
      rw [List.length_cons] at h
      rw [List.getD_cons_succ] at h'
      rw [List.getD_cons_succ, withL_old o t (by omega) h']; rfl
    · rw [if_neg h1] at h'
      rw [if_neg h1, if_neg h1, if_pos (show oK x = oI o from h')]; rfl
end VM
end

section
/- Plain laws: open orders of an account, by the program and by the document; one more of them. -/
set_option linter.unusedSimpArgs false
namespace VM
open Go VM.F
set_option linter.unusedVariables false

theorem addO_W {x : vtI6} {z : Int × Int} {n : Nat} (hn : n ≤ 1000) (hq : 1 ≤ x.2.2.2.2.1 ∧ x.2.2.2.2.1 ≤ 1000000000) (hz : zIn z n) (k : Int) :
    (x.2.2.2.1 = 1 → ((k, (W .i64 (z.1 + x.2.2.2.2.1), (z.2, ()))) : vtI3) = nz k (addO x z)) ∧ (¬ x.2.2.2.1 = 1 → ((k, (z.1, (W .i64 (z.2 + x.2.2.2.2.1), ()))) : vtI3) = nz k (addO x z)) := by
  have g : ∀ q : Int, 1 ≤ q ∧ q ≤ 1000000000 → W .i64 (z.1 + q) = z.1 + q ∧ W .i64 (z.2 + q) = z.2 + q := fun q hq => by
    unfold zIn at hz
    exact ⟨W_i64 (by omega) (by omega), W_i64 (by omega) (by omega)⟩
  have gx := g _ hq
  unfold addO nz
  exact ⟨fun h => by rw [gx.1, if_pos h], fun h => by rw [gx.2, if_neg h]⟩
theorem opens_inner (N : Nat) {F : vtI3 → Option wtI3} {G : Nat → vtI3 → Int → Option wtI3} (l : wtI6) (a k : Int) (hq : QOrd l) (hl : l.length ≤ 1000) (hN : l.length < N)
    (hs : ∀ n i z r, i < l.length → zIn z i → G n (nz k (if (l.getD i zz6).2.1 = a ∧ (l.getD i zz6).2.2.1 = k then addO (l.getD i zz6) z else z)) ((i + 1 : Nat) : Int) = r → G (n + 1) (nz k z) (i : Int) = r)
    (he : ∀ n z, zIn z l.length → G (n + 1) (nz k z) (l.length : Int) = F (nz k z)) : G N (nz k (0, 0)) 0 = F (nz k (bsF l a k)) := by
  have := lrec l zz6 (fun n i (z : Int × Int) => G n (nz k z) i) (fun t z => F (nz k (bsL a k t z))) (fun i z => zIn z i) (fun n i z hi hz hr => ?_) (fun n z hz => he n z hz) l.length N 0 (0, 0) (by omega) hN (by omega) (by unfold zIn; decide)
  · exact this
  · rw [bsL_cons]
    refine hs n i z _ hi hz (hr _ ?_)
    split
    · exact addO_in (qord_at hq hi) hz
    · exact zIn.mono hz (by omega)
theorem opens_outer {F : Nat → wtI3 → Int → Option wtI3} (f : Int → Int × Int)
    (hs : ∀ (n k : Nat) (out : wtI3) (r : Option wtI3), k < 6 → out.length ≤ k → F n (if 0 < (f (k : Int)).1 + (f (k : Int)).2 then out ++ [nz (k : Int) (f (k : Int))] else out) ((k + 1 : Nat) : Int) = r → F (n + 1) out (k : Int) = r)
    (he : ∀ n out, F (n + 1) out 6 = some out) : ∀ (m n k : Nat) (out : wtI3), k + m = 6 → m < n → out.length ≤ k → F n out (k : Int) = some (out ++ opF f m k)
  | _, 0, _, _, _, hn, _ => by omega
  | 0, n + 1, k, out, hk, _, _ => by
    have : k = 6 := by omega
    subst this
    rw [show opF f 0 6 = [] from rfl, List.append_nil]
    exact he n out
  | m + 1, n + 1, k, out, hk, hn, ho => by
    refine hs n k out _ (by omega) ho ?_
    rw [opens_outer f hs he m n (k + 1) _ (by omega) (by omega) (by
      split
      · rw [List.length_append, List.length_singleton]; omega
      · omega), opF_succ]
    split
    · rw [List.append_assoc]; rfl
    · rfl
theorem Opens_eq (N : Nat) (hN : 200000 ≤ N) {l : wtI6} (hl : l.length ≤ 100000) (a : Int) : F103 N l a = some (if okOrders l then opensOf l a else []) := by
  unfold F103 F103.b
  rw [Orders_eq N hl hN, Option.bind_some]
  by_cases h : okOrders l = false
  · rw [h]; rfl
  rw [Bool.not_eq_false] at h
  rw [h, Bool.not_true, cond_false, if_pos rfl]
  obtain ⟨hq, h32⟩ := orders_q h
  refine opens_outer (F := fun n out k => F103.l5 N n l a out k) (bsF l a) (fun n k out r hk ho hr => ?_) (fun n out => ?_) 6 N 0 [] (by omega) (by omega) (Nat.le_refl _)
  · unfold F103.l5 F103.l5b
    rw [ltB_t (by omega), cond_true]
    refine (opens_inner N (G := fun n' x i => F103.l9 N (F103.l5 N n) n' l a out (k : Int) x (k : Int) l (l.length : Int) i) (F := fun x => cond (ltB 0 (W .i64 (x.2.1 + x.2.2.1))) (cond (small (out.length + [x].length)) (F103.l5 N n l a (out ++ [x]) (W .i64 ((k : Int) + 1))) none) (F103.l5 N n l a out (W .i64 ((k : Int) + 1)))) l a (k : Int) hq (by omega) (by omega) (fun n' i z r' hi hz hr' => ?_) (fun n' z hz => ?_)).trans ?_
    · unfold F103.l9 F103.l9b
      rw [ltB_t (by omega), cond_true, inb_t (by omega) (by omega), cond_true, Int.toNat_natCast, cond_not, cond_eqB, cond_not, cond_eqB, cond_eqB, W_i64 (x := (i : Int) + 1) (by omega) (by omega), natCast_succ' i]
      have hw := addO_W (n := i) (by omega) (qord_at hq hi) hz (k : Int)
      by_cases h1 : (l.getD i zz6).2.1 = a
      · rw [if_pos h1]
        by_cases h2 : (l.getD i zz6).2.2.1 = (k : Int)
        · rw [if_pos ⟨h1, h2⟩] at hr'
          rw [if_pos h2]
          by_cases h3 : (l.getD i zz6).2.2.2.1 = 1
          · rw [if_pos h3, ← hr', ← hw.1 h3]; rfl
          · rw [if_neg h3, ← hr', ← hw.2 h3]; rfl
        · rw [if_neg (fun h => h2 h.2)] at hr'
          rw [if_neg h2]; exact hr'
      · rw [if_neg (fun h => h1 h.1)] at hr'
        rw [if_neg h1]; exact hr'
    · unfold F103.l9 F103.l9b
      rw [ltB_f (by omega), cond_false]
    · have hz := bsF_rng hq a (k : Int)
      unfold zIn at hz
      show cond (ltB 0 (W .i64 ((bsF l a (k : Int)).1 + (bsF l a (k : Int)).2))) _ _ = r
      rw [W_i64 (x := (bsF l a (k : Int)).1 + (bsF l a (k : Int)).2) (by omega) (by omega), cond_ltB, small_t (by rw [List.length_singleton]; omega), cond_true, W_i64 (x := (k : Int) + 1) (by omega) (by omega), natCast_succ' k, ← hr]
      split <;> rfl
  · unfold F103.l5 F103.l5b
    rw [ltB_f (by omega), cond_false]
theorem ropens_eq (N : Nat) (hN : 200000 ≤ N) {l : wtI6} (hq : QOrd l) (hl : l.length ≤ 1000) (a : Int) : F152 N l a = some (opensOf l a) := by
  unfold F152 F152.b
  refine opens_outer (F := fun n out k => F152.l3 N n l a out k) (bsF l a) (fun n k out r hk ho hr => ?_) (fun n out => ?_) 6 N 0 [] (by omega) (by omega) (Nat.le_refl _)
  · unfold F152.l3 F152.l3b
    rw [ltB_t (by omega), cond_true]
    refine (opens_inner N (G := fun n' x i => F152.l7 N (F152.l3 N n) n' l a out (k : Int) x i) (F := fun x => cond (ltB 0 x.2.1) (cond (small (out.length + [x].length)) (F152.l3 N n l a (out ++ [x]) (W .i64 ((k : Int) + 1))) none) (cond (ltB 0 x.2.2.1) (cond (small (out.length + [x].length)) (F152.l3 N n l a (out ++ [x]) (W .i64 ((k : Int) + 1))) none) (F152.l3 N n l a out (W .i64 ((k : Int) + 1))))) l a (k : Int) hq (by omega) (by omega) (fun n' i z r' hi hz hr' => ?_) (fun n' z hz => ?_)).trans ?_
    · unfold F152.l7 F152.l7b
      rw [ltB_t (by omega), cond_true, inb_t (by omega) (by omega), cond_true, cond_true, cond_true, cond_true, cond_true, Int.toNat_natCast, cond_not, cond_eqB, cond_not, cond_eqB, cond_eqB, W_i64 (x := (i : Int) + 1) (by omega) (by omega), natCast_succ' i]
      have hw := addO_W (n := i) (by omega) (qord_at hq hi) hz (k : Int)
      by_cases h1 : (l.getD i zz6).2.1 = a
      · rw [if_pos h1]
        by_cases h2 : (l.getD i zz6).2.2.1 = (k : Int)
        · rw [if_pos ⟨h1, h2⟩] at hr'
          rw [if_pos h2]
          by_cases h3 : (l.getD i zz6).2.2.2.1 = 1
          · rw [if_pos h3, ← hr', ← hw.1 h3]; rfl
          · rw [if_neg h3, ← hr', ← hw.2 h3]; rfl
        · rw [if_neg (fun h => h2 h.2)] at hr'
          rw [if_neg h2]; exact hr'
      · rw [if_neg (fun h => h1 h.1)] at hr'
        rw [if_neg h1]; exact hr'
    · unfold F152.l7 F152.l7b
      rw [ltB_f (by omega), cond_false]
    · have hz := bsF_rng hq a (k : Int)
      unfold zIn at hz
      show cond (ltB 0 (bsF l a (k : Int)).1) _ (cond (ltB 0 (bsF l a (k : Int)).2) _ _) = r
      rw [cond_ltB, cond_ltB, small_t (by rw [List.length_singleton]; omega), cond_true, W_i64 (x := (k : Int) + 1) (by omega) (by omega), natCast_succ' k, ← hr]
      by_cases h0 : 0 < (bsF l a (k : Int)).1 + (bsF l a (k : Int)).2
      · rw [if_pos h0]
        by_cases h1 : 0 < (bsF l a (k : Int)).1
        · rw [if_pos h1]
        · rw [if_neg h1, if_pos (by omega)]
      · rw [if_neg h0, if_neg (by omega), if_neg (by omega)]
  · unfold F152.l3 F152.l3b
    rw [ltB_f (by omega), cond_false]
theorem cut_at (a : Int) : ∀ (l : wtI3) (i : Nat), i < cutAt a l → oK (l.getD i zz3) < a
  | [], i, h => absurd h (Nat.not_lt_zero i)
  | x :: t, i, h => by
    rw [cutAt_cons] at h
    by_cases h1 : oK x < a
    · rw [if_pos h1] at h
      match i with
      | 0 => exact h1
      | i + 1 => exact cut_at a t i (by omega)
    · rw [if_neg h1] at h; exact absurd h (Nat.not_lt_zero i)
theorem cut_end (a : Int) : ∀ l : wtI3, cutAt a l < l.length → ¬ oK (l.getD (cutAt a l) zz3) < a
  | [], h => absurd h (Nat.not_lt_zero _)
  | x :: t, h => by
    rw [cutAt_cons] at h ⊢
    by_cases h1 : oK x < a
    · rw [if_pos h1] at h ⊢
      rw [List.length_cons] at h
      exact cut_end a t (by omega)
    · rw [if_neg h1]; exact h1
theorem with_loop (N : Nat) (o : vtI6) (l : wtI3) (hl : l.length ≤ 100000) : ∀ m n i, cutAt (oI o) l - i ≤ m → m < n → i ≤ cutAt (oI o) l → F144.l2 N n l o (i : Int) = F144.j4 N l o (cutAt (oI o) l : Int)
  | m, 0, i, _, hn, _ => by omega
  | m, n + 1, i, hm, hn, hi => by
    have hle := cutAt_le (oI o) l
    unfold F144.l2 F144.l2b
    rw [cond_ltB, cond_ltB, W_i64 (x := (i : Int) + 1) (by omega) (by omega), natCast_succ' i, Int.toNat_natCast]
    by_cases h : i < cutAt (oI o) l
    · rw [if_pos (by omega), inb_t (by omega) (by omega), cond_true]
      exact (if_pos (cut_at (oI o) l i h)).trans (with_loop N o l hl (m - 1) n (i + 1) (by omega) (by omega) (by omega))
    · have e : i = cutAt (oI o) l := by omega
      rw [← e]
      by_cases h2 : (i : Int) < (l.length : Int)
      · rw [if_pos h2, inb_t (by omega) (by omega), cond_true]
        have := cut_end (oI o) l (by omega)
        rw [← e] at this
        exact if_neg this
      · rw [if_neg h2]
theorem set_midO {α : Type} (a b : List α) (x y : α) : (a ++ x :: b).set a.length y = a ++ y :: b := by
  rw [List.set_append_right _ _ (Nat.le_refl _), Nat.sub_self]; rfl
theorem getD_midO {α : Type} (a b : List α) (x d : α) : (a ++ x :: b).getD a.length d = x := by
  rw [List.getD_eq_getElem?_getD, List.getElem?_append_right (Nat.le_refl _), Nat.sub_self]; rfl
def zOp (z : Int × Int) : Prop := 0 ≤ z.1 ∧ z.1 ≤ 33000000000 ∧ 0 ≤ z.2 ∧ z.2 ≤ 33000000000
theorem addO_at {o : vtI6} (hq : 1 ≤ oQ o ∧ oQ o ≤ 1000000000) {x : vtI3} (hz : zOp (x.2.1, x.2.2.1)) :
    (o.2.2.2.1 = 1 → ((x.1, (W .i64 (x.2.1 + o.2.2.2.2.1), x.2.2)) : vtI3) = atO o x) ∧ (¬ o.2.2.2.1 = 1 → ((x.1, (x.2.1, (W .i64 (x.2.2.1 + o.2.2.2.2.1), x.2.2.2))) : vtI3) = atO o x) := by
  have g : ∀ a b q : Int, zOp (a, b) → 1 ≤ q ∧ q ≤ 1000000000 → W .i64 (a + q) = a + q ∧ W .i64 (b + q) = b + q := fun a b q hz hq => by
    unfold zOp at hz
    dsimp only at hz
    exact ⟨W_i64 (by omega) (by omega), W_i64 (by omega) (by omega)⟩
  have gx := g _ _ _ hz hq
  unfold oQ at gx
  unfold atO addO nz oK
  exact ⟨fun h => by rw [gx.1, if_pos h], fun h => by rw [gx.2, if_neg h]⟩
theorem with_j6 (N : Nat) {o : vtI6} (hq : 1 ≤ oQ o ∧ oQ o ≤ 1000000000) {l : wtI3} {i : Nat} (hi : i < l.length) (hl : l.length ≤ 100000) (hz : zOp ((l.getD i zz3).2.1, (l.getD i zz3).2.2.1)) : F144.j6 N l o (i : Int) = some (l.set i (atO o (l.getD i zz3))) := by
  unfold F144.j6 F144.j6b
  have h := addO_at hq hz
  rw [inb_t (by omega) (by omega), cond_true, cond_true, cond_true, cond_true, Int.toNat_natCast, cond_eqB]
  by_cases h3 : o.2.2.2.1 = 1
  · rw [if_pos h3, ← h.1 h3]
  · rw [if_neg h3, ← h.2 h3]
theorem with_ins (N : Nat) {o : vtI6} (hq : 1 ≤ oQ o ∧ oQ o ≤ 1000000000) {l : wtI3} {i : Nat} (hi : i ≤ l.length) (hl : l.length ≤ 1000) :
    ((insertL N l (i : Int) ([(o.2.2.1, zz2)] : wtI3)).bind fun r4 => F144.j6 N r4 o (i : Int)) = some (l.take i ++ nz (oI o) (addO o (0, 0)) :: l.drop i) := by
  unfold insertL
  rw [if_pos ⟨by omega, by omega, rfl, by unfold big; omega⟩, Option.bind_some, Int.toNat_natCast]
  have ht : (l.take i).length = i := by rw [List.length_take]; omega
  have hg : ∀ d : vtI3, (l.take i ++ d :: l.drop i).getD i zz3 = d := fun d => by
    have := getD_midO (l.take i) (l.drop i) d zz3
    rw [ht] at this; exact this
  have hs : ∀ d y : vtI3, (l.take i ++ d :: l.drop i).set i y = l.take i ++ y :: l.drop i := fun d y => by
    have := set_midO (l.take i) (l.drop i) d y
    rw [ht] at this; exact this
  have hn : (l.take i ++ (((oI o, zz2) : vtI3) :: l.drop i)).length = l.length + 1 := by rw [List.length_append, List.length_cons, List.length_take, List.length_drop]; omega
  have := with_j6 N hq (l := l.take i ++ (((oI o, zz2) : vtI3) :: l.drop i)) (i := i) (by omega) (by omega) (by rw [hg]; exact ⟨Int.le_refl _, (by decide : (0 : Int) ≤ 33000000000), Int.le_refl _, (by decide : (0 : Int) ≤ 33000000000)⟩)
  rw [hg, hs] at this
  exact this
theorem with_eq (N : Nat) (hN : 200000 ≤ N) {o : vtI6} (hq : 1 ≤ oQ o ∧ oQ o ≤ 1000000000) {l : wtI3} (hl : l.length ≤ 1000) (hz : ∀ x ∈ l, zOp (x.2.1, x.2.2.1)) : F144 N l o = some (withL o l) := by
  unfold F144 F144.b
  have hle := cutAt_le (oI o) l
  refine (with_loop N o l (by omega) (cutAt (oI o) l) N 0 (by omega) (by omega) (by omega)).trans ?_
  unfold F144.j4 F144.j4b
  rw [cond_eqB, cond_not, cond_eqB, Int.toNat_natCast]
  by_cases h : cutAt (oI o) l = l.length
  · rw [if_pos (by omega), with_ins N hq hle hl, withL_new o l (.inl h)]
  · rw [if_neg (by omega), inb_t (by omega) (by omega), cond_true]
    by_cases h2 : oK (l.getD (cutAt (oI o) l) zz3) = oI o
    · rw [withL_old o l (by omega) h2]
      refine (if_pos h2).trans (with_j6 N hq (by omega) (by omega) (hz _ ?_))
      rw [List.getD_eq_getElem?_getD, List.getElem?_eq_getElem (by omega)]; exact List.getElem_mem _
    · rw [withL_new o l (.inr h2)]
      exact (if_neg h2).trans (with_ins N hq hle hl)
end VM
end

section
/- Plain laws: open orders that may be, and how far a position may come. -/
set_option linter.unusedSimpArgs false
namespace VM
open Go VM.F
set_option linter.unusedVariables false

def okOpen6 (a b s n : Int) (i : Nat) (p : Int) : Prop := 0 ≤ a ∧ a < n ∧ 0 ≤ b ∧ b ≤ 33000000000 ∧ 0 ≤ s ∧ s ≤ 33000000000 ∧ (b = 0 → s ≠ 0) ∧ (0 < i → p < a)
instance (a b s n : Int) (i : Nat) (p : Int) : Decidable (okOpen6 a b s n i p) := by unfold okOpen6; infer_instance
def okOpen (c : vtConfig) (l : wtI3) (i : Nat) : Prop := okOpen6 (l.getD i zz3).1 (l.getD i zz3).2.1 (l.getD i zz3).2.2.1 c.1.length i (l.getD (i - 1) zz3).1
instance (c : vtConfig) (l : wtI3) : DecidablePred (okOpen c l) := fun i => by unfold okOpen; infer_instance
def okOpens (c : vtConfig) (l : wtI3) : Bool := decide (∀ j, j < l.length → okOpen c l j) && okPlan c

def lastQ (k : Int) : wtI2 → Int → Int
  | [], z => z
  | x :: t, z => lastQ k t (if x.1 = k then x.2.1 else z)
theorem lastQ_cons (k : Int) (x : vtI2) (t : wtI2) (z : Int) : lastQ k (x :: t) z = lastQ k t (if x.1 = k then x.2.1 else z) := rfl
def lastO (k : Int) : wtI3 → Int × Int → Int × Int
  | [], z => z
  | x :: t, z => lastO k t (if x.1 = k then (x.2.1, x.2.2.1) else z)
theorem lastO_cons (k : Int) (x : vtI3) (t : wtI3) (z : Int × Int) : lastO k (x :: t) z = lastO k t (if x.1 = k then (x.2.1, x.2.2.1) else z) := rfl
theorem lastQ_in (k : Int) : ∀ {l : wtI2} {z : Int}, (∀ y ∈ l, In64 y.2.1) → In64 z → In64 (lastQ k l z)
  | [], z, _, h => h
  | x :: t, z, hl, h => by
    rw [lastQ_cons]
    refine lastQ_in k (fun y hy => hl y (List.mem_cons_of_mem _ hy)) ?_
    split
    · exact hl x (List.mem_cons_self ..)
    · exact h
theorem lastO_in (k : Int) : ∀ {l : wtI3} {z : Int × Int}, (∀ x ∈ l, zOp (x.2.1, x.2.2.1)) → zOp z → zOp (lastO k l z)
  | [], z, _, h => h
  | x :: t, z, hl, h => by
    rw [lastO_cons]
    refine lastO_in k (fun y hy => hl y (List.mem_cons_of_mem _ hy)) ?_
    split
    · exact hl x (List.mem_cons_self ..)
    · exact h
theorem opens_z {c : vtConfig} {l : wtI3} (h : okOpens c l = true) : ∀ x ∈ l, zOp (x.2.1, x.2.2.1) := fun x hx => by
  unfold okOpens at h
  rw [Bool.and_eq_true] at h
  obtain ⟨i, hi, e⟩ := List.getElem_of_mem hx
  have h1 := of_decide_eq_true h.1 i hi
  unfold okOpen at h1
  rw [List.getD_eq_getElem?_getD, List.getElem?_eq_getElem hi, Option.getD_some, e] at h1
  unfold okOpen6 at h1
  exact ⟨h1.2.2.1, h1.2.2.2.1, h1.2.2.2.2.1, h1.2.2.2.2.2.1⟩
def topV (q : Int) (z : Int × Int) : Int := if ((q + z.1).natAbs : Int) < ((q - z.2).natAbs : Int) then ((q - z.2).natAbs : Int) else ((q + z.1).natAbs : Int)
theorem topV_rng {q : Int} {z : Int × Int} (hq : In64 q) (hz : zOp z) : 0 ≤ topV q z ∧ topV q z ≤ 9223372069854775808 := by
  unfold topV zOp In64 at *
  split <;> omega
def topN (l : wtI2) (o : wtI3) (k : Int) : Int := topV (lastQ k l 0) (lastO k o (0, 0))
def topOf (c : vtConfig) (l : wtI2) (o : wtI3) (k : Int) : Int × Int :=
  if okLegs c l && okOpens c o then (if 0 ≤ k ∧ k < (c.1.length : Int) then (topN l o k, 0) else (0, 3)) else (0, 1)
theorem topN_rng {c : vtConfig} {l : wtI2} {o : wtI3} (ho : okOpens c o = true) (h64 : ∀ y ∈ l, In64 y.2.1) (k : Int) : 0 ≤ topN l o k ∧ topN l o k ≤ 9223372069854775808 :=
  topV_rng (lastQ_in k h64 (show In64 0 by unfold In64; omega)) (lastO_in k (opens_z ho) (by unfold zOp; decide))
def rateAt (c : vtConfig) (i : Nat) : Int := (c.1.getD i zz4).2.2.1
theorem rate_in {c : vtConfig} (h : okPlan c = true) {i : Nat} (hi : i < c.1.length) : 0 ≤ rateAt c i ∧ rateAt c i ≤ 1000000000 := by
  unfold okPlan at h
  simp only [Bool.and_eq_true] at h
  have := of_decide_eq_true h.2.1 i hi
  unfold okInst okInst4 at this
  exact this.2.2.1
def worstTo (c : vtConfig) (l : wtI2) (o : wtI3) : Nat → Int
  | 0 => 0
  | n + 1 => worstTo c l o n + topN l o (n : Int) * rateAt c n
def worstL (c : vtConfig) (l : wtI2) (o : wtI3) : Nat → List Int
  | 0 => []
  | n + 1 => worstL c l o n ++ [topN l o (n : Int) * rateAt c n]
theorem worstL_sum (c : vtConfig) (l : wtI2) (o : wtI3) : ∀ n, (worstL c l o n).sum = worstTo c l o n
  | 0 => rfl
  | n + 1 => by
    show (worstL c l o n ++ [topN l o (n : Int) * rateAt c n]).sum = worstTo c l o n + topN l o (n : Int) * rateAt c n
    rw [List.sum_append, worstL_sum c l o n, List.sum_cons, List.sum_nil, Int.add_zero]
theorem worstL_len (c : vtConfig) (l : wtI2) (o : wtI3) : ∀ n, (worstL c l o n).length = n
  | 0 => rfl
  | n + 1 => by
    show (worstL c l o n ++ [topN l o (n : Int) * rateAt c n]).length = n + 1
    rw [List.length_append, worstL_len c l o n]; rfl
def worstOf (c : vtConfig) (l : wtI2) (o : wtI3) : Int × Int :=
  if okLegs c l && okOpens c o then (worstTo c l o c.1.length, 0) else (0, 1)
theorem mul_rng {a b : Int} (ha : 0 ≤ a ∧ a ≤ 9223372069854775808) (hb : 0 ≤ b ∧ b ≤ 1000000000) : 0 ≤ a * b ∧ a * b ≤ 9223372069854775808000000000 :=
  ⟨Int.mul_nonneg ha.1 hb.1, Int.le_trans (Int.mul_le_mul ha.2 hb.2 hb.1 (by decide)) (by decide)⟩
theorem worst_rng {c : vtConfig} {l : wtI2} {o : wtI3} (hp : okPlan c = true) (ho : okOpens c o = true) (h64 : ∀ y ∈ l, In64 y.2.1) : ∀ n, n ≤ c.1.length → 0 ≤ worstTo c l o n ∧ worstTo c l o n ≤ 9223372069854775808000000000 * (n : Int)
  | 0, _ => ⟨Int.le_refl _, Int.le_refl _⟩
  | n + 1, hn => by
    have ih := worst_rng hp ho h64 n (by omega)
    have h1 := mul_rng (topN_rng ho h64 (n : Int)) (rate_in hp (i := n) (by omega))
    show 0 ≤ worstTo c l o n + topN l o (n : Int) * rateAt c n ∧ worstTo c l o n + topN l o (n : Int) * rateAt c n ≤ _
    omega
theorem opens_plan {c : vtConfig} {l : wtI3} (h : okOpens c l = true) : okPlan c = true := by
  unfold okOpens at h
  rw [Bool.and_eq_true] at h; exact h.2
theorem plan_len {c : vtConfig} (h : okPlan c = true) : c.1.length ≤ 6 := by
  unfold okPlan at h
  simp only [Bool.and_eq_true] at h
  exact (of_decide_eq_true h.1).2
theorem worstOf_rng (c : vtConfig) {l : wtI2} (o : wtI3) (h64 : ∀ y ∈ l, In64 y.2.1) : 0 ≤ (worstOf c l o).1 ∧ (worstOf c l o).1 ≤ 60000000000000000000000000000 := by
  unfold worstOf
  by_cases h : (okLegs c l && okOpens c o) = true
  · rw [if_pos h]
    rw [Bool.and_eq_true] at h
    have := worst_rng (opens_plan h.2) h.2 h64 c.1.length (Nat.le_refl _)
    have h6 := plan_len (opens_plan h.2)
    dsimp only
    omega
  · rw [if_neg h]; decide
theorem topOf_rng (c : vtConfig) {l : wtI2} (o : wtI3) (h64 : ∀ y ∈ l, In64 y.2.1) (k : Int) : 0 ≤ (topOf c l o k).1 ∧ (topOf c l o k).1 ≤ 9223372069854775808 := by
  unfold topOf
  by_cases h : (okLegs c l && okOpens c o) = true
  · rw [if_pos h]
    rw [Bool.and_eq_true] at h
    split
    · exact topN_rng h.2 h64 k
    · decide
  · rw [if_neg h]; decide
theorem opnS1 {P : Prop} [Decidable P] {a b s n p : Int} {r : Option Bool} (h : P ↔ 0 ≤ a ∧ a < n ∧ 0 ≤ b ∧ b ≤ 33000000000 ∧ 0 ≤ s ∧ s ≤ 33000000000 ∧ (b = 0 → s ≠ 0) ∧ p < a) :
    (if a < 0 then some false else if n ≤ a then some false else if b < 0 then some false else if 33000000000 < b then some false else if s < 0 then some false else if 33000000000 < s then some false else
      if b = 0 then (if s = 0 then some false else if a ≤ p then some false else r) else if a ≤ p then some false else r) = if P then r else some false := by
  by_cases hP : P
  · have := h.1 hP
    rw [if_pos hP, if_neg (by omega), if_neg (by omega), if_neg (by omega), if_neg (by omega), if_neg (by omega), if_neg (by omega)]
    split
    · rw [if_neg (by omega), if_neg (by omega)]
    · rw [if_neg (by omega)]
  · rw [if_neg hP]
    have h2 := fun h1 h2 h3 h4 h5 h6 h7 h8 => hP (h.2 ⟨h1, h2, h3, h4, h5, h6, h7, h8⟩)
    repeat' split
    all_goals first | rfl | (exfalso; exact h2 (by omega) (by omega) (by omega) (by omega) (by omega) (by omega) (by omega) (by omega))
theorem opnS0 {P : Prop} [Decidable P] {a b s n : Int} {r : Option Bool} (h : P ↔ 0 ≤ a ∧ a < n ∧ 0 ≤ b ∧ b ≤ 33000000000 ∧ 0 ≤ s ∧ s ≤ 33000000000 ∧ (b = 0 → s ≠ 0)) :
    (if a < 0 then some false else if n ≤ a then some false else if b < 0 then some false else if 33000000000 < b then some false else if s < 0 then some false else if 33000000000 < s then some false else
      if b = 0 then (if s = 0 then some false else r) else r) = if P then r else some false := by
  by_cases hP : P
  · have := h.1 hP
    rw [if_pos hP, if_neg (by omega), if_neg (by omega), if_neg (by omega), if_neg (by omega), if_neg (by omega), if_neg (by omega)]
    split
    · rw [if_neg (by omega)]
    · rfl
  · rw [if_neg hP]
    have h2 := fun h1 h2 h3 h4 h5 h6 h7 => hP (h.2 ⟨h1, h2, h3, h4, h5, h6, h7⟩)
    repeat' split
    all_goals first | rfl | (exfalso; exact h2 (by omega) (by omega) (by omega) (by omega) (by omega) (by omega) (by omega))
theorem okOpen_pos {c : vtConfig} {l : wtI3} {i : Nat} (h : 0 < i) : okOpen c l i ↔ 0 ≤ (l.getD i zz3).1 ∧ (l.getD i zz3).1 < (c.1.length : Int) ∧ 0 ≤ (l.getD i zz3).2.1 ∧ (l.getD i zz3).2.1 ≤ 33000000000 ∧ 0 ≤ (l.getD i zz3).2.2.1 ∧ (l.getD i zz3).2.2.1 ≤ 33000000000 ∧ ((l.getD i zz3).2.1 = 0 → (l.getD i zz3).2.2.1 ≠ 0) ∧ (l.getD (i - 1) zz3).1 < (l.getD i zz3).1 :=
  ⟨fun ⟨a, b, c, d, e, f, g, k⟩ => ⟨a, b, c, d, e, f, g, k h⟩, fun ⟨a, b, c, d, e, f, g, k⟩ => ⟨a, b, c, d, e, f, g, fun _ => k⟩⟩
theorem okOpen_zero {c : vtConfig} {l : wtI3} {i : Nat} (h : ¬ 0 < i) : okOpen c l i ↔ 0 ≤ (l.getD i zz3).1 ∧ (l.getD i zz3).1 < (c.1.length : Int) ∧ 0 ≤ (l.getD i zz3).2.1 ∧ (l.getD i zz3).2.1 ≤ 33000000000 ∧ 0 ≤ (l.getD i zz3).2.2.1 ∧ (l.getD i zz3).2.2.1 ≤ 33000000000 ∧ ((l.getD i zz3).2.1 = 0 → (l.getD i zz3).2.2.1 ≠ 0) :=
  ⟨fun ⟨a, b, c, d, e, f, g, _⟩ => ⟨a, b, c, d, e, f, g⟩, fun ⟨a, b, c, d, e, f, g⟩ => ⟨a, b, c, d, e, f, g, fun k => absurd k h⟩⟩
theorem NOpens_eq (N : Nat) (hN : 200000 ≤ N) (c : vtConfig) {l : wtI3} (hl : l.length ≤ 100000) : F181 N c l = some (okOpens c l) := by
  unfold F181 F181.b
  refine scan0 (F := fun n i => F181.l2 N n l c l (l.length : Int) i) (okOpen c l) (fun n i r hi hp hr => ?_) (fun n => ?_) N (by omega)
  · unfold F181.l2 F181.l2b
    rw [ltB_t (by omega), cond_true, inb_t (by omega) (by omega), cond_true, Int.toNat_natCast, W_i64 (x := (i : Int) + 1) (by omega) (by omega), natCast_succ', hr]
    by_cases h0 : 0 < i
    · have e : W .i64 ((i : Int) - 1) = ((i - 1 : Nat) : Int) := by rw [W_i64 (by omega) (by omega)]; omega
      dsimp only
      rw [ltB_t (x := 0) (y := (i : Int)) (by omega), e, Int.toNat_natCast, inb_t (i := ((i - 1 : Nat) : Int)) (by omega) (by omega)]
      simp only [cond_ltB, cond_leB, cond_eqB, cond_true]
      have hg := okOpen_pos h0 (c := c) (l := l)
      exact opnS1 hg
    · rw [ltB_f (x := 0) (y := (i : Int)) (by omega)]
      simp only [cond_ltB, cond_leB, cond_eqB, cond_true, cond_false]
      have hg := okOpen_zero h0 (c := c) (l := l)
      exact opnS0 hg
  · unfold F181.l2 F181.l2b
    rw [ltB_f (by omega), cond_false, Plan_eq N (by omega), Option.bind_some]
theorem rNOpens_eq (N : Nat) (hN : 200000 ≤ N) (c : vtConfig) {l : wtI3} (hl : l.length ≤ 100000) : F214 N c l = some (okOpens c l) := by
  unfold F214 F214.b
  rw [rPlan_eq N (by omega), Option.bind_some]
  have hsc := scan0 (F := fun n i => F214.l5 N n l c 33000000000 i) (e := true) (okOpen c l) (fun n i r hi hp hr => ?_) (fun n => ?_) N (show l.length < N by omega)
  · rw [and_some hsc]; unfold okOpens
    rw [Bool.and_true, Bool.and_comm]
  · unfold F214.l5 F214.l5b
    rw [ltB_t (by omega), cond_true, inb_t (by omega) (by omega), cond_true, Int.toNat_natCast, W_i64 (x := (i : Int) + 1) (by omega) (by omega), natCast_succ', hr]
    by_cases h0 : 0 < i
    · have e : W .i64 ((i : Int) - 1) = ((i - 1 : Nat) : Int) := by rw [W_i64 (by omega) (by omega)]; omega
      dsimp only
      rw [ltB_t (x := 0) (y := (i : Int)) (by omega), e, Int.toNat_natCast, inb_t (i := ((i - 1 : Nat) : Int)) (by omega) (by omega)]
      simp only [cond_ltB, cond_leB, cond_eqB, cond_true]
      have hg := okOpen_pos h0 (c := c) (l := l)
      exact opnS1 hg
    · rw [ltB_f (x := 0) (y := (i : Int)) (by omega)]
      simp only [cond_ltB, cond_leB, cond_eqB, cond_true, cond_false]
      have hg := okOpen_zero h0 (c := c) (l := l)
      exact opnS0 hg
  · unfold F214.l5 F214.l5b
    rw [ltB_f (by omega), cond_false]
end VM
end

