/- A part of the proof of HedgeAll of layer 22: what the functions compute, in plain words. -/
import Derived.Test.YthpchkeghefokaaGreatPlain2
import Derived.Test.YthpchkeghefokaaGreatVm6
set_option linter.all false
section
/- Plain laws: ledger.Post. -/
set_option linter.unusedSimpArgs false
namespace VM
open Go VM.F
set_option linter.unusedVariables false

def Q128 (E : wtI3) : Prop := ∀ x ∈ E, In128 (qty x)
def entW (r : vtI3) : vtEntry := (r.1, (r.2.1, (wideN (qty r), ())))
theorem entW_at (E : wtI3) (i : Nat) : (E.map entW).getD i ((0 : Int), ((0 : Int), (zz2, ()))) = entW (E.getD i zz3) := by
  by_cases h : i < E.length
  · rw [List.getD_eq_getElem?_getD, List.getElem?_map, List.getElem?_eq_getElem h, List.getD_eq_getElem?_getD, List.getElem?_eq_getElem h]; rfl
  · rw [List.getD_eq_getElem?_getD, List.getElem?_eq_none (by rw [List.length_map]; omega), List.getD_eq_getElem?_getD, List.getElem?_eq_none (by omega)]; rfl
theorem q128_at {l : wtI3} (h : Q128 l) (i : Nat) : In128 (qty (l.getD i zz3)) := by
  by_cases hi : i < l.length
  · rw [List.getD_eq_getElem?_getD, List.getElem?_eq_getElem hi]; exact h _ (List.getElem_mem hi)
  · rw [List.getD_eq_getElem?_getD, List.getElem?_eq_none (by omega)]; exact ⟨by decide, by decide⟩
theorem in128_of64 {x : Int} (h : In64 x) : In128 x := by unfold In64 at h; unfold In128; omega
theorem in128_snoc {ws : List Int} {x : Int} (h : ∀ y ∈ ws, In128 y) (hx : In128 x) : ∀ y ∈ ws ++ [x], In128 y := fun y hy => by
  rcases List.mem_append.1 hy with hy | hy
  · exact h y hy
  · rw [List.mem_singleton.1 hy]; exact hx
theorem clipR_eq (N : Nat) {l : wtI3} : F233 N l = some l := clipP_eq N

theorem postR_in (N : Nat) (hN : 2000000 ≤ N) (K : F180.t_l26) {E out R : wtI3} (hq : Q128 E) (hl : E.length ≤ 100000) (ho : out.length ≤ 1000000) (r : vtI3) (hr : In64 (qty r)) (i : Nat) (hi : i ≤ 1000000) :
    F180.l30 N K N (E.map entW) out r [wideN (qty r)] R (R.length : Int) (i : Int) (E.map entW) ((E.map entW).length : Int) 0 =
      if In64 (qty r + sumAt r.1 r.2.1 E) then K (E.map entW) (if qty r + sumAt r.1 r.2.1 E = 0 then out else out ++ [(r.1, (r.2.1, (qty r + sumAt r.1 r.2.1 E, ())))]) R (R.length : Int) ((i + 1 : Nat) : Int) else some (ee3, (2 : Int)) := by
  have := lrec E zz3 (fun n j ws => F180.l30 N K n (E.map entW) out r (ws.map wideN) R (R.length : Int) (i : Int) (E.map entW) ((E.map entW).length : Int) j)
    (fun t ws => if In64 (ws ++ valsAt r.1 r.2.1 t).sum then K (E.map entW) (if (ws ++ valsAt r.1 r.2.1 t).sum = 0 then out else out ++ [(r.1, (r.2.1, ((ws ++ valsAt r.1 r.2.1 t).sum, ())))]) R (R.length : Int) ((i + 1 : Nat) : Int) else some (ee3, (2 : Int)))
    (fun j (ws : List Int) => ws.length ≤ j + 1 ∧ ∀ x ∈ ws, In128 x)
    (fun n j ws hj hI hr' => ?_) (fun n ws hI => ?_) E.length N 0 [qty r] (by omega) (by omega) (by omega) ⟨Nat.le_refl _, fun x hx => by rw [List.mem_singleton.1 hx]; exact in128_of64 hr⟩
  · rw [show ((0 : Nat) : Int) = 0 from rfl, List.drop_zero] at this
    refine this.trans ?_
    have e : ([qty r] ++ valsAt r.1 r.2.1 E).sum = qty r + sumAt r.1 r.2.1 E := by rw [List.singleton_append, List.sum_cons]; rfl
    rw [e]
  · unfold F180.l30 F180.l30b
    rw [ltB_t (by rw [List.length_map]; omega), cond_true, inb_t (by omega) (by rw [List.length_map]; omega), cond_true, Int.toNat_natCast, entW_at, small_t (by rw [List.length_map, List.length_singleton]; omega), cond_true, W_i64 (x := (j : Int) + 1) (by omega) (by omega), natCast_succ' j, cond_eqB, cond_eqB]
    by_cases h1 : (E.getD j zz3).1 = r.1
    · by_cases h2 : (E.getD j zz3).2.1 = r.2.1
      · have hc : valsAt r.1 r.2.1 (E.getD j zz3 :: E.drop (j + 1)) = qty (E.getD j zz3) :: valsAt r.1 r.2.1 (E.drop (j + 1)) := by rw [valsAt_cons, if_pos ⟨h1, h2⟩]
        rw [if_pos (show (entW (E.getD j zz3)).1 = r.1 from h1), if_pos (show (entW (E.getD j zz3)).2.1 = r.2.1 from h2), hc]
        have := hr' (ws ++ [qty (E.getD j zz3)]) ⟨by rw [List.length_append, List.length_singleton]; omega, in128_snoc hI.2 (q128_at hq j)⟩
        rw [List.map_append] at this
        refine this.trans ?_
        rw [List.append_assoc]; rfl
      · have hc : valsAt r.1 r.2.1 (E.getD j zz3 :: E.drop (j + 1)) = valsAt r.1 r.2.1 (E.drop (j + 1)) := by rw [valsAt_cons, if_neg (fun h => h2 h.2)]
        rw [if_pos (show (entW (E.getD j zz3)).1 = r.1 from h1), if_neg (show ¬ (entW (E.getD j zz3)).2.1 = r.2.1 from h2), hc]
        exact hr' ws ⟨by omega, hI.2⟩
    · have hc : valsAt r.1 r.2.1 (E.getD j zz3 :: E.drop (j + 1)) = valsAt r.1 r.2.1 (E.drop (j + 1)) := by rw [valsAt_cons, if_neg (fun h => h1 h.1)]
      rw [if_neg (show ¬ (entW (E.getD j zz3)).1 = r.1 from h1), hc]
      exact hr' ws ⟨by omega, hI.2⟩
  · unfold F180.l30 F180.l30b
    rw [ltB_f (by rw [List.length_map]; omega), cond_false, wSum_eq N hI.2 (by omega) (by omega), Option.bind_some]
    show _ = if In64 (ws ++ []).sum then K (E.map entW) (if (ws ++ []).sum = 0 then out else out ++ [(r.1, (r.2.1, ((ws ++ []).sum, ())))]) R (R.length : Int) ((i + 1 : Nat) : Int) else some (ee3, (2 : Int))
    rw [List.append_nil]
    unfold sumW
    by_cases h0 : In128 ws.sum
    · rw [if_pos h0]
      dsimp only
      rw [wInt_eq' N h0, Option.bind_some, Bool.not_true, cond_false]
      by_cases h1 : In64 ws.sum
      · rw [toI_pos h1]
        dsimp only
        rw [Bool.not_true, cond_false, cond_not, cond_eqB, small_t (by rw [List.length_singleton]; omega), cond_true, W_i64 (x := (i : Int) + 1) (by omega) (by omega), natCast_succ' i, if_pos h1]
        split <;> rfl
      · rw [toI_neg h1, if_neg h1]
        rfl
    · rw [if_neg h0, if_neg (fun h => h0 (in128_of64 h))]
      have e : F79 N zz2 = some (toI 0) := wInt_eq' N (v := 0) ⟨by decide, by decide⟩
      dsimp only
      rw [e, Option.bind_some]
      rfl

theorem postR_out (N : Nat) (hN : 2000000 ≤ N) {l E R : wtI3} (hq : Q128 E) (hl : E.length ≤ 100000) (hR : R.length ≤ 200000) (hv : ∀ r ∈ R, In64 (qty r) ∧ qty r = sumAt r.1 r.2.1 l) :
    F180.l26 N N (E.map entW) [] R (R.length : Int) 0 = outS (coll In64 (fS l E) (R.map keyOf)) := by
  have := lrec R zz3 (fun n i out => F180.l26 N n (E.map entW) out R (R.length : Int) i) (fun t out => outS ((coll In64 (fS l E) (t.map keyOf)).map (fun o => out ++ o))) (fun i (out : wtI3) => out.length ≤ i)
    (fun n i out hi hI hr => ?_) (fun n out hI => ?_) R.length N 0 [] (by omega) (by omega) (by omega) (Nat.le_refl _)
  · rw [show ((0 : Nat) : Int) = 0 from rfl, List.drop_zero] at this
    refine this.trans ?_
    simp
  · unfold F180.l26 F180.l26b
    have hm : R.getD i zz3 ∈ R := by
      rw [List.getD_eq_getElem?_getD, List.getElem?_eq_getElem hi]; exact List.getElem_mem hi
    have hv' := hv _ hm
    have h64 := hv'.1
    have h64' := h64
    unfold In64 qty at h64'
    rw [ltB_t (by omega), cond_true, inb_t (by omega) (by omega), cond_true, Int.toNat_natCast, wOf_eq N h64'.1 h64'.2, Option.bind_some]
    refine (postR_in N hN _ hq hl (by omega) _ h64 i (by omega)).trans ?_
    rw [List.map_cons, coll_cons]
    have ef : fS l E (keyOf (R.getD i zz3)).1 (keyOf (R.getD i zz3)).2 = qty (R.getD i zz3) + sumAt (R.getD i zz3).1 (R.getD i zz3).2.1 E := by
      show sumAt _ _ l + sumAt _ _ E = _
      rw [hv'.2]; rfl
    rw [ef]
    generalize hS : qty (R.getD i zz3) + sumAt (R.getD i zz3).1 (R.getD i zz3).2.1 E = v
    by_cases hF : In64 v
    · rw [if_pos hF, if_pos hF, hr _ (by
        split
        · omega
        · rw [List.length_append, List.length_singleton]; omega)]
      cases coll In64 (fS l E) ((R.drop (i + 1)).map keyOf) with
      | none => rfl
      | some o =>
        show outS (some _) = outS (some _)
        congr 2
        split
        · rfl
        · exact List.append_assoc _ _ _
    · rw [if_neg hF, if_neg hF]; rfl
  · unfold F180.l26 F180.l26b
    rw [ltB_f (by omega), cond_false, clipR_eq, Option.bind_some]
    show _ = outS (some (out ++ []))
    rw [List.append_nil]; rfl

theorem seekR (N : Nat) (C : F180.t_l16) {l : wtI3} {E S : wtEntry} {K : List Key2} (hs : Srt K) (hl : K.length ≤ 100000) (hf : ∀ k ∈ K, fewK k) (x : vtEntry) (k : Key2) (hxk : (x.1, x.2.1) = k) (hx : fewK k) (hz : zeroAt l K k) (len : Int) (i : Nat) (hi : i ≤ 1000000) :
    ∀ (m n p : Nat), K.length - p ≤ m → m < n → p ≤ K.length → (∀ y ∈ K.take p, kLt y k) →
      F180.l19 N C n E (rowsOf l K) x (p : Int) S len (i : Int) = C E (rowsOf l (K.take p ++ insK k (K.drop p))) S len ((i + 1 : Nat) : Int)
  | m, 0, p, _, hn, _, _ => by omega
  | m, n + 1, p, hm, hn, hp, hb => by
    unfold F180.l19 F180.l19b F180.j21 F180.j21b
    rw [rowsOf_len, W_i64 (x := (i : Int) + 1) (by omega) (by omega), natCast_succ' i]
    have ex : ((x.1, (x.2.1, ((0 : Int), ()))) : vtI3) = (k.1, (k.2, ((0 : Int), ()))) := by rw [← hxk]
    by_cases h : p < K.length
    · have hfk := hf (K.getD p (0, 0)) (by rw [List.getD_eq_getElem?_getD, List.getElem?_eq_getElem h]; exact List.getElem_mem h)
      have ho : F197 N x.1 x.2.1 ((rowsOf l K).getD p zz3) = some (ordI k.1 k.2 (K.getD p (0, 0)).1 (K.getD p (0, 0)).2) := by
        rw [rowsOf_at l h]
        rw [← hxk] at hx ⊢
        exact order_eq N hx.1 hx.2 hfk.1 hfk.2
      rw [ltB_t (by omega), cond_true, inb_t (by omega) (by omega), cond_true, Int.toNat_natCast, ho, Option.bind_some, eqB_f (x := (p : Int)) (by omega), cond_false, cond_true, Option.bind_some, cond_ltB, cond_not, cond_eqB, insK_at h]
      by_cases h1 : kLt (K.getD p (0, 0)) k
      · rw [if_pos (ordI_pos.2 h1), if_pos h1, W_i64 (x := (p : Int) + 1) (by omega) (by omega), natCast_succ' p, take_drop_at h]
        refine seekR N C hs hl hf x k hxk hx hz len i hi (m - 1) n (p + 1) (by omega) (by omega) (by omega) fun y hy => ?_
        rw [← List.take_append_getElem h] at hy
        rcases List.mem_append.1 hy with hy | hy
        · exact hb y hy
        · rw [List.getD_eq_getElem?_getD, List.getElem?_eq_getElem h] at h1
          rw [List.mem_singleton.1 hy]; exact h1
      · rw [if_neg (fun h => h1 (ordI_pos.1 h)), if_neg h1]
        by_cases h2 : K.getD p (0, 0) = k
        · rw [if_pos (ordI_zero.2 h2), if_pos h2, List.take_append_drop]
        · rw [if_neg (fun h => h2 (ordI_zero.1 h)), if_neg h2, insL_eq N (by rw [rowsOf_len]; omega) (by rw [rowsOf_len]; omega), Option.bind_some]
          have hz' := hz (not_mem_at hs hb (drop_gt hs h h1 h2))
          have e := rowsOf_ins l K p k
          rw [← rowK_zero hz'] at e
          refine Eq.trans ?_ (congrArg (fun R => C E R S len ((i + 1 : Nat) : Int)) e)
          exact congrArg (fun z : vtI3 => C E ((rowsOf l K).take p ++ z :: (rowsOf l K).drop p) S len ((i + 1 : Nat) : Int)) ex
    · have hd : K.drop p = [] := List.drop_eq_nil_of_le (by omega)
      rw [ltB_f (by omega), cond_false, eqB_t (by omega), cond_true, insL_eq N (by rw [rowsOf_len]; omega) (by rw [rowsOf_len]; omega), Option.bind_some]
      have hz' := hz (not_mem_at hs hb (by rw [hd]; exact fun x hx => nomatch hx))
      have e := rowsOf_ins l K p k
      rw [← rowK_zero hz'] at e
      have e2 : insK k (K.drop p) = k :: K.drop p := by rw [hd]; rfl
      rw [e2]
      refine Eq.trans ?_ (congrArg (fun R => C E R S len ((i + 1 : Nat) : Int)) e)
      exact congrArg (fun z : vtI3 => C E ((rowsOf l K).take p ++ z :: (rowsOf l K).drop p) S len ((i + 1 : Nat) : Int)) ex

theorem postR_ins (N : Nat) (hN : 2000000 ≤ N) {l E : wtI3} (hq : Q128 E) (hE : E.length ≤ 400) (hp : ∀ x ∈ E, fewK (keyOf x)) (hs : Srt (l.map keyOf)) (hl : l.length ≤ 90000) (hlq : Qty64 l) (hlp : ∀ x ∈ l, fewK (keyOf x)) :
    F180.l16 N N (E.map entW) l (E.map entW) ((E.map entW).length : Int) 0 = outS (coll In64 (fS l E) (insAll (l.map keyOf) E)) := by
  have := lrec E zz3 (fun n i K => F180.l16 N n (E.map entW) (rowsOf l K) (E.map entW) ((E.map entW).length : Int) i) (fun t K => outS (coll In64 (fS l E) (insAll K t)))
    (fun i (K : List Key2) => K.length ≤ l.length + i ∧ Srt K ∧ (∀ k ∈ K, fewK k) ∧ ∀ x ∈ l, keyOf x ∈ K)
    (fun n i K hi hI hr => ?_) (fun n K hI => ?_) E.length N 0 (l.map keyOf) (by omega) (by omega) (by omega) ⟨by rw [List.length_map]; omega, hs, fun k hk => by
      obtain ⟨x, hx, rfl⟩ := List.mem_map.1 hk
      exact hlp x hx, fun x hx => List.mem_map_of_mem hx⟩
  · rw [show ((0 : Nat) : Int) = 0 from rfl, List.drop_zero] at this
    simp only [rowsOf_self hs] at this
    exact this
  · unfold F180.l16 F180.l16b
    obtain ⟨h1, h2, h3, h4⟩ := hI
    have hm : E.getD i zz3 ∈ E := by
      rw [List.getD_eq_getElem?_getD, List.getElem?_eq_getElem hi]; exact List.getElem_mem hi
    rw [ltB_t (by rw [List.length_map]; omega), cond_true, inb_t (by omega) (by rw [List.length_map]; omega), cond_true, Int.toNat_natCast, entW_at]
    refine (seekR N _ h2 (by omega) h3 (entW (E.getD i zz3)) (keyOf (E.getD i zz3)) rfl (hp _ hm) (fun hk => sumAt_nokey fun hx => hk (by
      obtain ⟨x, hx, e⟩ := List.mem_map.1 hx
      rw [← e]; exact h4 x hx)) ((E.map entW).length : Int) i (by omega) K.length N 0 (by omega) (by omega) (by omega) (fun y hy => nomatch hy)).trans ?_
    rw [List.take_zero, List.nil_append, List.drop_zero, insAll_cons]
    refine hr (insK (keyOf (E.getD i zz3)) K) ⟨Nat.le_trans (insK_len _ K) (by omega), srt_insK h2, fun k hk => (mem_insK.1 hk).elim (fun e => e ▸ hp _ hm) (h3 k), fun x hx => mem_insK.2 (Or.inr (h4 x hx))⟩
  · unfold F180.l16 F180.l16b
    obtain ⟨h1, h2, h3, h4⟩ := hI
    rw [ltB_f (by rw [List.length_map]; omega), cond_false, rowsOf_len, okMake_t (by omega) (by omega) (by omega), cond_true]
    have := postR_out N hN (l := l) (R := rowsOf l K) hq (by omega) (by rw [rowsOf_len]; omega) (fun r hr => by
      unfold rowsOf at hr
      obtain ⟨k, hk, rfl⟩ := List.mem_map.1 hr
      refine ⟨?_, rfl⟩
      show In64 (sumAt k.1 k.2 l)
      by_cases hkl : k ∈ l.map keyOf
      · have e : rowsOf l (l.map keyOf) = l := rowsOf_self hs
        have hm : rowK l k ∈ rowsOf l (l.map keyOf) := List.mem_map_of_mem hkl
        rw [e] at hm
        exact hlq (rowK l k) hm
      · rw [sumAt_nokey hkl]; exact ⟨by decide, by decide⟩)
    rw [rowsOf_keys, rowsOf_len] at this
    exact this

theorem okRows_srt {l : wtI3} (h : okRows l = true) : Srt (l.map keyOf) ∧ (∀ x ∈ l, okKey x.1 x.2.1) := by
  unfold okRows at h
  rw [Bool.and_true] at h
  have h' := of_decide_eq_true h
  have get : ∀ (i : Nat) (hi : i < l.length), l.getD i zz3 = l[i] := fun i hi => by rw [List.getD_eq_getElem?_getD, List.getElem?_eq_getElem hi]; rfl
  have hadj : ∀ i, i + 1 < l.length → kLt (keyOf (l.getD i zz3)) (keyOf (l.getD (i + 1) zz3)) := fun i hi => (h' (i + 1) hi).2.2 (by omega)
  have hlt : ∀ j, j < l.length → ∀ i, i < j → kLt (keyOf (l.getD i zz3)) (keyOf (l.getD j zz3)) := by
    intro j
    induction j with
    | zero => intro _ i hi; omega
    | succ j ih =>
      intro hj i hi
      by_cases e : i = j
      · rw [e]; exact hadj j hj
      · exact kLt_trans (ih (by omega) i (by omega)) (hadj j hj)
  refine ⟨?_, fun x hx => ?_⟩
  · refine List.pairwise_map.2 (List.pairwise_iff_getElem.2 fun i j hi hj hij => ?_)
    have := hlt j hj i hij
    rw [get i hi, get j hj] at this
    exact this
  · obtain ⟨i, hi, e⟩ := List.getElem_of_mem hx
    have := h' i hi
    unfold okRow okRow6 at this
    rw [get i hi, e] at this
    exact this.1

/-- Entries that may be. -/
structure GoodE (E : wtI3) : Prop where
  key : ∀ x ∈ E, okKey x.1 x.2.1
  q : Q128 E
  len : E.length ≤ 400
  zero : (E.map qty).sum = 0
theorem few_key {x : vtI3} (h : okKey x.1 x.2.1) : fewK (keyOf x) := by
  have h' : okKey (keyOf x).1 (keyOf x).2 := h
  unfold okKey at h'
  unfold fewK few
  omega

theorem PostR_eq (N : Nat) (hN : 2000000 ≤ N) {l E : wtI3} (hk : okRows l = true) (hl : l.length ≤ 90000) (hlq : Qty64 l) (g : GoodE E) : F180 N l (E.map entW) = outS (coll In64 (fS l E) (insAll (l.map keyOf) E)) := by
  obtain ⟨hs, hlp⟩ := okRows_srt hk
  have hE := g.len
  unfold F180 F180.b
  rw [Rows_eq N (by omega) (by omega), hk, Option.bind_some, Bool.not_true, cond_false, ltB_f (by rw [List.length_map]; omega), cond_false, okMake_t (by omega) (by omega) (by rw [List.length_map]; omega), cond_true]
  have := lrec E zz3 (fun n i (ws : List Int) => F180.l5 N n l (E.map entW) (ws.map wideN) (E.map entW) ((E.map entW).length : Int) i)
    (fun t ws => if (ws ++ t.map qty).sum = 0 then outS (coll In64 (fS l E) (insAll (l.map keyOf) E)) else none)
    (fun j (ws : List Int) => ws.length ≤ j ∧ (ws ++ (E.drop j).map qty).sum = 0 ∧ ∀ x ∈ ws, In128 x)
    (fun n i ws hi hI hr => ?_) (fun n ws hI => ?_) E.length N 0 [] (by omega) (by omega) (by omega) ⟨Nat.le_refl _, g.zero, fun x hx => nomatch hx⟩
  · rw [show ((0 : Nat) : Int) = 0 from rfl, List.drop_zero] at this
    refine Eq.trans this ?_
    rw [List.nil_append, if_pos g.zero]
  · unfold F180.l5 F180.l5b
    have hm : E.getD i zz3 ∈ E := by
      rw [List.getD_eq_getElem?_getD, List.getElem?_eq_getElem hi]; exact List.getElem_mem hi
    have hkey : F196 N (entW (E.getD i zz3)).1 (entW (E.getD i zz3)).2.1 = some true := by
      rw [Key_eq]
      exact congrArg some (decide_eq_true (g.key _ hm))
    rw [ltB_t (by rw [List.length_map]; omega), cond_true, inb_t (by omega) (by rw [List.length_map]; omega), cond_true, Int.toNat_natCast, entW_at, hkey, Option.bind_some, Bool.not_true, cond_false, small_t (by rw [List.length_map, List.length_singleton]; omega), cond_true, W_i64 (x := (i : Int) + 1) (by omega) (by omega), natCast_succ' i]
    have h0 := hI.2.1
    rw [drop_cons hi zz3, List.map_cons] at h0
    have := hr (ws ++ [qty (E.getD i zz3)]) ⟨by rw [List.length_append, List.length_singleton]; omega, by rw [List.append_assoc]; exact h0, in128_snoc hI.2.2 (q128_at g.q i)⟩
    rw [List.map_append] at this
    refine this.trans ?_
    rw [List.append_assoc]; rfl
  · unfold F180.l5 F180.l5b
    have h0 := hI.2.1
    rw [List.drop_length, List.map_nil, List.append_nil] at h0
    rw [ltB_f (by rw [List.length_map]; omega), cond_false, wSum_eq N hI.2.2 (by omega) (by omega), Option.bind_some, h0]
    have e0 : sumW 0 = (wideN 0, true) := by unfold sumW; exact if_pos ⟨by decide, by decide⟩
    rw [e0]
    dsimp only
    rw [Bool.not_true, cond_false, wSign_eq, Option.bind_some, show sgn 0 = 0 from rfl, eqB_t rfl, Bool.not_true, cond_false, clL_eq N (by omega), Option.bind_some]
    rw [List.map_nil, List.append_nil, if_pos h0]
    exact postR_ins N hN g.q hE (fun x hx => few_key (g.key x hx)) hs hl hlq (fun x hx => few_key (hlp x hx))
end VM
end

section
/- Plain laws: novationref10.Laid; book.Moved and novationref15.With. -/
set_option linter.unusedSimpArgs false
namespace VM
open Go VM.F
set_option linter.unusedVariables false

def partB (r : vtI3) : vtPart := (r.1, (r.2.1, (bigN (qty r), ())))
theorem partB_at {E : wtI3} {i : Nat} (h : i < E.length) : (E.map partB).getD i ((0 : Int), ((0 : Int), ((false, zzB), ()))) = partB (E.getD i zz3) := by
  rw [List.getD_eq_getElem?_getD, List.getElem?_map, List.getElem?_eq_getElem h, List.getD_eq_getElem?_getD, List.getElem?_eq_getElem h]; rfl
theorem fit128 {v : Int} {n : Nat} (hn : n ≤ 1000000) (h0 : -(170141183460469231731687303715884105728 * (n : Int)) ≤ v) (h1 : v ≤ 170141183460469231731687303715884105728 * (n : Int)) : Fit v 900000 := by
  have h5 : Fit v 5 := by
    unfold Fit
    rw [show (4294967296 : Nat) ^ 5 = 1461501637330902918203684832716283019655932542976 from rfl]
    omega
  exact h5.mono (by omega)
theorem fit128' {v : Int} (h : In128 v) : Fit v 900000 := fit128 (n := 1) (by omega) (by have := h.1; omega) (by have := h.2; omega)

theorem behind_eq (N : Nat) (hN : 4000000 ≤ N) {E : wtI3} (hq : Q128 E) (hl : E.length ≤ 100000) (q a b : Int) (hF : In64 q) : F237 N q a b (E.map partB) = some (toI (q + sumAt a b E)) := by
  unfold F237 F237.b
  have := lrec E zz3 (fun n j ws => F237.l3 N n q a b (E.map partB) (bigN ws.sum) (!ws.isEmpty) j)
    (fun t ws => some (toI (q + (ws ++ valsAt a b t).sum)))
    (fun j (ws : List Int) => ws.length ≤ j ∧ ∀ x ∈ ws, In128 x)
    (fun n j ws hj hI hr' => ?_) (fun n ws hI => ?_) E.length N 0 [] (by omega) (by omega) (by omega) ⟨Nat.le_refl _, fun x hx => nomatch hx⟩
  · rw [show ((0 : Nat) : Int) = 0 from rfl, List.drop_zero, List.sum_nil, bigN_zero] at this
    exact this
  · unfold F237.l3 F237.l3b
    have h128 := q128_at hq j
    have hb := sum128 hI.2
    have hpl : F85 N (bigN ws.sum) (partB (E.getD j zz3)).2.2.1 = some (bigN (ws.sum + qty (E.getD j zz3))) := Plus_eq N (by omega) (fit128 (n := ws.length) (by omega) hb.1 hb.2) (fit128' h128)
    rw [ltB_t (by rw [List.length_map]; omega), cond_true, inb_t (by omega) (by rw [List.length_map]; omega), cond_true, cond_true, cond_true, Int.toNat_natCast, partB_at hj, hpl, Option.bind_some, W_i64 (x := (j : Int) + 1) (by omega) (by omega), natCast_succ' j, cond_eqB, cond_eqB]
    by_cases h1 : (E.getD j zz3).1 = a
    · by_cases h2 : (E.getD j zz3).2.1 = b
      · have hc : valsAt a b (E.getD j zz3 :: E.drop (j + 1)) = qty (E.getD j zz3) :: valsAt a b (E.drop (j + 1)) := by rw [valsAt_cons, if_pos ⟨h1, h2⟩]
        rw [if_pos (show (partB (E.getD j zz3)).1 = a from h1), if_pos (show (partB (E.getD j zz3)).2.1 = b from h2), hc]
        have := hr' (ws ++ [qty (E.getD j zz3)]) ⟨by rw [List.length_append, List.length_singleton]; omega, in128_snoc hI.2 h128⟩
        rw [List.sum_append, List.sum_cons, List.sum_nil, Int.add_zero, List.append_assoc] at this
        refine Eq.trans ?_ this
        rw [show (!(ws ++ [qty (E.getD j zz3)]).isEmpty) = true by cases ws <;> rfl]
      · have hc : valsAt a b (E.getD j zz3 :: E.drop (j + 1)) = valsAt a b (E.drop (j + 1)) := by rw [valsAt_cons, if_neg (fun h => h2 h.2)]
        rw [if_pos (show (partB (E.getD j zz3)).1 = a from h1), if_neg (show ¬ (partB (E.getD j zz3)).2.1 = b from h2), hc]
        exact hr' ws ⟨by omega, hI.2⟩
    · have hc : valsAt a b (E.getD j zz3 :: E.drop (j + 1)) = valsAt a b (E.drop (j + 1)) := by rw [valsAt_cons, if_neg (fun h => h1 h.1)]
      rw [if_neg (show ¬ (partB (E.getD j zz3)).1 = a from h1), hc]
      exact hr' ws ⟨by omega, hI.2⟩
  · unfold F237.l3 F237.l3b
    have hs := sum128 hI.2
    have hF' := hF
    unfold In64 at hF'
    rw [ltB_f (by rw [List.length_map]; omega), cond_false, Whole_eq N (by omega) hF'.1 hF'.2, Option.bind_some, Plus_eq N (by omega) (fit128 (n := ws.length) (by omega) hs.1 hs.2) ((Fit.i64 hF'.1 hF'.2).mono (by omega)), Option.bind_some, Int_eq, Option.bind_some, cond_not]
    show _ = some (toI (q + (ws ++ []).sum))
    rw [List.append_nil, Int.add_comm ws.sum q]
    cases ws with
    | nil =>
      show some (q, true) = some (toI (q + 0))
      rw [Int.add_zero, toI_pos hF]
    | cons w ws => rfl

theorem in64_at {l : wtI3} (hs : Srt (l.map keyOf)) (hl : Qty64 l) (k : Key2) : In64 (sumAt k.1 k.2 l) := by
  by_cases hk : k ∈ l.map keyOf
  · have hm : rowK l k ∈ rowsOf l (l.map keyOf) := List.mem_map_of_mem hk
    rw [rowsOf_self hs] at hm
    exact hl (rowK l k) hm
  · rw [sumAt_nokey hk]; exact ⟨by decide, by decide⟩

theorem laid_row (N : Nat) (hN : 4000000 ≤ N) (C : F202.t_l4) {l E : wtI3} (hq : Q128 E) (hl : E.length ≤ 100000) (hs : Srt (l.map keyOf)) (hll : l.length ≤ 100000) (hf : Qty64 l) (hw : ∀ x ∈ l, 0 ≤ (keyOf x).2 ∧ (keyOf x).2 < (25 : Nat)) (a : Nat) (ha : a ≤ 24) (G : List Key2)
    (hc : ∀ (p : Nat) (out : wtI3), Mark l (a + 1) 0 p → out.length ≤ 25 * (a + 1) → C l (E.map partB) out (p : Int) ((a + 1 : Nat) : Int) = outB out (coll In64 (fS l E) G)) :
    ∀ (m n b p : Nat) (out : wtI3), b + m = 25 → m < n → Mark l a b p → out.length ≤ 25 * a + b → F202.l7 N C n l (E.map partB) out (p : Int) (a : Int) (b : Int) = outB out (coll In64 (fS l E) (rowG a b m ++ G))
  | m, 0, b, p, out, _, hn, _, _ => by omega
  | 0, n + 1, b, p, out, hb, _, hM, ho => by
    have e : b = 25 := by omega
    subst e
    unfold F202.l7 F202.l7b
    rw [leB_f (by omega), cond_false, W_i64 (x := (a : Int) + 1) (by omega) (by omega), natCast_succ' a]
    exact hc p out (hM.row hw) (by omega)
  | m + 1, n + 1, b, p, out, hb, hn, hM, ho => by
    have hp := hM.le
    have rec' : ∀ (p : Nat) (v : Int), Mark l a (b + 1) p → F202.l7 N C n l (E.map partB) (if v = 0 then out else out ++ [((a : Int), ((b : Int), (v, ())))]) (p : Int) (a : Int) ((b + 1 : Nat) : Int) = outB (if v = 0 then out else out ++ [((a : Int), ((b : Int), (v, ())))]) (coll In64 (fS l E) (rowG a (b + 1) m ++ G)) := fun p v h =>
      laid_row N hN C hq hl hs hll hf hw a ha G hc m n (b + 1) p _ (by omega) (by omega) h (by
        split
        · omega
        · rw [List.length_append, List.length_singleton]; omega)
    have hq0 := in64_at hs hf ((a : Int), (b : Int))
    unfold F202.l7 F202.l7b
    show _ = outB out (coll In64 (fS l E) (((a : Int), (b : Int)) :: (rowG a (b + 1) m ++ G)))
    rw [leB_t (x := (b : Int)) (by omega), cond_true, cond_ltB, cond_eqB, cond_eqB, Int.toNat_natCast]
    have fin : ∀ (p : Nat) (q : Int), q = sumAt (a : Int) (b : Int) l → Mark l a (b + 1) p → F202.j13 N C (F202.l7 N C n) l (E.map partB) out (p : Int) (a : Int) (b : Int) q = outB out (coll In64 (fS l E) (((a : Int), (b : Int)) :: (rowG a (b + 1) m ++ G))) := fun p q e h => by
      subst e
      unfold F202.j13 F202.j13b
      rw [behind_eq N hN hq hl _ _ _ hq0, Option.bind_some]
      refine Eq.trans ?_ (outB_next (k := ((a : Int), (b : Int))) (v := sumAt (a : Int) (b : Int) l + sumAt (a : Int) (b : Int) E) rfl)
      generalize sumAt (a : Int) (b : Int) l + sumAt (a : Int) (b : Int) E = v
      have hr := rec' p v h
      by_cases hv : In64 v
      · rw [toI_pos hv, if_pos hv]
        dsimp only
        rw [Bool.not_true, cond_false, cond_not, cond_eqB, small_t (by rw [List.length_singleton]; omega), cond_true, W_i64 (x := (b : Int) + 1) (by omega) (by omega), natCast_succ' b, ← hr]
        split <;> rfl
      · rw [toI_neg hv, if_neg hv]; rfl
    rcases hM.step hs with ⟨h1, h2, h3, h4, h5⟩ | ⟨h1, h2, h3⟩
    · rw [if_pos (show (p : Int) < (l.length : Int) by omega), inb_t (by omega) (by omega), cond_true, cond_true, if_pos h2, if_pos h3, W_i64 (x := (p : Int) + 1) (by omega) (by omega), natCast_succ' p, cond_true]
      exact fin (p + 1) _ h4.symm h5
    · by_cases g1 : p < l.length
      · rw [if_pos (show (p : Int) < (l.length : Int) by omega), inb_t (by omega) (by omega), cond_true, cond_true]
        by_cases g2 : (l.getD p zz3).1 = (a : Int)
        · rw [if_pos g2, if_neg (fun g3 => h1 g1 g2 g3)]
          exact fin p _ h2.symm h3
        · rw [if_neg g2]
          exact fin p _ h2.symm h3
      · rw [if_neg (show ¬ (p : Int) < (l.length : Int) by omega)]
        exact fin p _ h2.symm h3

theorem laid_all (N : Nat) (hN : 4000000 ≤ N) {l E : wtI3} (hq : Q128 E) (hl : E.length ≤ 100000) (hs : Srt (l.map keyOf)) (hll : l.length ≤ 100000) (hf : Qty64 l) (hw : ∀ x ∈ l, 0 ≤ (keyOf x).2 ∧ (keyOf x).2 < (25 : Nat)) :
    ∀ (m n a p : Nat) (out : wtI3), a + m = 8 → m < n → Mark l a 0 p → out.length ≤ 25 * a → F202.l4 N n l (E.map partB) out (p : Int) (a : Int) = outB out (coll In64 (fS l E) (gridG 25 a m))
  | m, 0, a, p, out, _, hn, _, _ => by omega
  | 0, n + 1, a, p, out, ha, _, hM, ho => by
    unfold F202.l4 F202.l4b
    rw [leB_f (by omega), cond_false]
    show some (out, true) = some (out ++ [], true)
    rw [List.append_nil]
  | m + 1, n + 1, a, p, out, ha, hn, hM, ho => by
    unfold F202.l4 F202.l4b
    rw [leB_t (by omega), cond_true]
    exact laid_row N hN _ hq hl hs hll hf hw a (by omega) (gridG 25 (a + 1) m) (fun p out h ho => laid_all N hN hq hl hs hll hf hw m n (a + 1) p out (by omega) (by omega) h ho) 25 N 0 p out (by omega) (by omega) hM (by omega)

def rowsG : List Key2 := gridG 25 1 7
theorem Laid_eq (N : Nat) (hN : 4000000 ≤ N) {l E : wtI3} (hk : okRows l = true) (hl : l.length ≤ 90000) (hlq : Qty64 l) (hq : Q128 E) (hE : E.length ≤ 100000) : F202 N l (E.map partB) = outB [] (coll In64 (fS l E) rowsG) := by
  obtain ⟨hs, hlp⟩ := okRows_srt hk
  unfold F202 F202.b
  refine laid_all N hN hq hE hs (by omega) hlq (fun x hx => ?_) 7 N 1 0 [] (by omega) (by omega) ⟨by omega, fun x hx => (nomatch hx), fun x hx hlt => ?_⟩ (by simp)
  · have h : okKey (keyOf x).1 (keyOf x).2 := hlp x hx
    unfold okKey at h; omega
  · have h : okKey (keyOf x).1 (keyOf x).2 := hlp x (List.mem_of_mem_drop hx)
    unfold okKey at h
    have hlt' : (keyOf x).1 < ((1 : Nat) : Int) ∨ ((keyOf x).1 = ((1 : Nat) : Int) ∧ (keyOf x).2 < ((0 : Nat) : Int)) := hlt
    omega
theorem rows_one {l E : wtI3} (hk : okRows l = true) (hp : ∀ x ∈ E, okKey x.1 x.2.1) : coll In64 (fS l E) (insAll (l.map keyOf) E) = coll In64 (fS l E) rowsG := by
  obtain ⟨hs, hlp⟩ := okRows_srt hk
  refine coll_sub ⟨by decide, by decide⟩ (srt_insAll hs) (srt_gridG 25 7 1) (fun k hk => ?_) (fun k hk hn => ?_)
  · have : okKey k.1 k.2 := by
      rcases mem_insAll.1 hk with h | ⟨x, hx, rfl⟩
      · obtain ⟨x, hx, rfl⟩ := List.mem_map.1 h
        exact hlp x hx
      · exact hp x hx
    unfold okKey at this
    exact mem_gridG.2 (by omega)
  · have h1 : k ∉ l.map keyOf := fun h => hn (mem_insAll.2 (Or.inl h))
    have h2 : k ∉ E.map keyOf := fun h => by
      obtain ⟨x, hx, e⟩ := List.mem_map.1 h
      exact hn (mem_insAll.2 (Or.inr ⟨x, hx, e⟩))
    unfold fS
    rw [sumAt_nokey h1, sumAt_nokey h2]; rfl

/-- A book, moved. -/
def movedOf (b : vtBook) (s e : wtI3) : vtBook × Int :=
  match coll Fq (fS b.2.2.2.1 s) stockG with
  | none => ((ee2, (ee4, (ee3, (ee3, (eeI, (ee6, ())))))), 2)
  | some s' => match coll In64 (fS b.2.2.1 e) rowsG with
    | none => ((ee2, (ee4, (ee3, (ee3, (eeI, (ee6, ())))))), 2)
    | some r' => ((b.1, (b.2.1, (r', (s', b.2.2.2.2)))), 0)
theorem BCopy_eq (N : Nat) {b : vtBook} (w : BookWf b) : F105 N b = some b := by
  unfold F105
  have h1 := w.m; have h2 := w.a; have h3 := w.r; have h4 := w.s; have h5 := w.p; have h6 := w.o
  rw [clL_eq N (by omega), Option.bind_some, clL_eq N (by omega), Option.bind_some, clL_eq N (by omega), Option.bind_some, clL_eq N (by omega), Option.bind_some, clL_eq N (by omega), Option.bind_some, clL_eq N (by omega), Option.bind_some]
end VM
end

section
/- Plain laws: books moved; bids right for the reference; the best bid. -/
set_option linter.unusedSimpArgs false
namespace VM
open Go VM.F
set_option linter.unusedVariables false

theorem Moved_eq (N : Nat) (hN : 2000000 ≤ N) {b : vtBook} {s e : wtI3} (w : BookWf b) (hr : okRows b.2.2.1 = true) (hs : okStock b.2.2.2.1 = true) (lr : b.2.2.1.length ≤ 90000) (ls : b.2.2.2.1.length ≤ 90000) (gs : GoodS s) (ge : GoodE e) :
    F99 N b s (e.map entW) = some (movedOf b s e) := by
  unfold F99 movedOf
  rw [BCopy_eq N w, Option.bind_some, Post_eq N hN hs ls w.qs gs, PostR_eq N hN hr lr w.qr ge, stock_one hs gs.place, rows_one hr ge.key]
  unfold outS
  rw [Option.bind_some, Option.bind_some]
  have e1 : eqB 2 0 = false := eqB_f (by omega)
  have e2 : eqB 0 0 = true := eqB_t rfl
  cases coll Fq (fS b.2.2.2.1 s) stockG with
  | none => dsimp only; rw [e1]; rfl
  | some s' =>
    cases coll In64 (fS b.2.2.1 e) rowsG with
    | none => dsimp only; rw [e1, e2]; rfl
    | some r' => dsimp only; rw [e2]; rfl
theorem With_eq (N : Nat) (hN : 4000000 ≤ N) {b : vtBook} {s e : wtI3} (w : BookWf b) (hr : okRows b.2.2.1 = true) (hs : okStock b.2.2.2.1 = true) (lr : b.2.2.1.length ≤ 90000) (ls : b.2.2.2.1.length ≤ 90000) (gs : GoodS s) (ge : GoodE e) :
    F122 N b s (e.map partB) = some (movedOf b s e) := by
  have h1 := gs.len
  have h2 := ge.len
  unfold F122 movedOf
  rw [Shifted_eq N hN hs ls w.qs (fun x hx => (gs.q x hx).1) (by omega), Laid_eq N hN hr lr w.qr ge.q (by omega)]
  unfold outB
  rw [Option.bind_some, Option.bind_some]
  cases coll Fq (fS b.2.2.2.1 s) stockG with
  | none => rfl
  | some s' =>
    cases coll In64 (fS b.2.2.1 e) rowsG with
    | none => rfl
    | some r' => rfl

end VM
end

section
/- Plain laws: lots that may be, copies of lots. -/
set_option linter.unusedSimpArgs false
namespace VM
open Go VM.F
set_option linter.unusedVariables false
end VM
end

section
/- Plain laws: what an award comes to. -/
set_option linter.unusedSimpArgs false
namespace VM
open Go VM.F
set_option linter.unusedVariables false
abbrev AwS := wtI3 × wtI3 × wtLot
def legIn (a : Int) : Prop := 0 ≤ a ∧ a < 6
structure LegsGood (t : wtI2) : Prop where
  len : t.length ≤ 6
  inst : ∀ y ∈ t, legIn y.1
  q : ∀ y ∈ t, In64 y.2.1 ∧ okQ y.2.1
structure AwInv (z : AwS) (i : Nat) : Prop where
  place : ∀ x ∈ z.1, okPlace x.1 x.2.1
  q : ∀ x ∈ z.1, In64 (qty x) ∧ okQ (qty x)
  len : z.1.length ≤ 12 * i
  flat : ∀ a : Int, (qtysIn a z.1).sum = 0
  key : ∀ x ∈ z.2.1, okKey x.1 x.2.1
  qe : ∀ x ∈ z.2.1, In64 (qty x)
  lene : z.2.1.length ≤ 2 * i
  zero : (z.2.1.map qty).sum = 0
  out : z.2.2.length = i
theorem AwInv.nil : AwInv ([], [], []) 0 := ⟨fun x hx => (nomatch hx), fun x hx => (nomatch hx), Nat.le_refl _, fun a => rfl, fun x hx => (nomatch hx), fun x hx => (nomatch hx), Nat.le_refl _, rfl, rfl⟩
end VM
end

section
/- Plain laws: Award, of the program and of the reference. -/
set_option linter.unusedSimpArgs false
namespace VM
open Go VM.F
set_option linter.unusedVariables false
theorem okBook_parts {c : vtConfig} {b : vtBook} (h : okBook c b = true) : okRows b.2.2.1 = true ∧ okStock b.2.2.2.1 = true := by
  unfold okBook at h
  have h1 := (Bool.and_eq_true_iff.1 (Bool.and_eq_true_iff.1 h).2).2
  have h2 := Bool.and_eq_true_iff.1 h1
  have h3 := (Bool.and_eq_true_iff.1 (Bool.and_eq_true_iff.1 h2.2).2).1
  refine ⟨h2.1, ?_⟩
  unfold okFlat at h3
  exact (Bool.and_eq_true_iff.1 h3).2

/-- Sizes of a book that is to be moved. -/
structure BookWf2 (b : vtBook) : Prop where
  w : BookWf b
  r : b.2.2.1.length ≤ 90000
  s : b.2.2.2.1.length ≤ 90000

end VM
end

section
/- Plain laws: Award of the reference. -/
set_option linter.unusedSimpArgs false
namespace VM
open Go VM.F
set_option linter.unusedVariables false
end VM
end

section
/- Plain laws: AwardAll. -/
set_option linter.unusedSimpArgs false
namespace VM
open Go VM.F
set_option linter.unusedVariables false

theorem eqB_self (x : Int) : eqB x x = true := eqB_t rfl
theorem teq_i2 (x : vtI2) : teq (.pair (.int .i64) (.pair (.int .i64) .unit)) x x = true := by
  show (eqB x.1 x.1 && (eqB x.2.1 x.2.1 && true)) = true
  rw [eqB_self, eqB_self]; rfl
theorem teq_i3 (x : vtI3) : teq (.pair (.int .i64) (.pair (.int .i64) (.pair (.int .i64) .unit))) x x = true := by
  show (eqB x.1 x.1 && teq (.pair (.int .i64) (.pair (.int .i64) .unit)) x.2 x.2) = true
  rw [eqB_self, teq_i2]; rfl
theorem teq_i4 (x : vtI4) : teq (.pair (.int .i64) (.pair (.int .i64) (.pair (.int .i64) (.pair (.int .i64) .unit)))) x x = true := by
  show (eqB x.1 x.1 && teq (.pair (.int .i64) (.pair (.int .i64) (.pair (.int .i64) .unit))) x.2 x.2) = true
  rw [eqB_self, teq_i3]; rfl
theorem teq_i6 (x : vtI6) : teq (.pair (.int .i64) (.pair (.int .i64) (.pair (.int .i64) (.pair (.int .i64) (.pair (.int .i64) (.pair (.int .i64) .unit)))))) x x = true := by
  show (eqB x.1 x.1 && (eqB x.2.1 x.2.1 && teq (.pair (.int .i64) (.pair (.int .i64) (.pair (.int .i64) (.pair (.int .i64) .unit)))) x.2.2 x.2.2)) = true
  rw [eqB_self, eqB_self, teq_i4]; rfl

theorem same_loop {F : Nat → Int → Option Bool} {len : Nat} (hs : ∀ n (i : Nat), i < len → F n ((i + 1 : Nat) : Int) = some true → F (n + 1) (i : Int) = some true) (he : ∀ n, F (n + 1) (len : Int) = some true) : ∀ (m n i : Nat), len - i ≤ m → m < n → i ≤ len → F n (i : Int) = some true
  | m, 0, i, _, hn, _ => by omega
  | m, n + 1, i, hm, hn, hi => by
    by_cases h : i < len
    · exact hs n i h (same_loop hs he (m - 1) n (i + 1) (by omega) (by omega) (by omega))
    · have : i = len := by omega
      subst this; exact he n
theorem hMembers_eq (N : Nat) {l : wtI2} (hl : l.length ≤ 100000) (hN : 200000 ≤ N) : F42 N l l = some true := by
  unfold F42 F42.b
  rw [eqB_self, Bool.not_true, cond_false]
  refine same_loop (F := fun n i => F42.l4 N n l l i) (len := l.length) (fun n i hi hr => ?_) (fun n => ?_) l.length N 0 (by omega) (by omega) (by omega)
  · unfold F42.l4 F42.l4b
    rw [ltB_t (by omega), cond_true, inb_t (by omega) (by omega), cond_true, cond_true, teq_i2, Bool.not_true, cond_false, W_i64 (x := (i : Int) + 1) (by omega) (by omega), natCast_succ' i]
    exact hr
  · unfold F42.l4 F42.l4b
    rw [ltB_f (by omega), cond_false]
theorem hAccs_eq (N : Nat) {l : wtI4} (hl : l.length ≤ 100000) (hN : 200000 ≤ N) : F43 N l l = some true := by
  unfold F43 F43.b
  rw [eqB_self, Bool.not_true, cond_false]
  refine same_loop (F := fun n i => F43.l4 N n l l i) (len := l.length) (fun n i hi hr => ?_) (fun n => ?_) l.length N 0 (by omega) (by omega) (by omega)
  · unfold F43.l4 F43.l4b
    rw [ltB_t (by omega), cond_true, inb_t (by omega) (by omega), cond_true, cond_true, teq_i4, Bool.not_true, cond_false, W_i64 (x := (i : Int) + 1) (by omega) (by omega), natCast_succ' i]
    exact hr
  · unfold F43.l4 F43.l4b
    rw [ltB_f (by omega), cond_false]
theorem hRows_eq (N : Nat) {l : wtI3} (hl : l.length ≤ 100000) (hN : 200000 ≤ N) : F35 N l l = some true := by
  unfold F35 F35.b
  rw [eqB_self, Bool.not_true, cond_false]
  refine same_loop (F := fun n i => F35.l4 N n l l i) (len := l.length) (fun n i hi hr => ?_) (fun n => ?_) l.length N 0 (by omega) (by omega) (by omega)
  · unfold F35.l4 F35.l4b
    rw [ltB_t (by omega), cond_true, inb_t (by omega) (by omega), cond_true, cond_true, teq_i3, Bool.not_true, cond_false, W_i64 (x := (i : Int) + 1) (by omega) (by omega), natCast_succ' i]
    exact hr
  · unfold F35.l4 F35.l4b
    rw [ltB_f (by omega), cond_false]
theorem hStock_eq (N : Nat) {l : wtI3} (hl : l.length ≤ 100000) (hN : 200000 ≤ N) : F44 N l l = some true := by
  unfold F44 F44.b
  rw [eqB_self, Bool.not_true, cond_false]
  refine same_loop (F := fun n i => F44.l4 N n l l i) (len := l.length) (fun n i hi hr => ?_) (fun n => ?_) l.length N 0 (by omega) (by omega) (by omega)
  · unfold F44.l4 F44.l4b
    rw [ltB_t (by omega), cond_true, inb_t (by omega) (by omega), cond_true, cond_true, teq_i3, Bool.not_true, cond_false, W_i64 (x := (i : Int) + 1) (by omega) (by omega), natCast_succ' i]
    exact hr
  · unfold F44.l4 F44.l4b
    rw [ltB_f (by omega), cond_false]
theorem hOrders_eq (N : Nat) {l : wtI6} (hl : l.length ≤ 100000) (hN : 200000 ≤ N) : F45 N l l = some true := by
  unfold F45 F45.b
  rw [eqB_self, Bool.not_true, cond_false]
  refine same_loop (F := fun n i => F45.l4 N n l l i) (len := l.length) (fun n i hi hr => ?_) (fun n => ?_) l.length N 0 (by omega) (by omega) (by omega)
  · unfold F45.l4 F45.l4b
    rw [ltB_t (by omega), cond_true, inb_t (by omega) (by omega), cond_true, cond_true, teq_i6, Bool.not_true, cond_false, W_i64 (x := (i : Int) + 1) (by omega) (by omega), natCast_succ' i]
    exact hr
  · unfold F45.l4 F45.l4b
    rw [ltB_f (by omega), cond_false]
theorem hInts_eq (N : Nat) {l : List (Int)} (hl : l.length ≤ 100000) (hN : 200000 ≤ N) : F36 N l l = some true := by
  unfold F36 F36.b
  rw [eqB_self, Bool.not_true, cond_false]
  refine same_loop (F := fun n i => F36.l4 N n l l i) (len := l.length) (fun n i hi hr => ?_) (fun n => ?_) l.length N 0 (by omega) (by omega) (by omega)
  · unfold F36.l4 F36.l4b
    rw [ltB_t (by omega), cond_true, inb_t (by omega) (by omega), cond_true, cond_true, eqB_self, Bool.not_true, cond_false, W_i64 (x := (i : Int) + 1) (by omega) (by omega), natCast_succ' i]
    exact hr
  · unfold F36.l4 F36.l4b
    rw [ltB_f (by omega), cond_false]
theorem hBook_eq (N : Nat) (hN : 200000 ≤ N) {b : vtBook} (h1 : b.1.length ≤ 100000) (h2 : b.2.1.length ≤ 100000) (h3 : b.2.2.1.length ≤ 100000) (h4 : b.2.2.2.1.length ≤ 100000) (h5 : b.2.2.2.2.1.length ≤ 100000) (h6 : b.2.2.2.2.2.1.length ≤ 100000) : F13 N b b = some true := by
  unfold F13
  rw [hMembers_eq N h1 hN, Option.bind_some, cond_true, hAccs_eq N h2 hN, Option.bind_some, cond_true, hRows_eq N h3 hN, Option.bind_some, cond_true, hStock_eq N h4 hN, Option.bind_some, cond_true, hInts_eq N h5 hN, Option.bind_some, cond_true, hOrders_eq N h6 hN, Option.bind_some]
theorem coll_len {P : Int → Prop} [DecidablePred P] {f : Int → Int → Int} : ∀ {K : List Key2} {o : wtI3}, coll P f K = some o → o.length ≤ K.length
  | [], o, h => by
    have : some [] = some o := h
    rw [← Option.some.inj this]; exact Nat.le_refl _
  | k :: t, o, h => by
    rw [coll_cons] at h
    by_cases hP : P (f k.1 k.2)
    · rw [if_pos hP] at h
      cases hc : coll P f t with
      | none => rw [hc] at h; exact absurd h (by simp)
      | some r =>
        have ih := coll_len hc
        rw [hc] at h
        have h' := Option.some.inj h
        rw [← h', List.length_cons]
        dsimp only
        split
        · omega
        · rw [List.length_cons]; omega
    · rw [if_neg hP] at h; exact absurd h (by simp)
theorem stockG_len : stockG.length = 150 := by decide +kernel
theorem rowsG_len : rowsG.length = 175 := by decide +kernel
/-- A book whose parts are not too long. -/
structure Short (b : vtBook) : Prop where
  m : b.1.length ≤ 100000
  a : b.2.1.length ≤ 100000
  r : b.2.2.1.length ≤ 100000
  s : b.2.2.2.1.length ≤ 100000
  p : b.2.2.2.2.1.length ≤ 100000
  o : b.2.2.2.2.2.1.length ≤ 100000
theorem short_nil : Short (([] : wtI2), (([] : wtI4), (([] : wtI3), (([] : wtI3), (([] : List Int), (([] : wtI6), ())))))) := ⟨Nat.zero_le _, Nat.zero_le _, Nat.zero_le _, Nat.zero_le _, Nat.zero_le _, Nat.zero_le _⟩
theorem moved_short {b : vtBook} (w : BookWf b) (s e : wtI3) : Short (movedOf b s e).1 := by
  unfold movedOf
  cases h1 : coll Fq (fS b.2.2.2.1 s) stockG with
  | none => exact short_nil
  | some s' =>
    cases h2 : coll In64 (fS b.2.2.1 e) rowsG with
    | none => exact short_nil
    | some r' =>
      have g1 := coll_len h1
      have g2 := coll_len h2
      rw [stockG_len] at g1
      rw [rowsG_len] at g2
      exact ⟨w.m, w.a, by show r'.length ≤ _; omega, by show s'.length ≤ _; omega, w.p, w.o⟩
end VM
end

section
/- Plain laws: AwardAll, whole. -/
set_option linter.unusedSimpArgs false
namespace VM
open Go VM.F Go.RowKit
set_option linter.unusedVariables false

def firstAt (a b : Int) : wtI3 → Int
  | [] => 0
  | x :: t => if x.1 = a then (if x.2.1 = b then x.2.2.1 else firstAt a b t) else firstAt a b t
theorem firstAt_cons (a b : Int) (x : vtI3) (t : wtI3) : firstAt a b (x :: t) = if x.1 = a then (if x.2.1 = b then x.2.2.1 else firstAt a b t) else firstAt a b t := rfl
def heldOf (l : wtI3) (a b : Int) : Int := if okStock l then firstAt a b l else 0
def getOf (l : wtI3) (a b : Int) : Int := if okRows l then firstAt a b l else 0
theorem Held_eq (N : Nat) {l : wtI3} (hl : l.length ≤ 100000) (hN : 200000 ≤ N) (a b : Int) : F37 N l a b = some (heldOf l a b) := by
  unfold F37 F37.b heldOf
  rw [rStock_eq N hl hN, Option.bind_some, cond_not]
  have := lrec0 l zz3 (fun n i => F37.l4 N n l a b i) (fun t => some (firstAt a b t)) (fun n i hi hr => ?_) (fun n => ?_) N (by omega)
  · rw [this]; cases okStock l <;> rfl
  · unfold F37.l4 F37.l4b
    rw [ltB_t (by omega), cond_true, inb_t (by omega) (by omega), cond_true, cond_true, cond_true, Int.toNat_natCast, W_i64 (x := (i : Int) + 1) (by omega) (by omega), natCast_succ' i, hr, cond_eqB, cond_eqB, firstAt_cons]
    split
    · split <;> rfl
    · rfl
  · unfold F37.l4 F37.l4b
    rw [ltB_f (by omega), cond_false]; rfl
theorem Get_eq (N : Nat) {l : wtI3} (hl : l.length ≤ 100000) (hN : 200000 ≤ N) (a b : Int) : F38 N l a b = some (getOf l a b) := by
  unfold F38 F38.b getOf
  rw [rRows_eq N hl hN, Option.bind_some, cond_not]
  have := lrec0 l zz3 (fun n i => F38.l4 N n l a b i) (fun t => some (firstAt a b t)) (fun n i hi hr => ?_) (fun n => ?_) N (by omega)
  · rw [this]; cases okRows l <;> rfl
  · unfold F38.l4 F38.l4b
    rw [ltB_t (by omega), cond_true, inb_t (by omega) (by omega), cond_true, cond_true, cond_true, Int.toNat_natCast, W_i64 (x := (i : Int) + 1) (by omega) (by omega), natCast_succ' i, hr, cond_eqB, cond_eqB, firstAt_cons]
    split
    · split <;> rfl
    · rfl
  · unfold F38.l4 F38.l4b
    rw [ltB_f (by omega), cond_false]; rfl

theorem mem_q64 {l : wtI3} (h : ∀ i, i < l.length → In64 (qty (l.getD i zz3))) : Qty64 l := fun x hx => by
  obtain ⟨i, hi, e⟩ := List.getElem_of_mem hx
  have := h i hi
  rw [List.getD_eq_getElem?_getD, List.getElem?_eq_getElem hi] at this
  rw [← e]; exact this
theorem in64_of {x : Int} (h : (Lit.int .i64 x).wf = true) : In64 x := by
  have := wf_i64.1 h
  unfold In64; omega
theorem qty_wf {l : wtI3} (h : WF (.slice tI3) l) : Qty64 l := fun x hx => by
  obtain ⟨i, hi, rfl⟩ := List.getElem_of_mem hx
  have h3 := h.2 i hi
  exact in64_of h3.2.2.1
namespace Pure
end Pure
end VM
end

section
/- Plain laws: an account's positions, what it costs to close them out. -/
set_option linter.unusedSimpArgs false
namespace VM
open Go VM.F
set_option linter.unusedVariables false
theorem GetP_eq (N : Nat) {l : wtI3} (hl : l.length ≤ 100000) (hN : 200000 ≤ N) (a b : Int) : F141 N l a b = some (getOf l a b) := by
  unfold F141 F141.b getOf
  rw [Rows_eq N hl hN, Option.bind_some, cond_not]
  have := lrec0 l zz3 (fun n i => F141.l4 N n a b l (l.length : Int) i) (fun t => some (firstAt a b t)) (fun n i hi hr => ?_) (fun n => ?_) N (by omega)
  · rw [this]; cases okRows l <;> rfl
  · unfold F141.l4 F141.l4b
    rw [ltB_t (by omega), cond_true, inb_t (by omega) (by omega), cond_true, Int.toNat_natCast, W_i64 (x := (i : Int) + 1) (by omega) (by omega), natCast_succ' i, hr, cond_eqB, cond_eqB, firstAt_cons]
    split
    · split <;> rfl
    · rfl
  · unfold F141.l4 F141.l4b
    rw [ltB_f (by omega), cond_false]; rfl
theorem firstAt_in {l : wtI3} (h : Qty64 l) (a b : Int) : In64 (firstAt a b l) := by
  induction l with
  | nil => show In64 0; decide
  | cons x t ih =>
    have ih := ih (fun y hy => h y (List.mem_cons_of_mem _ hy))
    rw [firstAt_cons]
    split
    · split
      · exact h x (List.mem_cons_self ..)
      · exact ih
    · exact ih
theorem getOf_in {l : wtI3} (h : Qty64 l) (a b : Int) : In64 (getOf l a b) := by
  unfold getOf
  split
  · exact firstAt_in h a b
  · exact ⟨by decide, by decide⟩

def legsOf (a : Int) : wtI3 → wtI2
  | [] => []
  | x :: t => if x.1 = a then (x.2.1, (x.2.2.1, ())) :: legsOf a t else legsOf a t
theorem legsOf_cons (a : Int) (x : vtI3) (t : wtI3) : legsOf a (x :: t) = if x.1 = a then (x.2.1, (x.2.2.1, ())) :: legsOf a t else legsOf a t := rfl
def posOf (l : wtI3) (a : Int) : wtI2 := if okStock l then legsOf a l else []
theorem legsOf_len (a : Int) : ∀ l : wtI3, (legsOf a l).length ≤ l.length
  | [] => Nat.le_refl _
  | x :: t => by
    have := legsOf_len a t
    rw [legsOf_cons, List.length_cons]
    split
    · rw [List.length_cons]; omega
    · omega
theorem posOf_len (a : Int) (l : wtI3) : (posOf l a).length ≤ l.length := by
  unfold posOf
  split
  · exact legsOf_len a l
  · exact Nat.zero_le _
theorem mem_legsOf {a : Int} {y : vtI2} : ∀ {l : wtI3}, y ∈ legsOf a l → ∃ x ∈ l, x.1 = a ∧ y = (x.2.1, (x.2.2.1, ()))
  | [], h => nomatch h
  | x :: t, h => by
    rw [legsOf_cons] at h
    by_cases e : x.1 = a
    · rw [if_pos e] at h
      rcases List.mem_cons.1 h with h | h
      · exact ⟨x, List.mem_cons_self .., e, h⟩
      · obtain ⟨x', hx, h'⟩ := mem_legsOf h
        exact ⟨x', List.mem_cons_of_mem _ hx, h'⟩
    · rw [if_neg e] at h
      obtain ⟨x', hx, h'⟩ := mem_legsOf h
      exact ⟨x', List.mem_cons_of_mem _ hx, h'⟩
theorem posOf_in {l : wtI3} (h : Qty64 l) (a : Int) : ∀ y ∈ posOf l a, In64 y.2.1 := fun y hy => by
  unfold posOf at hy
  split at hy
  · obtain ⟨x, hx, _, rfl⟩ := mem_legsOf hy
    exact h x hx
  · nomatch hy
theorem Of_eq (N : Nat) {l : wtI3} (hl : l.length ≤ 100000) (hN : 200000 ≤ N) (a : Int) : F73 N l a = some (posOf l a) := by
  unfold F73 F73.b posOf
  rw [Stock_eq N hl hN, Option.bind_some, cond_not]
  have := lrec l zz3 (fun n i s => F73.l5 N n a s l (l.length : Int) i) (fun t s => some (s ++ legsOf a t)) (fun i (s : wtI2) => s.length ≤ i) (fun n i s hi hI hr => ?_) (fun n s hI => ?_) l.length N 0 [] (by omega) (by omega) (by omega) (Nat.le_refl _)
  · have e : F73.l5 N N a [] l (l.length : Int) 0 = some (legsOf a l) := this
    rw [e]; cases okStock l <;> rfl
  · unfold F73.l5 F73.l5b
    rw [ltB_t (by omega), cond_true, inb_t (by omega) (by omega), cond_true, Int.toNat_natCast, W_i64 (x := (i : Int) + 1) (by omega) (by omega), natCast_succ' i, cond_eqB, small_t (by rw [List.length_singleton]; omega), cond_true, legsOf_cons]
    split
    · rw [hr _ (by rw [List.length_append, List.length_singleton]; omega), List.append_assoc]; rfl
    · exact hr s (by omega)
  · unfold F73.l5 F73.l5b
    rw [ltB_f (by omega), cond_false]
    show some s = some (s ++ [])
    rw [List.append_nil]
theorem rOf_eq (N : Nat) {l : wtI3} (hl : l.length ≤ 100000) (hN : 200000 ≤ N) (a : Int) : F84 N l a = some (posOf l a) := by
  unfold F84 F84.b posOf
  rw [rStock_eq N hl hN, Option.bind_some, cond_not]
  have := lrec l zz3 (fun n i s => F84.l5 N n l a s i) (fun t s => some (s ++ legsOf a t)) (fun i (s : wtI2) => s.length ≤ i) (fun n i s hi hI hr => ?_) (fun n s hI => ?_) l.length N 0 [] (by omega) (by omega) (by omega) (Nat.le_refl _)
  · have e : F84.l5 N N l a [] 0 = some (legsOf a l) := this
    rw [e]; cases okStock l <;> rfl
  · unfold F84.l5 F84.l5b
    rw [ltB_t (by omega), cond_true, inb_t (by omega) (by omega), cond_true, cond_true, cond_true, Int.toNat_natCast, W_i64 (x := (i : Int) + 1) (by omega) (by omega), natCast_succ' i, cond_eqB, small_t (by rw [List.length_singleton]; omega), cond_true, legsOf_cons]
    split
    · rw [hr _ (by rw [List.length_append, List.length_singleton]; omega), List.append_assoc]; rfl
    · exact hr s (by omega)
  · unfold F84.l5 F84.l5b
    rw [ltB_f (by omega), cond_false]
    show some s = some (s ++ [])
    rw [List.append_nil]

def placeIn (a n : Int) : Prop := 0 ≤ a ∧ a < n
end VM
end

section
/- Plain laws: what a client bears; positions that go to the clearing house. -/
set_option linter.unusedSimpArgs false
namespace VM
open Go VM.F
set_option linter.unusedVariables false
theorem pw_len {hi : Int} : ∀ {l : List Int} {lo : Int}, l.Pairwise (· < ·) → (∀ x ∈ l, lo ≤ x ∧ x < hi) → lo ≤ hi → (l.length : Int) ≤ hi - lo
  | [], lo, _, _, h => by rw [List.length_nil]; omega
  | x :: t, lo, hp, hm, h => by
    obtain ⟨h1, h2⟩ := List.pairwise_cons.1 hp
    have hx := hm x (List.mem_cons_self ..)
    have ih := pw_len (lo := x + 1) h2 (fun y hy => ⟨h1 y hy, (hm y (List.mem_cons_of_mem _ hy)).2⟩) (by omega)
    rw [List.length_cons]; omega
theorem legs_sorted {a : Int} : ∀ {l : wtI3}, Srt (l.map keyOf) → ((legsOf a l).map (fun y => (y.1 : Int))).Pairwise (· < ·)
  | [], _ => List.Pairwise.nil
  | x :: t, h => by
    obtain ⟨h1, h2⟩ := List.pairwise_cons.1 h
    have ih := legs_sorted (a := a) h2
    rw [legsOf_cons]
    by_cases e : x.1 = a
    · rw [if_pos e, List.map_cons]
      refine List.pairwise_cons.2 ⟨fun z hz => ?_, ih⟩
      obtain ⟨y, hy, rfl⟩ := List.mem_map.1 hz
      obtain ⟨x', hx, e', rfl⟩ := mem_legsOf hy
      have hk := h1 (keyOf x') (List.mem_map_of_mem hx)
      have g : ∀ p q r s : Int, p = a → r = a → keyLt p q r s → q < s := fun p q r s h1 h2 h => by unfold keyLt at h; omega
      exact g _ _ _ _ e e' hk
    · rw [if_neg e]; exact ih
theorem pos_good {l : wtI3} (hk : okStock l = true) (hq : Qty64 l) (a : Int) : LegsGood (posOf l a) := by
  obtain ⟨hs, hp⟩ := okStock_srt hk
  have e : posOf l a = legsOf a l := by unfold posOf; rw [hk]; rfl
  rw [e]
  have hin : ∀ y ∈ legsOf a l, legIn y.1 := fun y hy => by
    obtain ⟨x, hx, _, rfl⟩ := mem_legsOf hy
    have g : ∀ p q : Int, okPlace p q → legIn q := fun p q h => by unfold okPlace at h; unfold legIn; omega
    exact g _ _ (hp x hx).1
  refine ⟨?_, hin, fun y hy => ?_⟩
  · have := pw_len (lo := 0) (hi := 6) (legs_sorted (a := a) hs) (fun z hz => by
      obtain ⟨y, hy, rfl⟩ := List.mem_map.1 hz
      exact hin y hy) (by omega)
    rw [List.length_map] at this; omega
  · obtain ⟨x, hx, _, rfl⟩ := mem_legsOf hy
    exact ⟨hq x hx, (hp x hx).2⟩

end VM
end

section
/- Plain laws: trades. -/
set_option linter.unusedSimpArgs false
namespace VM
open Go VM.F
set_option linter.unusedVariables false

def priceIn (p : Int) : Prop := 1 ≤ p ∧ p ≤ 1000000000000
instance (p : Int) : Decidable (priceIn p) := by unfold priceIn; infer_instance
theorem rPriceT_eq (N : Nat) (p : Int) : F123 N p = some (decide (priceIn p)) := (rprice_eq N p).trans (congrArg some (decide_eq_decide.2 Iff.rfl))
def okTrade5 (a b c d e : Int) : Prop := (0 ≤ a ∧ a ≤ 24) ∧ (0 ≤ b ∧ b ≤ 24) ∧ a ≠ b ∧ (0 ≤ c ∧ c < 6) ∧ (1 ≤ d ∧ d ≤ 1000000000) ∧ priceIn e
instance (a b c d e : Int) : Decidable (okTrade5 a b c d e) := by unfold okTrade5; infer_instance
def okTrade (t : vtI5) : Prop := okTrade5 t.1 t.2.1 t.2.2.1 t.2.2.2.1 t.2.2.2.2.1
instance : DecidablePred okTrade := fun t => by unfold okTrade; infer_instance
theorem trade_chain (a b c d e : Int) : cond (leB 0 a) (cond (leB a 24) (cond (leB 0 b) (cond (leB b 24) (cond (!eqB a b) (cond (leB 0 c) (cond (ltB c 6) (cond (leB 1 d) (cond (leB d 1000000000) (some (decide (priceIn e))) (some false)) (some false)) (some false)) (some false)) (some false)) (some false)) (some false)) (some false)) (some false) = some (decide (okTrade5 a b c d e)) := by
  simp only [cond_leB, cond_not, cond_eqB, cond_ltB]
  by_cases hP : okTrade5 a b c d e
  · have hp := hP.2.2.2.2.2
    rw [decide_eq_true hP, decide_eq_true hp]
    unfold okTrade5 at hP
    repeat' split
    all_goals first | rfl | omega
  · rw [decide_eq_false hP]
    by_cases hp : priceIn e
    · unfold okTrade5 at hP
      repeat' split
      all_goals first | rfl | (exact absurd ⟨by omega, by omega, by omega, by omega, by omega, hp⟩ hP)
    · rw [decide_eq_false hp]
      repeat' split
      all_goals rfl
theorem rTrade_eq (N : Nat) (t : vtI5) : F119 N t = some (decide (okTrade t)) := by
  unfold F119
  rw [rPriceT_eq, Option.bind_some]
  exact trade_chain _ _ _ _ _
def rowE (a x : Int) : vtI3 := if a = 0 then ((2 : Int), ((0 : Int), (x, ()))) else ((5 : Int), (a, (x, ())))
def tradeC (t : vtI5) (p : Int) : wtI3 := if p - t.2.2.2.2.1 = 0 then [] else [rowE t.1 ((p - t.2.2.2.2.1) * t.2.2.2.1), rowE t.2.1 (-((p - t.2.2.2.2.1) * t.2.2.2.1))]
def priceAt (b : vtBook) (t : vtI5) : Int := b.2.2.2.2.1.getD t.2.2.1.toNat 0
def tradeS : wtI5 → wtI3
  | [] => []
  | t :: r => (t.1, (t.2.2.1, (t.2.2.2.1, ()))) :: (t.2.1, (t.2.2.1, ((0 - t.2.2.2.1 : Int), ()))) :: tradeS r
def tradeE (b : vtBook) : wtI5 → wtI3
  | [] => []
  | t :: r => tradeC t (priceAt b t) ++ tradeE b r
theorem tradeS_cons (t : vtI5) (r : wtI5) : tradeS (t :: r) = (t.1, (t.2.2.1, (t.2.2.2.1, ()))) :: (t.2.1, (t.2.2.1, ((0 - t.2.2.2.1 : Int), ()))) :: tradeS r := rfl
theorem tradeE_cons (b : vtBook) (t : vtI5) (r : wtI5) : tradeE b (t :: r) = tradeC t (priceAt b t) ++ tradeE b r := rfl
theorem rowE_part (a x : Int) (N : Nat) : F200 N a = some ((rowE a x).1, (rowE a x).2.1) := by
  unfold F200 rowE
  rw [cond_eqB]
  by_cases h : a = 0
  · rw [if_pos h, if_pos h]
  · rw [if_neg h, if_neg h]
theorem rowE_qty (a x : Int) : qty (rowE a x) = x := by unfold rowE; split <;> rfl
theorem trade_num {d q : Int} (h1 : -1000000000000 ≤ d ∧ d ≤ 1000000000000) (h2 : 1 ≤ q ∧ q ≤ 1000000000) : -1000000000000000000000 ≤ d * q ∧ d * q ≤ 1000000000000000000000 ∧ (d * q = 0 ↔ d = 0) := by
  refine ⟨?_, ?_, ?_⟩
  · have := Int.mul_le_mul_of_nonneg_right h1.1 (show 0 ≤ q by omega)
    have h3 : -1000000000000 * 1000000000 ≤ -1000000000000 * q := by omega
    omega
  · have := Int.mul_le_mul_of_nonneg_right h1.2 (show 0 ≤ q by omega)
    have h3 : 1000000000000 * q ≤ 1000000000000 * 1000000000 := by omega
    omega
  · rw [Int.mul_eq_zero]; omega
theorem TradeParts_eq (N : Nat) (hN : 4000000 ≤ N) {t : vtI5} {p : Int} (ht : okTrade t) (hp : priceIn p) : F121 N t p = some ((tradeC t p).map partB, 0) := by
  unfold F121 tradeC
  have hq := ht.2.2.2.2.1
  have he := ht.2.2.2.2.2
  rw [rTrade_eq, Option.bind_some, decide_eq_true ht, Bool.not_true, cond_false, rPriceT_eq, Option.bind_some, decide_eq_true hp, Bool.not_true, cond_false]
  unfold priceIn at hp he
  generalize t.2.2.2.2.1 = e at *
  generalize t.2.2.2.1 = q at *
  have hd : -1000000000000 ≤ p - e ∧ p - e ≤ 1000000000000 := by omega
  have hn := trade_num hd hq
  have h128 : In128 ((p - e) * q) := by unfold In128; omega
  rw [W_i64 (x := p - e) (by omega) (by omega), Whole_eq N (by omega) (by omega) (by omega), Option.bind_some, Whole_eq N (by omega) (by omega) (by omega), Option.bind_some, Times_eq N hN ((Fit.i64 (by omega) (by omega)).mono (by omega)) ((Fit.i64 (by omega) (by omega)).mono (by omega)), Option.bind_some, Sign_eq, Option.bind_some, cond_eqB]
  by_cases h : p - e = 0
  · rw [if_pos h, if_pos (by rw [hn.2.2.2 h]; rfl)]; rfl
  · rw [if_neg h, if_neg (fun k => h (hn.2.2.1 (sgn_zero.1 k))), rowE_part t.1 ((p - e) * q), Option.bind_some, rowE_part t.2.1 (-((p - e) * q)), Option.bind_some, Turned_eq N hN (fit128' h128), Option.bind_some, List.map_cons, List.map_cons, List.map_nil]
    unfold partB
    rw [rowE_qty, rowE_qty]

def thereT (c : vtConfig) (b : vtBook) (t : vtI5) : Bool :=
  ((findOf b.2.1 t.1).2 || decide (eqI t.1 0)) && (((findOf b.2.1 t.2.1).2 || decide (eqI t.2.1 0)) && decide (ltI t.2.2.1 c.1.length))
def tradesOf (c : vtConfig) (b : vtBook) (l : wtI5) : vtBook × Int :=
  if okBook c b then (if l.length ≤ 200 then (if l.all (fun t => decide (okTrade t)) then (if l.all (thereT c b) then movedOf b (tradeS l) (tradeE b l) else ((ee2, (ee4, (ee3, (ee3, (eeI, (ee6, ())))))), 3)) else ((ee2, (ee4, (ee3, (ee3, (eeI, (ee6, ())))))), 1)) else ((ee2, (ee4, (ee3, (ee3, (eeI, (ee6, ())))))), 1)) else ((ee2, (ee4, (ee3, (ee3, (eeI, (ee6, ())))))), 1)
theorem okBook_prices {c : vtConfig} {b : vtBook} (h : okBook c b = true) : b.2.2.2.2.1.length = c.1.length ∧ okPrices b.2.2.2.2.1 = true := by
  unfold okBook at h
  simp only [Bool.and_eq_true] at h
  have h1 := of_decide_eq_true h.2.2.2.2.2.2.1
  unfold eqI at h1
  exact ⟨by omega, h.2.2.2.2.2.2.2.2.2.2⟩
theorem tradeS_len : ∀ l : wtI5, (tradeS l).length = 2 * l.length
  | [] => rfl
  | t :: r => by rw [tradeS_cons, List.length_cons, List.length_cons, List.length_cons, tradeS_len r]; omega
theorem tradeC_len (t : vtI5) (p : Int) : (tradeC t p).length ≤ 2 := by
  unfold tradeC
  split
  · exact Nat.zero_le _
  · exact Nat.le_refl 2
theorem tradeE_len (b : vtBook) : ∀ l : wtI5, (tradeE b l).length ≤ 2 * l.length
  | [] => Nat.le_refl _
  | t :: r => by
    have := tradeC_len t (priceAt b t)
    have := tradeE_len b r
    rw [tradeE_cons, List.length_append, List.length_cons]; omega
end VM
end

section
/- Plain laws: trades, what they move. -/
set_option linter.unusedSimpArgs false
namespace VM
open Go VM.F
set_option linter.unusedVariables false

theorem price_ok {l : List Int} (h : okPrices l = true) {i : Nat} (hi : i < l.length) : priceIn (l.getD i 0) := of_decide_eq_true h i hi
theorem qtysIn_two (i : Int) (a b : vtI3) (l : wtI3) (h : a.2.1 = b.2.1) (hs : qty a + qty b = 0) : (qtysIn i (a :: b :: l)).sum = (qtysIn i l).sum := by
  rw [qtysIn_cons, qtysIn_cons]
  by_cases e : a.2.1 = i
  · rw [if_pos e, if_pos (h.symm.trans e), List.sum_cons, List.sum_cons]; omega
  · rw [if_neg e, if_neg (fun k => e (h.trans k))]
theorem tradeS_good : ∀ {l : wtI5}, (∀ t ∈ l, okTrade t) → (∀ x ∈ tradeS l, okPlace x.1 x.2.1 ∧ In64 (qty x) ∧ okQ (qty x)) ∧ ∀ i : Int, (qtysIn i (tradeS l)).sum = 0
  | [], _ => ⟨fun x hx => (nomatch hx), fun i => rfl⟩
  | t :: r, h => by
    obtain ⟨h1, h2⟩ := tradeS_good (l := r) (fun y hy => h y (List.mem_cons_of_mem _ hy))
    have ht := h t (List.mem_cons_self ..)
    unfold okTrade okTrade5 at ht
    have g : ∀ a b c d : Int, (0 ≤ a ∧ a ≤ 24) → (0 ≤ b ∧ b ≤ 24) → (0 ≤ c ∧ c < 6) → (1 ≤ d ∧ d ≤ 1000000000) → (okPlace a c ∧ In64 d ∧ okQ d) ∧ (okPlace b c ∧ In64 (0 - d) ∧ okQ (0 - d)) := fun a b c d _ _ _ _ => by unfold okPlace In64 okQ; omega
    have hg := g _ _ _ _ ht.1 ht.2.1 ht.2.2.2.1 ht.2.2.2.2.1
    refine ⟨fun x hx => ?_, fun i => ?_⟩
    · rw [tradeS_cons] at hx
      rcases List.mem_cons.1 hx with e | hx
      · rw [e]; exact hg.1
      · rcases List.mem_cons.1 hx with e | hx
        · rw [e]; exact hg.2
        · exact h1 x hx
    · rw [tradeS_cons]
      have hz : ∀ d : Int, d + (0 - d) = 0 := fun d => by omega
      exact (qtysIn_two i (t.1, (t.2.2.1, (t.2.2.2.1, ()))) (t.2.1, (t.2.2.1, ((0 - t.2.2.2.1 : Int), ()))) (tradeS r) rfl (hz t.2.2.2.1)).trans (h2 i)
theorem trade_num' {t : vtI5} {p : Int} (ht : okTrade t) (hp : priceIn p) : In128 ((p - t.2.2.2.2.1) * t.2.2.2.1) ∧ In128 (-((p - t.2.2.2.2.1) * t.2.2.2.1)) := by
  have hq := ht.2.2.2.2.1
  have he := ht.2.2.2.2.2
  unfold priceIn at hp he
  generalize t.2.2.2.2.1 = e at *
  generalize t.2.2.2.1 = q at *
  have hn := trade_num (d := p - e) (by omega) hq
  unfold In128
  omega
theorem rowE_key {a x : Int} (h : 0 ≤ a ∧ a ≤ 24) : okKey (rowE a x).1 (rowE a x).2.1 := by
  unfold rowE
  by_cases e : a = 0
  · rw [if_pos e]; show okKey 2 0; decide
  · rw [if_neg e]; show okKey 5 a; unfold okKey; omega
theorem tradeC_good {t : vtI5} {p : Int} (ht : okTrade t) (hp : priceIn p) : (∀ x ∈ tradeC t p, okKey x.1 x.2.1 ∧ In128 (qty x)) ∧ ((tradeC t p).map qty).sum = 0 := by
  have hn := trade_num' ht hp
  unfold tradeC
  split
  · exact ⟨fun x hx => (nomatch hx), rfl⟩
  · refine ⟨fun x hx => ?_, ?_⟩
    · rcases List.mem_cons.1 hx with e | hx
      · rw [e, rowE_qty]; exact ⟨rowE_key ht.1, hn.1⟩
      · rw [List.mem_singleton.1 hx, rowE_qty]; exact ⟨rowE_key ht.2.1, hn.2⟩
    · rw [List.map_cons, List.map_cons, List.map_nil, List.sum_cons, List.sum_cons, List.sum_nil, rowE_qty, rowE_qty]; omega
theorem tradeE_good {b : vtBook} : ∀ {l : wtI5}, (∀ t ∈ l, okTrade t ∧ priceIn (priceAt b t)) → (∀ x ∈ tradeE b l, okKey x.1 x.2.1 ∧ In128 (qty x)) ∧ ((tradeE b l).map qty).sum = 0
  | [], _ => ⟨fun x hx => (nomatch hx), rfl⟩
  | t :: r, h => by
    obtain ⟨h1, h2⟩ := tradeE_good (b := b) (l := r) (fun y hy => h y (List.mem_cons_of_mem _ hy))
    have ht := h t (List.mem_cons_self ..)
    have hc := tradeC_good ht.1 ht.2
    rw [tradeE_cons]
    refine ⟨fun x hx => (List.mem_append.1 hx).elim (hc.1 x) (h1 x), ?_⟩
    rw [List.map_append, List.sum_append, hc.2, h2]; rfl

theorem trades_gs {l : wtI5} (h : ∀ t ∈ l, okTrade t) (hl : l.length ≤ 200) : GoodS (tradeS l) := by
  obtain ⟨h1, h2⟩ := tradeS_good h
  exact ⟨fun x hx => (h1 x hx).1, fun x hx => (h1 x hx).2, by rw [tradeS_len]; omega, h2⟩
theorem trades_ge {b : vtBook} {l : wtI5} (h : ∀ t ∈ l, okTrade t ∧ priceIn (priceAt b t)) (hl : l.length ≤ 200) : GoodE (tradeE b l) := by
  obtain ⟨h1, h2⟩ := tradeE_good h
  have := tradeE_len b l
  exact ⟨fun x hx => (h1 x hx).1, fun x hx => (h1 x hx).2, by omega, h2⟩

theorem rTrades_loop (N : Nat) (hN : 4000000 ≤ N) (c : vtConfig) {b : vtBook} (w : BookWf2 b) (hB : okBook c b = true) {l : wtI5} (hk : ∀ t ∈ l, okTrade t) (hl : l.length ≤ 200) :
    F46.l11 N N l c b (ee2, (ee4, (ee3, (ee3, (eeI, (ee6, ())))))) [] [] 0 = some (if l.all (thereT c b) then movedOf b (tradeS l) (tradeE b l) else ((ee2, (ee4, (ee3, (ee3, (eeI, (ee6, ())))))), 3)) := by
  obtain ⟨hr, hs⟩ := okBook_parts hB
  obtain ⟨hpl, hpr⟩ := okBook_prices hB
  have gs := trades_gs hk hl
  have := lrec l zz5 (fun n i (z : wtI3 × wtI3) => F46.l11 N n l c b (ee2, (ee4, (ee3, (ee3, (eeI, (ee6, ())))))) z.1 (z.2.map partB) i)
    (fun u z => some (if u.all (thereT c b) then movedOf b (tradeS l) (tradeE b l) else ((ee2, (ee4, (ee3, (ee3, (eeI, (ee6, ())))))), 3)))
    (fun i z => z.1 ++ tradeS (l.drop i) = tradeS l ∧ z.2 ++ tradeE b (l.drop i) = tradeE b l ∧ ∀ j, j < i → thereT c b (l.getD j zz5) = true)
    (fun n i z hi hI hrec => ?_) (fun n z hI => ?_) l.length N 0 ([], []) (by omega) (by omega) (by omega) ⟨rfl, rfl, fun j hj => absurd hj (by omega)⟩
  · exact this
  · unfold F46.l11 F46.l11b
    obtain ⟨i1, i2, i3⟩ := hI
    have hls := tradeS_len l
    have hle := tradeE_len b l
    have z1 : z.1.length ≤ 400 := by rw [← i1, List.length_append] at hls; omega
    have z2 : z.2.length ≤ 400 := by rw [← i2, List.length_append] at hle; omega
    have hm : l.getD i zz5 ∈ l := by
      rw [List.getD_eq_getElem?_getD, List.getElem?_eq_getElem hi]; exact List.getElem_mem hi
    have ht := hk _ hm
    rw [drop_cons hi zz5, tradeS_cons] at i1
    rw [drop_cons hi zz5, tradeE_cons] at i2
    rw [ltB_t (by omega), cond_true, inb_t (by omega) (by omega), cond_true, Int.toNat_natCast, W_i64 (x := (i : Int) + 1) (by omega) (by omega), natCast_succ' i, List.all_cons]
    have i4 : thereT c b (l.getD i zz5) = true → ∀ j, j < i + 1 → thereT c b (l.getD j zz5) = true := fun h j hj => by
      by_cases e : j = i
      · rw [e]; exact h
      · exact i3 j (by omega)
    generalize l.getD i zz5 = t at *
    have hq := ht.2.2.2.2.1
    have hin := ht.2.2.2.1
    rw [there_eq N b w.w.a (by omega), Option.bind_some, there_eq N b w.w.a (by omega), Option.bind_some, cond_not, cond_not, cond_leB]
    have e0 : W .i64 (0 - t.2.2.2.1) = 0 - t.2.2.2.1 := by
      have g : ∀ d : Int, 1 ≤ d ∧ d ≤ 1000000000 → W .i64 (0 - d) = 0 - d := fun d _ => W_i64 (by omega) (by omega)
      exact g _ hq
    rw [e0]
    dsimp only
    by_cases h1 : ((findOf b.2.1 t.1).2 || decide (eqI t.1 0)) = false
    · have : thereT c b t = false := by unfold thereT; rw [h1]; rfl
      rw [h1, this]; rfl
    · rw [Bool.not_eq_false] at h1
      rw [h1, cond_true]
      by_cases h2 : ((findOf b.2.1 t.2.1).2 || decide (eqI t.2.1 0)) = false
      · have : thereT c b t = false := by unfold thereT; rw [h1, h2]; rfl
        rw [h2, this]; rfl
      · rw [Bool.not_eq_false] at h2
        rw [h2, cond_true]
        by_cases h3 : (c.1.length : Int) ≤ t.2.2.1
        · have : thereT c b t = false := by
            unfold thereT
            rw [h1, h2, decide_eq_false (show ¬ ltI t.2.2.1 c.1.length from fun h => by unfold ltI at h; exact absurd h (Int.not_lt.2 h3))]; rfl
          rw [if_pos h3, this]; rfl
        · have hlt : t.2.2.1 < (c.1.length : Int) := Int.not_le.1 h3
          have hth : thereT c b t = true := by
            unfold thereT
            rw [h1, h2, decide_eq_true (show ltI t.2.2.1 c.1.length from hlt)]; rfl
          have hnat : t.2.2.1.toNat < b.2.2.2.2.1.length := by
            have g : ∀ x : Int, (0 ≤ x ∧ x < 6) → x < (c.1.length : Int) → x.toNat < b.2.2.2.2.1.length := fun x _ _ => by omega
            exact g _ hin hlt
          have hinb : inb t.2.2.1 b.2.2.2.2.1.length = true := by
            have g : ∀ x : Int, (0 ≤ x ∧ x < 6) → x < (c.1.length : Int) → inb x b.2.2.2.2.1.length = true := fun x _ _ => inb_t (by omega) (by omega)
            exact g _ hin hlt
          have hp : priceIn (priceAt b t) := price_ok hpr hnat
          have htp : F121 N t (b.2.2.2.2.1.getD t.2.2.1.toNat 0) = some ((tradeC t (priceAt b t)).map partB, 0) := TradeParts_eq N hN ht hp
          have hcl := tradeC_len t (priceAt b t)
          rw [if_neg h3, small_t (by rw [List.length_cons, List.length_singleton]; omega), cond_true, hinb, cond_true, htp, Option.bind_some, small_t (by rw [List.length_map, List.length_map]; omega), cond_true, hth, Bool.true_and]
          have := hrec (z.1 ++ [(t.1, (t.2.2.1, (t.2.2.2.1, ()))), (t.2.1, (t.2.2.1, ((0 - t.2.2.2.1 : Int), ())))], z.2 ++ tradeC t (priceAt b t)) ⟨by rw [← i1, List.append_assoc]; rfl, by rw [← i2, List.append_assoc], i4 hth⟩
          rw [List.map_append] at this
          exact this
  · unfold F46.l11 F46.l11b
    obtain ⟨i1, i2, i3⟩ := hI
    rw [List.drop_length] at i1 i2
    have e1 : z.1 = tradeS l := by rw [← i1]; exact (List.append_nil _).symm
    have e2 : z.2 = tradeE b l := by rw [← i2]; exact (List.append_nil _).symm
    have hall : ∀ t ∈ l, okTrade t ∧ priceIn (priceAt b t) := fun t ht => by
      obtain ⟨i, hi, e⟩ := List.getElem_of_mem ht
      have h := i3 i hi
      rw [List.getD_eq_getElem?_getD, List.getElem?_eq_getElem hi] at h
      simp only [Option.getD_some, e] at h
      unfold thereT at h
      have hlt := of_decide_eq_true (Bool.and_eq_true_iff.1 (Bool.and_eq_true_iff.1 h).2).2
      have hin := (hk t ht).2.2.2.1
      have hnat : t.2.2.1.toNat < b.2.2.2.2.1.length := by
        have g : ∀ x : Int, (0 ≤ x ∧ x < 6) → ltI x c.1.length → x.toNat < b.2.2.2.2.1.length := fun x _ h => by unfold ltI at h; omega
        exact g _ hin hlt
      exact ⟨hk t ht, price_ok hpr hnat⟩
    rw [ltB_f (by omega), cond_false, e1, e2, With_eq N hN w.w hr hs w.r w.s gs (trades_ge hall hl), Option.bind_some]
    rfl
theorem rTrades_eq (N : Nat) (hN : 5000000 ≤ N) (c : vtConfig) {b : vtBook} (w : BookWf2 b) {l : wtI5} (hl : l.length ≤ 100000) : F46 N c b l = some (tradesOf c b l) := by
  unfold F46 F46.b tradesOf
  rw [rBook_eq N hN w.w, Option.bind_some, cond_not, cond_ltB]
  by_cases hB : okBook c b = false
  · rw [hB]; rfl
  rw [Bool.not_eq_false] at hB
  rw [hB, cond_true, if_pos rfl]
  by_cases h200 : l.length ≤ 200
  · rw [if_neg (by omega), if_pos h200]
    have key : ∀ (m n i : Nat), l.length - i ≤ m → m < n → i ≤ l.length → (∀ j, j < i → okTrade (l.getD j zz5)) → F46.l4 N n l c b (ee2, (ee4, (ee3, (ee3, (eeI, (ee6, ())))))) (i : Int) = some (if l.all (fun t => decide (okTrade t)) then (if l.all (thereT c b) then movedOf b (tradeS l) (tradeE b l) else ((ee2, (ee4, (ee3, (ee3, (eeI, (ee6, ())))))), 3)) else ((ee2, (ee4, (ee3, (ee3, (eeI, (ee6, ())))))), 1)) := by
      intro m n
      induction n generalizing m with
      | zero => intro i _ hn; omega
      | succ n ih =>
        intro i hm hn hi hj
        unfold F46.l4 F46.l4b
        by_cases h : i < l.length
        · rw [ltB_t (by omega), cond_true, inb_t (by omega) (by omega), cond_true, Int.toNat_natCast, rTrade_eq, Option.bind_some, cond_not, cond_dec, W_i64 (x := (i : Int) + 1) (by omega) (by omega), natCast_succ' i]
          by_cases hk : okTrade (l.getD i zz5)
          · rw [if_pos hk]
            exact ih (m - 1) (i + 1) (by omega) (by omega) (by omega) fun j hj' => by
              by_cases e : j = i
              · rw [e]; exact hk
              · exact hj j (by omega)
          · rw [if_neg hk]
            have hf : l.all (fun t => decide (okTrade t)) = false := by
              rw [List.all_eq_false]
              refine ⟨l.getD i zz5, ?_, by rw [decide_eq_false hk]; decide⟩
              rw [List.getD_eq_getElem?_getD, List.getElem?_eq_getElem h]; exact List.getElem_mem h
            rw [hf]; rfl
        · have hk : ∀ t ∈ l, okTrade t := fun t ht => by
            obtain ⟨k, hk, e⟩ := List.getElem_of_mem ht
            have := hj k (by omega)
            rw [List.getD_eq_getElem?_getD, List.getElem?_eq_getElem hk] at this
            rw [← e]; exact this
          have ha : l.all (fun t => decide (okTrade t)) = true := List.all_eq_true.2 fun t ht => decide_eq_true (hk t ht)
          rw [ltB_f (by omega), cond_false, ha, if_pos rfl]
          exact rTrades_loop N (by omega) c w hB hk h200
    exact key l.length N 0 (by omega) (by omega) (by omega) (fun j hj => absurd hj (by omega))
  · rw [if_pos (by omega), if_neg h200]
end VM
end

section
/- Plain laws: what 0 is exposed to (the reference). -/
set_option linter.unusedSimpArgs false
namespace VM
open Go VM.F
set_option linter.unusedVariables false

theorem okBook_flat' {c : vtConfig} {b : vtBook} (h : okBook c b = true) : okPlan c = true := by
  unfold okBook at h
  exact (Bool.and_eq_true_iff.1 h).1
/-- The instruments of a bucket. -/
def bucketL (k : Int) : Nat → wtI4 → List Int
  | _, [] => []
  | i, x :: t => if x.1 = k then (i : Int) :: bucketL k (i + 1) t else bucketL k (i + 1) t
theorem bucketL_cons (k : Int) (i : Nat) (x : vtI4) (t : wtI4) : bucketL k i (x :: t) = if x.1 = k then (i : Int) :: bucketL k (i + 1) t else bucketL k (i + 1) t := rfl
def bucketOf (c : vtConfig) (k : Int) : List Int := if okPlan c then bucketL k 0 c.1 else []
theorem rBucket_eq (N : Nat) (hN : 200000 ≤ N) (c : vtConfig) (hl : c.1.length ≤ 100000) (k : Int) : F157 N c k = some (bucketOf c k) := by
  unfold F157 F157.b bucketOf
  rw [rPlan_eq N (by omega), Option.bind_some, cond_not]
  have := lrec c.1 zz4 (fun n i s => F157.l5 N n k c s i) (fun t s => some (s ++ bucketL k (c.1.length - t.length) t)) (fun i (s : List Int) => s.length ≤ i) (fun n i s hi hI hr => ?_) (fun n s hI => ?_) c.1.length N 0 [] (by omega) (by omega) (by omega) (Nat.le_refl _)
  · have e : F157.l5 N N k c [] 0 = some (bucketL k 0 c.1) := by
      refine this.trans ?_
      rw [List.drop_zero, Nat.sub_self]; rfl
    rw [e]; cases okPlan c <;> rfl
  · unfold F157.l5 F157.l5b
    have e1 : c.1.length - (c.1.getD i zz4 :: c.1.drop (i + 1)).length = i := by rw [List.length_cons, List.length_drop]; omega
    have e2 : c.1.length - (c.1.drop (i + 1)).length = i + 1 := by rw [List.length_drop]; omega
    rw [e2] at hr
    rw [ltB_t (by omega), cond_true, inb_t (by omega) (by omega), cond_true, Int.toNat_natCast, W_i64 (x := (i : Int) + 1) (by omega) (by omega), natCast_succ' i, cond_eqB, small_t (by rw [List.length_singleton]; omega), cond_true, e1, bucketL_cons]
    split
    · rw [hr _ (by rw [List.length_append, List.length_singleton]; omega), List.append_assoc]; rfl
    · exact hr s (by omega)
  · unfold F157.l5 F157.l5b
    rw [ltB_f (by omega), cond_false]
    show some s = some (s ++ [])
    rw [List.append_nil]

def nTerm (c : vtConfig) (b : vtBook) (i : Nat) : Int := heldOf b.2.2.2.1 0 (i : Int) * b.2.2.2.2.1.getD i 0
/-- A bucket's net, by the first n instruments. -/
def netTo (c : vtConfig) (b : vtBook) (k : Int) : Nat → Int
  | 0 => 0
  | n + 1 => netTo c b k n + if (c.1.getD n zz4).1 = k then nTerm c b n else 0
theorem netTo_succ (c : vtConfig) (b : vtBook) (k : Int) (n : Nat) : netTo c b k (n + 1) = netTo c b k n + if (c.1.getD n zz4).1 = k then nTerm c b n else 0 := rfl
def bigs4 (f : Int → Int) : wtBig := [bigN (f 0), bigN (f 1), bigN (f 2), bigN (f 3)]
theorem bigs4_at (f : Int → Int) {k : Int} (h : 0 ≤ k ∧ k ≤ 3) : (bigs4 f).getD k.toNat (false, zzB) = bigN (f k) := by
  have : k = 0 ∨ k = 1 ∨ k = 2 ∨ k = 3 := by omega
  rcases this with rfl | rfl | rfl | rfl <;> rfl
theorem bigs4_set (f : Int → Int) {k : Int} (h : 0 ≤ k ∧ k ≤ 3) (v : Int) : (bigs4 f).set k.toNat (bigN (f k + v)) = bigs4 (fun j => f j + if k = j then v else 0) := by
  have : k = 0 ∨ k = 1 ∨ k = 2 ∨ k = 3 := by omega
  unfold bigs4
  rcases this with rfl | rfl | rfl | rfl <;> simp

theorem mul_abs {a b : Int} (ha : In64 a) (hb : priceIn b) : -9223372036854775808000000000000 ≤ a * b ∧ a * b ≤ 9223372036854775808000000000000 := by
  unfold In64 at ha; unfold priceIn at hb
  have h1 := Int.mul_le_mul_of_nonneg_right ha.1 (show 0 ≤ b by omega)
  have h2 := Int.mul_le_mul_of_nonneg_right (Int.le_of_lt ha.2) (show 0 ≤ b by omega)
  omega
theorem plan_bucket {c : vtConfig} (h : okPlan c = true) : c.1.length ≤ 6 ∧ ∀ i, i < c.1.length → 0 ≤ (c.1.getD i zz4).1 ∧ (c.1.getD i zz4).1 ≤ 3 := by
  unfold okPlan at h
  simp only [Bool.and_eq_true] at h
  have h1 := of_decide_eq_true h.1
  have h2 := of_decide_eq_true h.2.1
  exact ⟨h1.2, fun i hi => (h2 i hi).1⟩
theorem held64 {l : wtI3} (h : Qty64 l) (a b : Int) : In64 (heldOf l a b) := by
  unfold heldOf
  cases okStock l
  · show In64 0; decide
  · exact firstAt_in h a b
theorem nTerm_rng {c : vtConfig} {b : vtBook} (w : BookWf b) (hB : okBook c b = true) {i : Nat} (hi : i < c.1.length) : -9223372036854775808000000000000 ≤ nTerm c b i ∧ nTerm c b i ≤ 9223372036854775808000000000000 := by
  obtain ⟨hpl, hpr⟩ := okBook_prices hB
  obtain ⟨_, hk⟩ := okBook_parts hB
  have h1 : In64 (heldOf b.2.2.2.1 0 (i : Int)) := held64 w.qs _ _
  exact mul_abs h1 (price_ok hpr (by omega))
theorem netTo_rng {c : vtConfig} {b : vtBook} (w : BookWf b) (hB : okBook c b = true) (k : Int) : ∀ n, n ≤ c.1.length → -(9223372036854775808000000000000 * (n : Int)) ≤ netTo c b k n ∧ netTo c b k n ≤ 9223372036854775808000000000000 * (n : Int)
  | 0, _ => ⟨Int.le_refl _, Int.le_refl _⟩
  | n + 1, h => by
    have ih := netTo_rng w hB k n (by omega)
    have ht := nTerm_rng w hB (i := n) (by omega)
    rw [netTo_succ]
    split <;> omega
theorem netTo_128 {c : vtConfig} {b : vtBook} (w : BookWf b) (hB : okBook c b = true) (k : Int) {n : Nat} (h : n ≤ c.1.length) : In128 (netTo c b k n) := by
  have h6 := (plan_bucket (okBook_flat' hB)).1
  have := netTo_rng w hB k n h
  unfold In128; omega
def netsOf (c : vtConfig) (b : vtBook) (k : Int) : Int := netTo c b k c.1.length
theorem rNets_eq (N : Nat) (hN : 5000000 ≤ N) (c : vtConfig) {b : vtBook} (w : BookWf b) : F68 N c b = some (if okBook c b then (bigs4 (netsOf c b), 0) else ([], 1)) := by
  unfold F68 F68.b
  rw [rBook_eq N hN w, Option.bind_some, cond_not]
  by_cases hB : okBook c b = false
  · rw [hB]; rfl
  rw [Bool.not_eq_false] at hB
  rw [hB, cond_true, if_pos rfl, okMake_t (by omega) (by omega) (by omega), cond_true]
  obtain ⟨hpl, hpr⟩ := okBook_prices hB
  obtain ⟨h6, hbk⟩ := plan_bucket (okBook_flat' hB)
  have key : ∀ (m n i : Nat), c.1.length - i ≤ m → m < n → i ≤ c.1.length → F68.l5 N n c b (bigs4 (fun k => netTo c b k i)) (i : Int) = some (bigs4 (netsOf c b), 0) := by
    intro m n
    induction n generalizing m with
    | zero => intro i _ hn; omega
    | succ n ih =>
      intro i hm hn hi
      unfold F68.l5 F68.l5b
      by_cases h : i < c.1.length
      · have hk := hbk i h
        have hin : inb (c.1.getD i zz4).1 (bigs4 (fun k => netTo c b k i)).length = true := inb_t hk.1 (by
          have g : ∀ x : Int, x ≤ 3 → x < ((4 : Nat) : Int) := fun x _ => by omega
          exact g _ hk.2)
        have hh : In64 (heldOf b.2.2.2.1 0 (i : Int)) := held64 w.qs _ _
        have hh' := hh
        unfold In64 at hh'
        have hp := price_ok hpr (i := i) (by omega)
        have hp' := hp
        unfold priceIn at hp'
        have ht := nTerm_rng w hB h
        have h128 : In128 (nTerm c b i) := by unfold In128; omega
        rw [ltB_t (by omega), cond_true, inb_t (by omega) (by omega), cond_true, Int.toNat_natCast, hin, cond_true, Held_eq N w.s (by omega), Option.bind_some, Whole_eq N (by omega) hh'.1 hh'.2, Option.bind_some, inb_t (by omega) (by omega), cond_true, Whole_eq N (by omega) (by omega) (by omega), Option.bind_some, Times_eq N (by omega) ((Fit.i64 hh'.1 hh'.2).mono (by omega)) ((Fit.i64 (by omega) (by omega)).mono (by omega)), Option.bind_some, bigs4_at _ hk]
        have hpl' : F85 N (bigN (netTo c b (c.1.getD i zz4).1 i)) (bigN (heldOf b.2.2.2.1 0 (i : Int) * b.2.2.2.2.1.getD i 0)) = some (bigN (netTo c b (c.1.getD i zz4).1 i + nTerm c b i)) := Plus_eq N (by omega) (fit128' (netTo_128 w hB _ (by omega))) (fit128' h128)
        rw [hpl', Option.bind_some, cond_true, bigs4_set (fun k => netTo c b k i) hk, W_i64 (x := (i : Int) + 1) (by omega) (by omega), natCast_succ' i]
        exact ih (m - 1) (i + 1) (by omega) (by omega) (by omega)
      · have e : i = c.1.length := by omega
        subst e
        rw [ltB_f (by omega), cond_false]; rfl
  have := key c.1.length N 0 (by omega) (by omega) (by omega)
  have e0 : bigs4 (fun k => netTo c b k 0) = List.replicate (4 : Int).toNat (false, zzB) := by
    show [bigN 0, bigN 0, bigN 0, bigN 0] = _
    rw [bigN_zero]; rfl
  rw [e0] at this
  exact this
end VM
end

section
/- Plain laws: trades of the program. -/
set_option linter.unusedSimpArgs false
namespace VM
open Go VM.F
set_option linter.unusedVariables false

theorem mPriceT_eq (N : Nat) (p : Int) : F100 N p = some (decide (priceIn p)) := (mprice_eq N p).trans (congrArg some (decide_eq_decide.2 Iff.rfl))
theorem mTrade_eq (N : Nat) (hN : 10 ≤ N) (t : vtI5) : F96 N t = some (decide (okTrade t)) := by
  obtain ⟨n, rfl⟩ : ∃ n, N = n + 3 := ⟨N - 3, by omega⟩
  refine Eq.trans ?_ (trade_chain t.1 t.2.1 t.2.2.1 t.2.2.2.1 t.2.2.2.2.1)
  unfold F96 F96.b
  have el : List.set (List.set (List.replicate 2 (0 : Int)) 0 t.1) 1 t.2.1 = [t.1, t.2.1] := rfl
  rw [el]
  generalize hl : [t.1, t.2.1] = l
  have g0 : l.getD (0 : Int).toNat 0 = t.1 := by rw [← hl]; rfl
  have g1 : l.getD (1 : Int).toNat 0 = t.2.1 := by rw [← hl]; rfl
  unfold F96.l2 F96.l2b
  unfold F96.l2 F96.l2b
  unfold F96.l2 F96.l2b
  rw [ltB_t (x := 0) (by omega), cond_true, inb_t (i := 0) (by omega) (by omega), cond_true, W_i64 (x := 0 + 1) (by omega) (by omega), show (0 : Int) + 1 = 1 from rfl, ltB_t (x := 1) (y := 2) (by omega), cond_true, inb_t (i := 1) (by omega) (by omega), cond_true, W_i64 (x := 1 + 1) (by omega) (by omega), show (1 : Int) + 1 = 2 from rfl, ltB_f (x := 2) (y := 2) (by omega), cond_false, g0, g1, mPriceT_eq, Option.bind_some]
  simp only [cond_leB, cond_not, cond_eqB, cond_ltB]
  by_cases a1 : t.1 < 0
  · rw [if_pos a1, if_neg (Int.not_le.2 a1)]
  rw [if_neg a1, if_pos (Int.not_lt.1 a1)]
  by_cases a2 : 24 < t.1
  · rw [if_pos a2, if_neg (Int.not_le.2 a2)]
  rw [if_neg a2, if_pos (Int.not_lt.1 a2)]
  by_cases a3 : t.2.1 < 0
  · rw [if_pos a3, if_neg (Int.not_le.2 a3)]
  rw [if_neg a3, if_pos (Int.not_lt.1 a3)]
  by_cases a4 : 24 < t.2.1
  · rw [if_pos a4, if_neg (Int.not_le.2 a4)]
  rw [if_neg a4, if_pos (Int.not_lt.1 a4)]
theorem mEntry_eq (N : Nat) (a x : Int) : F178 N a (wideN x) = some (entW (rowE a x)) := by
  unfold F178 rowE entW
  rw [cond_eqB]
  by_cases h : a = 0
  · rw [if_pos h, if_pos h]; rfl
  · rw [if_neg h, if_neg h]; rfl
theorem mTradeE_eq (N : Nat) (hN : 100 ≤ N) {t : vtI5} {p : Int} (ht : okTrade t) (hp : priceIn p) : F98 N t p = some ((tradeC t p).map entW, 0) := by
  unfold F98 tradeC
  have hq := ht.2.2.2.2.1
  have he := ht.2.2.2.2.2
  rw [mTrade_eq N (by omega), Option.bind_some, decide_eq_true ht, Bool.not_true, cond_false, mPriceT_eq, Option.bind_some, decide_eq_true hp, Bool.not_true, cond_false, cond_eqB]
  unfold priceIn at hp he
  generalize t.2.2.2.2.1 = e at *
  generalize t.2.2.2.1 = q at *
  by_cases h : p = e
  · rw [if_pos h, if_pos (by omega)]; rfl
  · rw [if_neg h, if_neg (by omega), W_i64 (x := p - e) (by omega) (by omega), W_i64 (x := e - p) (by omega) (by omega), wMul_eq N (by omega) (by omega) (by omega) (by omega), Option.bind_some, mEntry_eq, Option.bind_some, wMul_eq N (by omega) (by omega) (by omega) (by omega), Option.bind_some, mEntry_eq, Option.bind_some, List.map_cons, List.map_cons, List.map_nil, Int.mul_comm q (p - e)]
    have e2 : q * (e - p) = -((p - e) * q) := by rw [Int.mul_comm, ← Int.neg_mul]; congr 1; omega
    rw [e2]
theorem wAdd_eq (N : Nat) {u v : Int} (hu : In128 u) (hv : In128 v) (hs : In128 (u + v)) : F74 N (wideN u) (wideN v) = some (wideN (u + v), true) := by
  unfold F74 wideN
  unfold In128 at *
  dsimp only
  have hp : 0 ≤ u % 18446744073709551616 ∧ u % 18446744073709551616 < 18446744073709551616 := by omega
  have hq : 0 ≤ v % 18446744073709551616 ∧ v % 18446744073709551616 < 18446744073709551616 := by omega
  rw [W_mod, W_mod, add64_eq N (by omega) (by omega) (by omega) (by omega), Option.bind_some]
  dsimp only
  have hc : 0 ≤ (u % 18446744073709551616 + v % 18446744073709551616 + 0) / 18446744073709551616 ∧ (u % 18446744073709551616 + v % 18446744073709551616 + 0) / 18446744073709551616 ≤ 1 := by omega
  have e1 : (u % 18446744073709551616 + v % 18446744073709551616 + 0) % 18446744073709551616 = (u + v) % 18446744073709551616 := by omega
  have e2 : u / 18446744073709551616 + v / 18446744073709551616 + (u % 18446744073709551616 + v % 18446744073709551616 + 0) / 18446744073709551616 = (u + v) / 18446744073709551616 := by omega
  have h3 : -9223372036854775808 ≤ (u + v) / 18446744073709551616 ∧ (u + v) / 18446744073709551616 < 9223372036854775808 := by omega
  rw [add64_eq N (by omega) (by omega) hc.1 hc.2, Option.bind_some]
  dsimp only
  have e3 : W .i64 ((u / 18446744073709551616 % 18446744073709551616 + v / 18446744073709551616 % 18446744073709551616 + (u % 18446744073709551616 + v % 18446744073709551616 + 0) / 18446744073709551616) % 18446744073709551616) = (u + v) / 18446744073709551616 := by
    rw [W_i64_def]; split <;> omega
  rw [e3, e1]
  have key : ∀ A B C : Int, A = u / 18446744073709551616 → B = v / 18446744073709551616 → C = (u + v) / 18446744073709551616 → (A < 0 ∧ B < 0 → C < 0) ∧ (¬ A < 0 ∧ ¬ B < 0 → ¬ C < 0) := fun A B C _ _ _ => by omega
  have k := key _ _ _ rfl rfl rfl
  simp only [teq_bool, ltB_eq]
  by_cases a : u / 18446744073709551616 < 0 <;> by_cases b : v / 18446744073709551616 < 0
  · have c := k.1 ⟨a, b⟩
    rw [decide_eq_true a, decide_eq_true b, decide_eq_true c]; rfl
  · rw [decide_eq_true a, decide_eq_false b]; rfl
  · rw [decide_eq_false a, decide_eq_true b]; rfl
  · have c := k.2 ⟨a, b⟩
    rw [decide_eq_false a, decide_eq_false b, decide_eq_false c]; rfl
theorem Bucket_eq (N : Nat) (hN : 200000 ≤ N) (c : vtConfig) (hl : c.1.length ≤ 100000) (k : Int) : F154 N c k = some (bucketOf c k) := by
  unfold F154 F154.b bucketOf
  rw [Plan_eq N (by omega), Option.bind_some, cond_not]
  have := lrec c.1 zz4 (fun n i s => F154.l5 N n k s c.1 (c.1.length : Int) i) (fun t s => some (s ++ bucketL k (c.1.length - t.length) t)) (fun i (s : List Int) => s.length ≤ i) (fun n i s hi hI hr => ?_) (fun n s hI => ?_) c.1.length N 0 [] (by omega) (by omega) (by omega) (Nat.le_refl _)
  · have e : F154.l5 N N k [] c.1 (c.1.length : Int) 0 = some (bucketL k 0 c.1) := by
      refine this.trans ?_
      rw [List.drop_zero, Nat.sub_self]; rfl
    rw [e]; cases okPlan c <;> rfl
  · unfold F154.l5 F154.l5b
    have e1 : c.1.length - (c.1.getD i zz4 :: c.1.drop (i + 1)).length = i := by rw [List.length_cons, List.length_drop]; omega
    have e2 : c.1.length - (c.1.drop (i + 1)).length = i + 1 := by rw [List.length_drop]; omega
    rw [e2] at hr
    rw [ltB_t (by omega), cond_true, inb_t (by omega) (by omega), cond_true, Int.toNat_natCast, W_i64 (x := (i : Int) + 1) (by omega) (by omega), natCast_succ' i, cond_eqB, small_t (by rw [List.length_singleton]; omega), cond_true, e1, bucketL_cons]
    split
    · rw [hr _ (by rw [List.length_append, List.length_singleton]; omega), List.append_assoc]; rfl
    · exact hr s (by omega)
  · unfold F154.l5 F154.l5b
    rw [ltB_f (by omega), cond_false]
    show some s = some (s ++ [])
    rw [List.append_nil]
end VM
end

