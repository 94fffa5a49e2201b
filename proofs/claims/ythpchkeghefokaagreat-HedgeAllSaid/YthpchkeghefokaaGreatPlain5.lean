/- A part of the proof of HedgeAll of layer 22: what the functions compute, in plain words. -/
import Derived.Test.YthpchkeghefokaaGreatPlain4
set_option linter.all false
section
/- Plain laws: how far a position may come, and the margin of that. -/
set_option linter.unusedSimpArgs false
namespace VM
open Go VM.F
set_option linter.unusedVariables false

theorem wSub_eq (N : Nat) {u v : Int} (hu : In128 u) (hv : In128 v) (hs : In128 (u - v)) : F165 N (wideN u) (wideN v) = some (wideN (u - v), true) := by
  unfold F165 wideN
  unfold In128 at *
  dsimp only
  have hp : 0 ≤ u % 18446744073709551616 ∧ u % 18446744073709551616 < 18446744073709551616 := by omega
  have hq : 0 ≤ v % 18446744073709551616 ∧ v % 18446744073709551616 < 18446744073709551616 := by omega
  rw [W_mod, W_mod, sub64_eq N (by omega) (by omega) (by omega) (by omega) (by omega) (by omega), Option.bind_some]
  dsimp only
  have hb : (0 : Int) ≤ (if u % 18446744073709551616 < v % 18446744073709551616 + 0 then 1 else 0) ∧ (if u % 18446744073709551616 < v % 18446744073709551616 + 0 then (1 : Int) else 0) ≤ 1 := by split <;> omega
  rw [sub64_eq N (by omega) (by omega) (by omega) (by omega) hb.1 hb.2, Option.bind_some]
  dsimp only
  have e3 : W .i64 ((u / 18446744073709551616 % 18446744073709551616 - v / 18446744073709551616 % 18446744073709551616 - (if u % 18446744073709551616 < v % 18446744073709551616 + 0 then 1 else 0)) % 18446744073709551616) = (u - v) / 18446744073709551616 := by
    by_cases h0 : u % 18446744073709551616 < v % 18446744073709551616 + 0
    · rw [if_pos h0, W_i64_def]; split <;> omega
    · rw [if_neg h0, W_i64_def]; split <;> omega
  have e1 : (u % 18446744073709551616 - v % 18446744073709551616 - 0) % 18446744073709551616 = (u - v) % 18446744073709551616 := by omega
  rw [e3, e1]
  have key : ∀ A B C : Int, A = u / 18446744073709551616 → B = v / 18446744073709551616 → C = (u - v) / 18446744073709551616 → (A < 0 ∧ ¬ B < 0 → C < 0) ∧ (¬ A < 0 ∧ B < 0 → ¬ C < 0) := fun A B C _ _ _ => by omega
  have k := key _ _ _ rfl rfl rfl
  simp only [teq_bool, ltB_eq]
  by_cases a : u / 18446744073709551616 < 0 <;> by_cases b : v / 18446744073709551616 < 0
  · rw [decide_eq_true a, decide_eq_true b]; rfl
  · have c := k.1 ⟨a, b⟩
    rw [decide_eq_true a, decide_eq_false b, decide_eq_true c]; rfl
  · have c := k.2 ⟨a, b⟩
    rw [decide_eq_false a, decide_eq_true b, decide_eq_false c]; rfl
  · rw [decide_eq_false a, decide_eq_false b]; rfl
theorem wTimes_eq (N : Nat) {v k : Int} (hv : 0 ≤ v ∧ v ≤ 9223372069854775808) (hk : 0 ≤ k ∧ k ≤ 1000000000) : F182 N (wideN v) k = some (wideN (v * k), true) := by
  unfold F182
  have hm := mul_rng hv hk
  have h0 : v / 18446744073709551616 = 0 := by omega
  have h1 : v % 18446744073709551616 = v := by omega
  rw [wsize_eq N (by omega) (by omega), Option.bind_some, Size_eq N (by omega) (by omega), Option.bind_some, show (v.natAbs : Int) = v by omega, show (k.natAbs : Int) = k by omega, h0, h1]
  dsimp only
  rw [Mul64_eq N (by omega) (by omega) (by omega) (by omega), Option.bind_some, Mul64_eq N (by omega) (by omega) (by omega) (by omega), Option.bind_some, Int.zero_mul]
  dsimp only
  have e : wideN v = ((0 : Int), (v, ())) := by unfold wideN; rw [h0, h1]
  generalize v * k = m at *
  rw [add64_eq N (by omega) (by omega) (by omega) (by omega), Option.bind_some, e]
  dsimp only
  have e1 : (0 % 18446744073709551616 + m / 18446744073709551616 + 0) % 18446744073709551616 = m / 18446744073709551616 := by omega
  have e2 : (0 / 18446744073709551616 : Int) + (0 % 18446744073709551616 + m / 18446744073709551616 + 0) / 18446744073709551616 = 0 := by omega
  rw [e1, e2, W_u64 (x := 0) (by omega) (by omega), eqB_self, Bool.not_true, cond_false, ltB_f (x := 0) (by omega), ltB_f (x := k) (by omega), teq_bool]
  show (F168 N false _ _).bind _ = _
  rw [signed_pos N (by omega) (by omega) (by omega) (by omega), Option.bind_some, show m / 18446744073709551616 * 18446744073709551616 + m % 18446744073709551616 = m by omega]
theorem top_end (N : Nat) {q : Int} {z : Int × Int} (hq : In64 q) (hz : zOp z) : ((F25 N q).bind fun r9 => (F25 N z.1).bind fun r10 => (F74 N r9 r10).bind fun r11 => (F25 N q).bind fun r12 => (F25 N z.2).bind fun r13 => (F165 N r12 r13).bind fun r14 => (F153 N r11.1).bind fun r15 => (F153 N r14.1).bind fun r16 => (F82 N r15.1 r16.1).bind fun r17 => cond (ltB r17 0) (some (r16.1, (0 : Int))) (some (r15.1, (0 : Int)))) = some (wideN (topV q z), 0) := by
  unfold In64 zOp at *
  have a1 : In128 q ∧ In128 z.1 ∧ In128 z.2 ∧ In128 (q + z.1) ∧ In128 (q - z.2) := by unfold In128; omega
  rw [wOf_eq N hq.1 hq.2, Option.bind_some, wOf_eq N (by omega) (by omega), Option.bind_some, wAdd_eq N a1.1 a1.2.1 a1.2.2.2.1, Option.bind_some, Option.bind_some, wOf_eq N (by omega) (by omega), Option.bind_some, wSub_eq N a1.1 a1.2.2.1 a1.2.2.2.2, Option.bind_some, wAbs_eq N a1.2.2.2.1 (by omega), Option.bind_some, wAbs_eq N a1.2.2.2.2 (by omega), Option.bind_some, wCmp_eq, Option.bind_some, cond_ltB]
  unfold topV
  have hs : sgn (((q + z.1).natAbs : Int) - ((q - z.2).natAbs : Int)) < 0 ↔ ((q + z.1).natAbs : Int) < ((q - z.2).natAbs : Int) := by
    unfold sgn; split <;> (try split) <;> omega
  by_cases h : ((q + z.1).natAbs : Int) < ((q - z.2).natAbs : Int)
  · rw [if_pos h, if_pos (hs.2 h)]
  · rw [if_neg h, if_neg (fun k => h (hs.1 k))]
theorem Top_loop2 (N : Nat) (hN : 200000 ≤ N) {o : wtI3} (hol : o.length ≤ 100000) (ho : ∀ x ∈ o, zOp (x.2.1, x.2.2.1)) (k : Int) {q : Int} (hq : In64 q) : F145.l13 N N k zz2 q 0 0 o (o.length : Int) 0 = some (wideN (topV q (lastO k o (0, 0))), 0) := by
  have := lrec o zz3 (fun n i (z : Int × Int) => F145.l13 N n k zz2 q z.1 z.2 o (o.length : Int) i) (fun t z => some (wideN (topV q (lastO k t z)), (0 : Int))) (fun i z => zOp z) (fun n i z hi hz hr => ?_) (fun n z hz => ?_) o.length N 0 (0, 0) (by omega) (by omega) (by omega) (by unfold zOp; decide)
  · exact this
  · unfold F145.l13 F145.l13b
    rw [ltB_t (by omega), cond_true, inb_t (by omega) (by omega), cond_true, Int.toNat_natCast, W_i64 (x := (i : Int) + 1) (by omega) (by omega), natCast_succ' i, cond_eqB, lastO_cons]
    by_cases h : (o.getD i zz3).1 = k
    · rw [if_pos h, if_pos h]
      exact hr ((o.getD i zz3).2.1, (o.getD i zz3).2.2.1) (ho _ (by rw [List.getD_eq_getElem?_getD, List.getElem?_eq_getElem hi]; exact List.getElem_mem hi))
    · rw [if_neg h, if_neg h]
      exact hr z hz
  · unfold F145.l13 F145.l13b
    rw [ltB_f (by omega), cond_false]
    exact top_end N hq hz
theorem Top_eq (N : Nat) (hN : 200000 ≤ N) (c : vtConfig) {l : wtI2} (hl : l.length ≤ 100000) (h64 : ∀ y ∈ l, In64 y.2.1) {o : wtI3} (hol : o.length ≤ 100000) (k : Int) : F145 N c l o k = some (wideN (topOf c l o k).1, (topOf c l o k).2) := by
  unfold F145 F145.b topOf
  rw [Legs_eq N hN c hl, Option.bind_some, cond_not, NOpens_eq N hN c hol, Option.bind_some, cond_not, cond_ltB, cond_leB]
  cases h1 : okLegs c l with
  | false => rfl
  | true =>
    cases h2 : okOpens c o with
    | false => rfl
    | true =>
      rw [cond_true, cond_true, Bool.and_true, if_pos rfl]
      by_cases h3 : 0 ≤ k ∧ k < (c.1.length : Int)
      · rw [if_pos h3, if_neg (by omega), if_neg (by omega)]
        have := lrec l zz2 (fun n i (q : Int) => F145.l7 N n o k zz2 q 0 0 l (l.length : Int) i) (fun t q => some (wideN (topV (lastQ k t q) (lastO k o (0, 0))), (0 : Int))) (fun i q => In64 q) (fun n i q hi hq hr => ?_) (fun n q hq => ?_) l.length N 0 0 (by omega) (by omega) (by omega) (by unfold In64; omega)
        · exact this
        · unfold F145.l7 F145.l7b
          rw [ltB_t (by omega), cond_true, inb_t (by omega) (by omega), cond_true, Int.toNat_natCast, W_i64 (x := (i : Int) + 1) (by omega) (by omega), natCast_succ' i, cond_eqB, lastQ_cons]
          by_cases h : (l.getD i zz2).1 = k
          · rw [if_pos h, if_pos h]
            exact hr _ (h64 _ (by rw [List.getD_eq_getElem?_getD, List.getElem?_eq_getElem hi]; exact List.getElem_mem hi))
          · rw [if_neg h, if_neg h]
            exact hr q hq
        · unfold F145.l7 F145.l7b
          rw [ltB_f (by omega), cond_false]
          exact Top_loop2 N hN hol (opens_z h2) k hq
      · rw [if_neg h3]
        by_cases h4 : k < 0
        · rw [if_pos h4]; rfl
        · rw [if_neg h4, if_pos (by omega)]; rfl
theorem rtop_end (N : Nat) (hN : 4000000 ≤ N) {q : Int} {z : Int × Int} (hq : In64 q) (hz : zOp z) : ((F85 N (bigN q) (bigN z.1)).bind fun r12 => (F86 N r12).bind fun r13 => (F147 N (bigN q) (bigN z.2)).bind fun r14 => (F86 N r14).bind fun r15 => (F130 N r15 r13).bind fun r16 => cond (ltB 0 r16) (some (r15, (0 : Int))) (some (r13, (0 : Int)))) = some (bigN (topV q z), 0) := by
  unfold In64 zOp at *
  have f : ∀ x : Int, -170141183460469231731687303715884105728 ≤ x → x < 170141183460469231731687303715884105728 → Fit x 900000 := fun x h1 h2 => fit128' ⟨h1, h2⟩
  rw [Plus_eq N hN (f _ (by omega) (by omega)) (f _ (by omega) (by omega)), Option.bind_some, Sized_eq N hN (f _ (by omega) (by omega)), Option.bind_some, Less_eq N hN (f _ (by omega) (by omega)) (f _ (by omega) (by omega)), Option.bind_some, Sized_eq N hN (f _ (by omega) (by omega)), Option.bind_some, Cmp_eq N hN (f _ (by omega) (by omega)) (f _ (by omega) (by omega)), Option.bind_some, cond_ltB]
  unfold topV
  have hs : 0 < sgn (((q - z.2).natAbs : Int) - ((q + z.1).natAbs : Int)) ↔ ((q + z.1).natAbs : Int) < ((q - z.2).natAbs : Int) := by
    unfold sgn; split <;> (try split) <;> omega
  by_cases h : ((q + z.1).natAbs : Int) < ((q - z.2).natAbs : Int)
  · rw [if_pos h, if_pos (hs.2 h)]
  · rw [if_neg h, if_neg (fun k => h (hs.1 k))]
theorem rTop_loop2 (N : Nat) (hN : 4000000 ≤ N) {o : wtI3} (hol : o.length ≤ 100000) (ho : ∀ x ∈ o, zOp (x.2.1, x.2.2.1)) (k : Int) {q : Int} (hq : In64 q) : F151.l12 N N o k (bigN 0) (bigN q) (bigN 0) (bigN 0) 0 = some (bigN (topV q (lastO k o (0, 0))), 0) := by
  have := lrec o zz3 (fun n i (z : Int × Int) => F151.l12 N n o k (bigN 0) (bigN q) (bigN z.1) (bigN z.2) i) (fun t z => some (bigN (topV q (lastO k t z)), (0 : Int))) (fun i z => zOp z) (fun n i z hi hz hr => ?_) (fun n z hz => ?_) o.length N 0 (0, 0) (by omega) (by omega) (by omega) (by unfold zOp; decide)
  · exact this
  · unfold F151.l12 F151.l12b
    rw [ltB_t (by omega), cond_true, inb_t (by omega) (by omega), cond_true, cond_true, Int.toNat_natCast, W_i64 (x := (i : Int) + 1) (by omega) (by omega), natCast_succ' i, cond_eqB, lastO_cons]
    by_cases h : (o.getD i zz3).1 = k
    · have hx := ho (o.getD i zz3) (by rw [List.getD_eq_getElem?_getD, List.getElem?_eq_getElem hi]; exact List.getElem_mem hi)
      have hr' := hr ((o.getD i zz3).2.1, (o.getD i zz3).2.2.1) hx
      unfold zOp at hx
      rw [if_pos h, if_pos h, Whole_eq N (by omega) (Int.le_trans (by decide) hx.1) (Int.lt_of_le_of_lt hx.2.1 (by decide)), Option.bind_some, cond_true, Whole_eq N (by omega) (Int.le_trans (by decide) hx.2.2.1) (Int.lt_of_le_of_lt hx.2.2.2 (by decide)), Option.bind_some]
      exact hr'
    · rw [if_neg h, if_neg h]
      exact hr z hz
  · unfold F151.l12 F151.l12b
    rw [ltB_f (by omega), cond_false]
    exact rtop_end N hN hq hz
theorem rTop_eq (N : Nat) (hN : 4000000 ≤ N) (c : vtConfig) {l : wtI2} (hl : l.length ≤ 100000) (h64 : ∀ y ∈ l, In64 y.2.1) {o : wtI3} (hol : o.length ≤ 100000) (k : Int) : F151 N c l o k = some (bigN (topOf c l o k).1, (topOf c l o k).2) := by
  unfold F151 F151.b topOf
  rw [rLegs_eq N (by omega) c hl, Option.bind_some, cond_not, rNOpens_eq N (by omega) c hol, Option.bind_some, cond_not, cond_ltB, cond_leB, ← bigN_zero]
  cases h1 : okLegs c l with
  | false => rfl
  | true =>
    cases h2 : okOpens c o with
    | false => rfl
    | true =>
      rw [cond_true, cond_true, Bool.and_true, if_pos rfl]
      by_cases h3 : 0 ≤ k ∧ k < (c.1.length : Int)
      · rw [if_pos h3, if_neg (by omega), if_neg (by omega)]
        have := lrec l zz2 (fun n i (q : Int) => F151.l7 N n l o k (bigN 0) (bigN q) (bigN 0) (bigN 0) i) (fun t q => some (bigN (topV (lastQ k t q) (lastO k o (0, 0))), (0 : Int))) (fun i q => In64 q) (fun n i q hi hq hr => ?_) (fun n q hq => ?_) l.length N 0 0 (by omega) (by omega) (by omega) (by unfold In64; omega)
        · exact this
        · unfold F151.l7 F151.l7b
          rw [ltB_t (by omega), cond_true, inb_t (by omega) (by omega), cond_true, cond_true, Int.toNat_natCast, W_i64 (x := (i : Int) + 1) (by omega) (by omega), natCast_succ' i, cond_eqB, lastQ_cons]
          by_cases h : (l.getD i zz2).1 = k
          · have hy := h64 (l.getD i zz2) (by rw [List.getD_eq_getElem?_getD, List.getElem?_eq_getElem hi]; exact List.getElem_mem hi)
            rw [if_pos h, if_pos h, Whole_eq N (by omega) hy.1 hy.2, Option.bind_some]
            exact hr _ hy
          · rw [if_neg h, if_neg h]
            exact hr q hq
        · unfold F151.l7 F151.l7b
          rw [ltB_f (by omega), cond_false]
          exact rTop_loop2 N hN hol (opens_z h2) k hq
      · rw [if_neg h3]
        by_cases h4 : k < 0
        · rw [if_pos h4]
        · rw [if_neg h4, if_pos (by omega)]
theorem topOf_fst {c : vtConfig} {l : wtI2} {o : wtI3} (h1 : okLegs c l = true) (h2 : okOpens c o = true) {k : Int} (hk : 0 ≤ k ∧ k < (c.1.length : Int)) : (topOf c l o k).1 = topN l o k := by
  unfold topOf
  rw [h1, h2, Bool.and_true, if_pos rfl, if_pos hk]
theorem Worst_eq (N : Nat) (hN : 2000000 ≤ N) (c : vtConfig) {l : wtI2} (hl : l.length ≤ 100000) (h64 : ∀ y ∈ l, In64 y.2.1) {o : wtI3} (hol : o.length ≤ 100000) : F102 N c l o = some (wideN (worstOf c l o).1, (worstOf c l o).2) := by
  unfold F102 F102.b worstOf
  rw [Legs_eq N (by omega) c hl, Option.bind_some, cond_not, NOpens_eq N (by omega) c hol, Option.bind_some, cond_not]
  cases h1 : okLegs c l with
  | false => rfl
  | true =>
    cases h2 : okOpens c o with
    | false => rfl
    | true =>
      rw [cond_true, cond_true, Bool.and_true, if_pos rfl]
      have h6 := plan_len (opens_plan h2)
      have hterm : ∀ i, i < c.1.length → 0 ≤ topN l o (i : Int) * rateAt c i ∧ topN l o (i : Int) * rateAt c i ≤ 9223372069854775808000000000 := fun i hi => mul_rng (topN_rng h2 h64 (i : Int)) (rate_in (opens_plan h2) hi)
      have hL : ∀ n, n ≤ c.1.length → ∀ x ∈ worstL c l o n, In128 x := by
        intro n
        induction n with
        | zero => intro _ x hx; nomatch hx
        | succ n ih =>
          intro hn
          have := hterm n (by omega)
          exact in128_snoc (ih (by omega)) (by unfold In128; omega)
      have hw := worst_rng (opens_plan h2) h2 h64 c.1.length (Nat.le_refl _)
      have key : ∀ (m n i : Nat), c.1.length - i ≤ m → m < n → i ≤ c.1.length → F102.l5 N n l o c zz2 ((worstL c l o i).map wideN) c.1 (c.1.length : Int) (i : Int) = some (wideN (worstTo c l o c.1.length), 0) := by
        intro m n
        induction n generalizing m with
        | zero => intro i _ hn; omega
        | succ n ih =>
          intro i hm hn hi
          unfold F102.l5 F102.l5b
          by_cases h : i < c.1.length
          · have hr := rate_in (opens_plan h2) h
            have hr' := hr
            unfold rateAt at hr'
            have ht := topN_rng h2 h64 (i : Int)
            rw [ltB_t (by omega), cond_true, inb_t (by omega) (by omega), cond_true, Top_eq N (by omega) c hl h64 hol, Option.bind_some, topOf_fst h1 h2 ⟨by omega, by omega⟩, Int.toNat_natCast, wTimes_eq N ht hr', Option.bind_some, small_t (by rw [List.length_map, worstL_len, List.length_singleton]; omega), cond_true, W_i64 (x := (i : Int) + 1) (by omega) (by omega), natCast_succ' i]
            have := ih (m - 1) (i + 1) (by omega) (by omega) (by omega)
            rw [show worstL c l o (i + 1) = worstL c l o i ++ [topN l o (i : Int) * rateAt c i] from rfl, List.map_append] at this
            exact this
          · have e : i = c.1.length := by omega
            subst e
            rw [ltB_f (by omega), cond_false, wSum_eq N (hL _ hi) (by rw [worstL_len]; omega) (by omega), Option.bind_some, worstL_sum]
            unfold sumW
            rw [if_pos (by unfold In128; omega)]
      exact key c.1.length N 0 (by omega) (by omega) (by omega)
theorem rWorst_eq (N : Nat) (hN : 4000000 ≤ N) (c : vtConfig) {l : wtI2} (hl : l.length ≤ 100000) (h64 : ∀ y ∈ l, In64 y.2.1) {o : wtI3} (hol : o.length ≤ 100000) : F205 N c l o = some (bigN (worstOf c l o).1, (worstOf c l o).2) := by
  unfold F205 F205.b worstOf
  rw [rLegs_eq N (by omega) c hl, Option.bind_some, cond_not, rNOpens_eq N (by omega) c hol, Option.bind_some, cond_not, ← bigN_zero]
  cases h1 : okLegs c l with
  | false => rfl
  | true =>
    cases h2 : okOpens c o with
    | false => rfl
    | true =>
      rw [cond_true, cond_true, Bool.and_true, if_pos rfl]
      have h6 := plan_len (opens_plan h2)
      have f : ∀ x : Int, -170141183460469231731687303715884105728 ≤ x → x < 170141183460469231731687303715884105728 → Fit x 900000 := fun x h1 h2 => fit128' ⟨h1, h2⟩
      have f2 : ∀ x : Int, 0 ≤ x → x ≤ 9223372069854775808 → Fit x 80000 := fun x h1 h2 => by
        refine Fit.mono (j := 3) ?_ (by omega)
        unfold Fit
        rw [show (4294967296 : Nat) ^ 3 = 79228162514264337593543950336 from rfl]
        omega
      have key : ∀ (m n i : Nat), c.1.length - i ≤ m → m < n → i ≤ c.1.length → F205.l5 N n l o c (bigN 0) (bigN (worstTo c l o i)) (i : Int) = some (bigN (worstTo c l o c.1.length), 0) := by
        intro m n
        induction n generalizing m with
        | zero => intro i _ hn; omega
        | succ n ih =>
          intro i hm hn hi
          unfold F205.l5 F205.l5b
          by_cases h : i < c.1.length
          · have hr := rate_in (opens_plan h2) h
            have ht := topN_rng h2 h64 (i : Int)
            have hm' := mul_rng ht hr
            have hw := worst_rng (opens_plan h2) h2 h64 i (by omega)
            have hfr := f2 _ hr.1 (Int.le_trans hr.2 (by decide))
            have hWh : F87 N ((c.1.getD i zz4).2.2.1) = some (bigN (rateAt c i)) := Whole_eq N (by omega) (Int.le_trans (by decide) hr.1) (Int.lt_of_le_of_lt hr.2 (by decide))
            rw [ltB_t (by omega), cond_true, rTop_eq N (by omega) c hl h64 hol, Option.bind_some, topOf_fst h1 h2 ⟨by omega, by omega⟩, inb_t (by omega) (by omega), cond_true, Int.toNat_natCast, hWh, Option.bind_some, Times_eq N (by omega) ((f2 _ ht.1 ht.2).mono (by omega)) (hfr.mono (by omega)), Option.bind_some, Plus_eq N (by omega) (f _ (by omega) (by omega)) (f _ (by omega) (by omega)), Option.bind_some, W_i64 (x := (i : Int) + 1) (by omega) (by omega), natCast_succ' i]
            exact ih (m - 1) (i + 1) (by omega) (by omega) (by omega)
          · have e : i = c.1.length := by omega
            subst e
            rw [ltB_f (by omega), cond_false]
      exact key c.1.length N 0 (by omega) (by omega) (by omega)
end VM
end

section
/- Plain laws: what an order costs, whether it is let in, fills. -/
set_option linter.unusedSimpArgs false
namespace VM
open Go VM.F
set_option linter.unusedVariables false

def lossD (s p a : Int) : Int := if s = 2 then a - p else p - a
def lossV (q s p a : Int) : Int := if lossD s p a < 0 then 0 else q * lossD s p a
def lossN (o : vtI6) (a : Int) : Int := lossV (oQ o) o.2.2.2.1 o.2.2.2.2.2.1 a
def lossOf (o : vtI6) (a : Int) : Int × Int := if okOrd o ∧ priceIn a then (lossN o a, 0) else (0, 1)
theorem loss_num {q s p a : Int} (hq : 1 ≤ q ∧ q ≤ 1000000000) (hp : priceIn p) (ha : priceIn a) : -1000000000000000000000 ≤ q * lossD s p a ∧ q * lossD s p a ≤ 1000000000000000000000 ∧ (q * lossD s p a < 0 ↔ lossD s p a < 0) ∧ -1000000000000 ≤ lossD s p a ∧ lossD s p a ≤ 1000000000000 := by
  have hd : -1000000000000 ≤ lossD s p a ∧ lossD s p a ≤ 1000000000000 := by
    unfold lossD priceIn at *
    split <;> omega
  generalize lossD s p a = d at *
  have h1 : -(q * 1000000000000) ≤ q * d := by
    rw [← Int.mul_neg]; exact Int.mul_le_mul_of_nonneg_left (by omega) (by omega)
  have h2 : q * d ≤ q * 1000000000000 := Int.mul_le_mul_of_nonneg_left (by omega) (by omega)
  refine ⟨by omega, by omega, ⟨fun h => ?_, fun h => ?_⟩, hd⟩
  · by_cases h0 : d < 0
    · exact h0
    · have := Int.mul_nonneg (a := q) (b := d) (by omega) (by omega)
      omega
  · have : q * d ≤ q * (-1) := Int.mul_le_mul_of_nonneg_left (by omega) (by omega)
    omega
theorem lossN_rng (o : vtI6) (a : Int) : 0 ≤ (lossOf o a).1 ∧ (lossOf o a).1 ≤ 1000000000000000000000 := by
  unfold lossOf
  by_cases h : okOrd o ∧ priceIn a
  · rw [if_pos h]
    obtain ⟨ho, ha⟩ := h
    unfold okOrd okOrd6 at ho
    have := loss_num (s := o.2.2.2.1) (q := oQ o) ho.2.2.2.2.1 ho.2.2.2.2.2 ha
    show 0 ≤ lossV _ _ _ _ ∧ lossV _ _ _ _ ≤ _
    unfold lossV
    split <;> omega
  · rw [if_neg h]; decide
def accIn (b : vtBook) (a : Int) : vtI4 := (findOf b.2.1 a).1
def limIn (b : vtBook) (a : Int) : Int := (accIn b a).2.2.2.1
def stIn (b : vtBook) (a : Int) : Int := statusOf b.1 (accIn b a).2.1
def moreO (b : vtBook) (o : vtI6) : wtI3 := opensOf (b.2.2.2.2.2.1 ++ [o]) o.2.1
def checkIn (c : vtConfig) (b : vtBook) (o : vtI6) : Int :=
  if limIn b o.2.1 < (topOf c (posOf b.2.2.2.1 o.2.1) (moreO b o) (oI o)).1 then 9 else
  if getOf b.2.2.1 5 o.2.1 - (lossOf o (b.2.2.2.2.1.getD (oI o).toNat 0)).1 < (worstOf c (posOf b.2.2.2.1 o.2.1) (moreO b o)).1 then 10 else 0
def checkOf (c : vtConfig) (b : vtBook) (o : vtI6) : Int :=
  if okBook c b then (if okOrd o then (if (findOf b.2.1 o.2.1).2 then (if stIn b o.2.1 = 1 then (if (c.1.length : Int) ≤ oI o then 3 else checkIn c b o) else 7) else 3) else 1) else 1
theorem loss_step (N : Nat) {q s p a : Int} (hq : 1 ≤ q ∧ q ≤ 1000000000) (hp : priceIn p) (ha : priceIn a) : ((F83 N q (W .i64 (p - a))).bind fun r4 => cond (eqB s 2) ((F83 N q (W .i64 (a - p))).bind fun r6 => (F81 N r6).bind fun r7 => cond (ltB r7 0) (some (zz2, (0 : Int))) (some (r6, (0 : Int)))) ((F81 N r4).bind fun r8 => cond (ltB r8 0) (some (zz2, (0 : Int))) (some (r4, (0 : Int))))) = some (wideN (lossV q s p a), 0) := by
  have hn := loss_num (s := s) hq hp ha
  unfold priceIn at hp ha
  have hs : ∀ d : Int, sgn (q * d) < 0 ↔ q * d < 0 := fun d => by unfold sgn; split <;> (try split) <;> omega
  rw [W_i64 (x := p - a) (by omega) (by omega), wMul_eq N (by omega) (by omega) (by omega) (by omega), Option.bind_some, cond_eqB, W_i64 (x := a - p) (by omega) (by omega), wMul_eq N (by omega) (by omega) (by omega) (by omega), Option.bind_some, wSign_eq, wSign_eq, Option.bind_some, Option.bind_some, cond_ltB, cond_ltB]
  unfold lossV
  by_cases h : s = 2
  · have e : lossD s p a = a - p := by unfold lossD; rw [if_pos h]
    rw [if_pos h]
    rw [e] at hn ⊢
    have := hs (a - p)
    by_cases h1 : a - p < 0
    · rw [if_pos h1, if_pos (this.2 (hn.2.2.1.2 h1))]; rfl
    · rw [if_neg h1, if_neg (fun k => h1 (hn.2.2.1.1 (this.1 k)))]
  · have e : lossD s p a = p - a := by unfold lossD; rw [if_neg h]
    rw [if_neg h]
    rw [e] at hn ⊢
    have := hs (p - a)
    by_cases h1 : p - a < 0
    · rw [if_pos h1, if_pos (this.2 (hn.2.2.1.2 h1))]; rfl
    · rw [if_neg h1, if_neg (fun k => h1 (hn.2.2.1.1 (this.1 k)))]
theorem Loss_eq (N : Nat) (o : vtI6) (a : Int) : F56 N o a = some (wideN (lossOf o a).1, (lossOf o a).2) := by
  unfold F56 lossOf
  rw [Ord_eq, Option.bind_some, cond_not, cond_dec, mPriceT_eq, Option.bind_some, cond_not, cond_dec]
  by_cases ho : okOrd o
  · rw [if_pos ho]
    by_cases ha : priceIn a
    · rw [if_pos ha, if_pos ⟨ho, ha⟩]
      unfold okOrd okOrd6 at ho
      exact loss_step N ho.2.2.2.2.1 ho.2.2.2.2.2 ha
    · rw [if_neg ha, if_neg (fun h => ha h.2)]; rfl
  · rw [if_neg ho, if_neg (fun h => ho h.1)]; rfl
theorem rloss_step (N : Nat) (hN : 4000000 ≤ N) {q s p a : Int} (hq : 1 ≤ q ∧ q ≤ 1000000000) (hp : priceIn p) (ha : priceIn a) : (let v3 : Int := W .i64 (p - a); cond (eqB s 2) (let v4 : Int := W .i64 (a - p); cond (ltB v4 0) (some (bigN 0, (0 : Int))) ((F87 N q).bind fun r5 => (F87 N v4).bind fun r6 => (F150 N r5 r6).bind fun r7 => some (r7, (0 : Int)))) (cond (ltB v3 0) (some (bigN 0, (0 : Int))) ((F87 N q).bind fun r8 => (F87 N v3).bind fun r9 => (F150 N r8 r9).bind fun r10 => some (r10, (0 : Int))))) = some (bigN (lossV q s p a), 0) := by
  unfold priceIn at hp ha
  have f : ∀ x : Int, -9223372036854775808 ≤ x → x < 9223372036854775808 → Fit x 90000 := fun x h1 h2 => (Fit.i64 h1 h2).mono (by omega)
  dsimp only
  rw [W_i64 (x := p - a) (by omega) (by omega), W_i64 (x := a - p) (by omega) (by omega), cond_eqB, cond_ltB, cond_ltB, Whole_eq N (by omega) (by omega) (by omega), Option.bind_some, Option.bind_some, Whole_eq N (by omega) (by omega) (by omega), Option.bind_some, Whole_eq N (by omega) (by omega) (by omega), Option.bind_some, Times_eq N (by omega) (f _ (by omega) (by omega)) (f _ (by omega) (by omega)), Option.bind_some, Times_eq N (by omega) (f _ (by omega) (by omega)) (f _ (by omega) (by omega)), Option.bind_some]
  unfold lossV
  by_cases h : s = 2
  · have e : lossD s p a = a - p := by unfold lossD; rw [if_pos h]
    rw [if_pos h, e]
    split <;> rfl
  · have e : lossD s p a = p - a := by unfold lossD; rw [if_neg h]
    rw [if_neg h, e]
    split <;> rfl
theorem rLoss_eq (N : Nat) (hN : 4000000 ≤ N) (o : vtI6) (a : Int) : F60 N o a = some (bigN (lossOf o a).1, (lossOf o a).2) := by
  unfold F60 lossOf
  rw [rOrd_eq, Option.bind_some, cond_not, cond_dec, rprice_eq, Option.bind_some, cond_not, cond_dec, ← bigN_zero]
  by_cases ho : okOrd o
  · rw [if_pos ho]
    by_cases ha : priceIn a
    · rw [if_pos (show 1 ≤ a ∧ a ≤ 1000000000000 from ha), if_pos ⟨ho, ha⟩]
      unfold okOrd okOrd6 at ho
      exact rloss_step N hN ho.2.2.2.2.1 ho.2.2.2.2.2 ha
    · rw [if_neg (show ¬ (1 ≤ a ∧ a ≤ 1000000000000) from ha), if_neg (fun h => ha h.2)]
  · rw [if_neg ho, if_neg (fun h => ho h.1)]
theorem opF_mem {f : Int → Int × Int} {x : vtI3} : ∀ m k, x ∈ opF f m k → ∃ j : Int, x = nz j (f j)
  | 0, _, hx => nomatch hx
  | m + 1, k, hx => by
    rw [opF_succ] at hx
    split at hx
    · rcases List.mem_cons.1 hx with rfl | hx
      · exact ⟨_, rfl⟩
      · exact opF_mem m (k + 1) hx
    · exact opF_mem m (k + 1) hx
theorem opens_zop {l : wtI6} (h : QOrd l) (hl : l.length ≤ 33) (a : Int) : ∀ x ∈ opensOf l a, zOp (x.2.1, x.2.2.1) := fun x hx => by
  obtain ⟨j, rfl⟩ := opF_mem 6 0 hx
  have := bsF_rng h a j
  unfold zIn at this
  show 0 ≤ (bsF l a j).1 ∧ (bsF l a j).1 ≤ 33000000000 ∧ 0 ≤ (bsF l a j).2 ∧ (bsF l a j).2 ≤ 33000000000
  omega
theorem findL_mem (id : Int) : ∀ a : wtI4, (findL id a).2 = true → (findL id a).1 ∈ a
  | [], h => nomatch h
  | x :: t, h => by
    rw [findL_cons] at h ⊢
    by_cases e : x.1 = id
    · rw [if_pos e]; exact List.mem_cons_self ..
    · rw [if_neg e] at h ⊢; exact List.mem_cons_of_mem _ (findL_mem id t h)
theorem lim_in {b : vtBook} {a : Int} (h : (findOf b.2.1 a).2 = true) : 0 ≤ limIn b a ∧ limIn b a ≤ 1000000000000 := by
  unfold limIn accIn
  unfold findOf at h ⊢
  by_cases hk : okAccs b.2.1 = true
  · rw [if_pos hk] at h ⊢
    obtain ⟨i, hi, e⟩ := List.getElem_of_mem (findL_mem a b.2.1 h)
    unfold okAccs at hk
    rw [Bool.and_true] at hk
    have := (of_decide_eq_true hk i hi).1
    rw [List.getD_eq_getElem?_getD, List.getElem?_eq_getElem hi, Option.getD_some, e] at this
    unfold okAcc5 at this
    exact this.2.2.2
  · rw [if_neg hk] at h; nomatch h
theorem okBook_orders {c : vtConfig} {b : vtBook} (h : okBook c b = true) : okOrders b.2.2.2.2.2.1 = true := by
  unfold okBook at h
  simp only [Bool.and_eq_true] at h
  exact h.2.2.2.2.2.1
theorem more_q {b : vtBook} {o : vtI6} (h : okOrders b.2.2.2.2.2.1 = true) (ho : okOrd o) : QOrd (b.2.2.2.2.2.1 ++ [o]) ∧ (b.2.2.2.2.2.1 ++ [o]).length ≤ 33 := by
  obtain ⟨h1, h2⟩ := orders_q h
  refine ⟨fun x hx => ?_, by rw [List.length_append, List.length_singleton]; omega⟩
  rcases List.mem_append.1 hx with hx | hx
  · exact h1 x hx
  · rw [List.mem_singleton.1 hx]; exact ho.2.2.2.2.1
theorem opens_len (l : wtI6) (a : Int) : (opensOf l a).length ≤ 6 := opF_len _ 6 0
theorem more_len (b : vtBook) (o : vtI6) : (moreO b o).length ≤ 6 := opF_len _ 6 0
theorem sgn_pos_iff (x : Int) : 0 < sgn x ↔ 0 < x := by unfold sgn; split <;> (try split) <;> omega
theorem sgn_neg_iff (x : Int) : sgn x < 0 ↔ x < 0 := by unfold sgn; split <;> (try split) <;> omega
theorem Check_eq (N : Nat) (hN : 4000000 ≤ N) (c : vtConfig) {b : vtBook} (w : BookWf b) (o : vtI6) : F57 N c b o = some (checkOf c b o) := by
  unfold F57 checkOf
  rw [Book_eq N hN w, Option.bind_some, cond_not, Ord_eq, Option.bind_some, cond_not, cond_dec, Find_eq N w.a (by omega), Option.bind_some, cond_not, Status_eq N w.m (by omega), Option.bind_some, cond_not, cond_eqB, cond_leB]
  by_cases hB : okBook c b = false
  · rw [hB]; rfl
  rw [Bool.not_eq_false] at hB
  rw [hB, cond_true, if_pos rfl]
  by_cases ho : okOrd o
  · rw [if_pos ho, if_pos ho]
    cases hf : (findOf b.2.1 o.2.1).2 with
    | false => rfl
    | true =>
      rw [cond_true, if_pos rfl]
      show (if stIn b o.2.1 = 1 then _ else _) = _
      by_cases hs : stIn b o.2.1 = 1
      · rw [if_pos hs, if_pos hs]
        show (if (c.1.length : Int) ≤ oI o then _ else _) = _
        by_cases hi : (c.1.length : Int) ≤ oI o
        · rw [if_pos hi, if_pos hi]
        · rw [if_neg hi, if_neg hi]
          have hor := okBook_orders hB
          obtain ⟨hq, h32⟩ := orders_q hor
          have hok := ho
          unfold okOrd okOrd6 at hok
          have h64 := posOf_in w.qs o.2.1
          have hlim := lim_in hf
          have hpl := posOf_len o.2.1 b.2.2.2.1
          have hs' := w.s
          have hml := more_len b o
          have hw := worstOf_rng c (moreO b o) h64
          have ht := topOf_rng c (moreO b o) h64 (oI o)
          have hL := lossN_rng o (b.2.2.2.2.1.getD (oI o).toNat 0)
          have hg := getOf_in w.qr 5 o.2.1
          obtain ⟨hpr, _⟩ := okBook_prices hB
          have h0 : 0 ≤ oI o := hok.2.2.1.1
          rw [Of_eq N w.s (by omega), Option.bind_some, Opens_eq N (by omega) w.o, Option.bind_some, if_pos hor, with_eq N (by omega) (o := o) hok.2.2.2.2.1 (Nat.le_trans (opens_len _ o.2.1) (by decide)) (opens_zop hq (by omega) _), Option.bind_some, withL_opens hq ho]
          show ((F145 N c (posOf b.2.2.2.1 o.2.1) (moreO b o) (oI o)).bind fun r8 => (F25 N (limIn b o.2.1)).bind fun r9 => (F82 N r8.1 r9).bind fun r10 => cond (ltB 0 r10) (some (9 : Int)) ((F102 N c (posOf b.2.2.2.1 o.2.1) (moreO b o)).bind fun r11 => cond (inb (oI o) (List.length b.2.2.2.2.1)) ((F56 N o (List.getD b.2.2.2.2.1 (oI o).toNat (0 : Int))).bind fun r12 => (F74 N r11.1 r12.1).bind fun r13 => (F141 N b.2.2.1 (5 : Int) o.2.1).bind fun r14 => (F140 N r14 r13.1).bind fun r15 => cond (!r15) (some (10 : Int)) (some (0 : Int))) (none))) = some (checkIn c b o)
          unfold In64 at hg
          rw [Top_eq N (by omega) c (by omega) h64 (by omega), Option.bind_some, wOf_eq N (by omega) (by omega), Option.bind_some, wCmp_eq, Option.bind_some, cond_ltB, Worst_eq N (by omega) c (by omega) h64 (by omega), Option.bind_some, inb_t h0 (by omega), cond_true, Loss_eq, Option.bind_some, wAdd_eq N (by unfold In128; omega) (by unfold In128; omega) (by unfold In128; omega), Option.bind_some, GetP_eq N w.r (by omega), Option.bind_some]
          unfold F140 checkIn
          rw [wOf_eq N hg.1 hg.2, Option.bind_some, wCmp_eq, Option.bind_some, Option.bind_some, cond_not, cond_leB]
          have s1 := sgn_pos_iff ((topOf c (posOf b.2.2.2.1 o.2.1) (moreO b o) (oI o)).1 - limIn b o.2.1)
          by_cases h1 : limIn b o.2.1 < (topOf c (posOf b.2.2.2.1 o.2.1) (moreO b o) (oI o)).1
          · rw [if_pos h1, if_pos (by omega)]
          · rw [if_neg h1, if_neg (by omega)]
            have s2 := sgn_neg_iff (getOf b.2.2.1 5 o.2.1 - ((worstOf c (posOf b.2.2.2.1 o.2.1) (moreO b o)).1 + (lossOf o (b.2.2.2.2.1.getD (oI o).toNat 0)).1))
            by_cases h2 : getOf b.2.2.1 5 o.2.1 - (lossOf o (b.2.2.2.2.1.getD (oI o).toNat 0)).1 < (worstOf c (posOf b.2.2.2.1 o.2.1) (moreO b o)).1
            · rw [if_pos h2, if_neg (by omega)]
            · rw [if_neg h2, if_pos (by omega)]
      · rw [if_neg hs, if_neg hs]
  · rw [if_neg ho, if_neg ho]
theorem rworst_eq (N : Nat) (hN : 4000000 ≤ N) (c : vtConfig) {b : vtBook} (w : BookWf b) {o : vtI6} (h : QOrd (b.2.2.2.2.2.1 ++ [o]) ∧ (b.2.2.2.2.2.1 ++ [o]).length ≤ 33) : F126 N c b o.2.1 [o] = some (bigN (worstOf c (posOf b.2.2.2.1 o.2.1) (moreO b o)).1) := by
  unfold F126
  have hl := h.2
  rw [List.length_append, List.length_singleton] at hl
  have hpl := posOf_len o.2.1 b.2.2.2.1
  have hs' := w.s
  have hml := more_len b o
  rw [small_t (by rw [List.length_nil]; omega), cond_true]
  dsimp only
  rw [List.nil_append, small_t (by rw [List.length_singleton]; omega), cond_true, rOf_eq N w.s (by omega), Option.bind_some, ropens_eq N (by omega) h.1 (by omega), Option.bind_some]
  show ((F205 N c (posOf b.2.2.2.1 o.2.1) (moreO b o)).bind fun r5 => some r5.1) = _
  rw [rWorst_eq N (by omega) c (by omega) (posOf_in w.qs o.2.1) (by omega), Option.bind_some]
theorem rCheck_eq (N : Nat) (hN : 5000000 ≤ N) (c : vtConfig) {b : vtBook} (w : BookWf b) (o : vtI6) : F62 N c b o = some (checkOf c b o) := by
  unfold F62 checkOf
  rw [rBook_eq N hN w, Option.bind_some, cond_not, rOrd_eq, Option.bind_some, cond_not, cond_dec, rFind_eq N w.a (by omega), Option.bind_some, cond_not, rStatus_eq N w.m (by omega), Option.bind_some, cond_not, cond_eqB, cond_leB]
  by_cases hB : okBook c b = false
  · rw [hB]; rfl
  rw [Bool.not_eq_false] at hB
  rw [hB, cond_true, if_pos rfl]
  by_cases ho : okOrd o
  · rw [if_pos ho, if_pos ho]
    cases hf : (findOf b.2.1 o.2.1).2 with
    | false => rfl
    | true =>
      rw [cond_true, if_pos rfl]
      show (if stIn b o.2.1 = 1 then _ else _) = _
      by_cases hs : stIn b o.2.1 = 1
      · rw [if_pos hs, if_pos hs]
        show (if (c.1.length : Int) ≤ oI o then _ else _) = _
        by_cases hi : (c.1.length : Int) ≤ oI o
        · rw [if_pos hi, if_pos hi]
        · rw [if_neg hi, if_neg hi]
          have hor := okBook_orders hB
          have hmq := more_q hor ho
          have hl := hmq.2
          rw [List.length_append, List.length_singleton] at hl
          have hok := ho
          unfold okOrd okOrd6 at hok
          have h64 := posOf_in w.qs o.2.1
          have hlim := lim_in hf
          have hpl := posOf_len o.2.1 b.2.2.2.1
          have hs' := w.s
          have hml := more_len b o
          have hw := worstOf_rng c (moreO b o) h64
          have ht := topOf_rng c (moreO b o) h64 (oI o)
          have hL := lossN_rng o (b.2.2.2.2.1.getD (oI o).toNat 0)
          have hg := getOf_in w.qr 5 o.2.1
          obtain ⟨hpr, _⟩ := okBook_prices hB
          have h0 : 0 ≤ oI o := hok.2.2.1.1
          have f : ∀ x : Int, -170141183460469231731687303715884105728 ≤ x → x < 170141183460469231731687303715884105728 → Fit x 900000 := fun x h1 h2 => fit128' ⟨h1, h2⟩
          rw [small_t (by rw [List.length_nil]; omega), cond_true]
          dsimp only
          rw [List.nil_append, small_t (by rw [List.length_singleton]; omega), cond_true, rOf_eq N w.s (by omega), Option.bind_some, ropens_eq N (by omega) hmq.1 (by omega), Option.bind_some, rworst_eq N (by omega) c w hmq]
          show ((F151 N c (posOf b.2.2.2.1 o.2.1) (moreO b o) (oI o)).bind fun r9 => (F87 N (limIn b o.2.1)).bind fun r10 => (F130 N r9.1 r10).bind fun r11 => cond (ltB 0 r11) (some (9 : Int)) (cond (inb (oI o) (List.length b.2.2.2.2.1)) ((F60 N o (List.getD b.2.2.2.2.1 (oI o).toNat (0 : Int))).bind fun r12 => (F38 N b.2.2.1 (5 : Int) o.2.1).bind fun r13 => (F87 N r13).bind fun r14 => (F147 N r14 r12.1).bind fun r15 => (some (bigN (worstOf c (posOf b.2.2.2.1 o.2.1) (moreO b o)).1)).bind fun r16 => (F130 N r15 r16).bind fun r17 => cond (ltB r17 0) (some (10 : Int)) (some (0 : Int))) (none))) = some (checkIn c b o)
          unfold In64 at hg
          rw [rTop_eq N (by omega) c (by omega) h64 (by omega), Option.bind_some, Whole_eq N (by omega) (by omega) (by omega), Option.bind_some, Cmp_eq N (by omega) (f _ (by omega) (by omega)) (f _ (by omega) (by omega)), Option.bind_some, cond_ltB, inb_t h0 (by omega), cond_true, rLoss_eq N (by omega), Option.bind_some, Get_eq N w.r (by omega), Option.bind_some, Whole_eq N (by omega) hg.1 hg.2, Option.bind_some, Less_eq N (by omega) (f _ (by omega) (by omega)) (f _ (by omega) (by omega)), Option.bind_some, Option.bind_some, Cmp_eq N (by omega) (f _ (by omega) (by omega)) (f _ (by omega) (by omega)), Option.bind_some, cond_ltB]
          unfold checkIn
          have s1 := sgn_pos_iff ((topOf c (posOf b.2.2.2.1 o.2.1) (moreO b o) (oI o)).1 - limIn b o.2.1)
          by_cases h1 : limIn b o.2.1 < (topOf c (posOf b.2.2.2.1 o.2.1) (moreO b o) (oI o)).1
          · rw [if_pos h1, if_pos (by omega)]
          · rw [if_neg h1, if_neg (by omega)]
            have s2 := sgn_neg_iff (getOf b.2.2.1 5 o.2.1 - (lossOf o (b.2.2.2.2.1.getD (oI o).toNat 0)).1 - (worstOf c (posOf b.2.2.2.1 o.2.1) (moreO b o)).1)
            by_cases h2 : getOf b.2.2.1 5 o.2.1 - (lossOf o (b.2.2.2.2.1.getD (oI o).toNat 0)).1 < (worstOf c (posOf b.2.2.2.1 o.2.1) (moreO b o)).1
            · rw [if_pos h2, if_pos (by omega)]
            · rw [if_neg h2, if_neg (by omega)]
      · rw [if_neg hs, if_neg hs]
  · rw [if_neg ho, if_neg ho]
end VM
end

section
/- Plain laws: fills of hedge orders. -/
set_option linter.unusedSimpArgs false
namespace VM
open Go VM.F
set_option linter.unusedVariables false

def qIn (q : Int) : Prop := 1 ≤ q ∧ q ≤ 1000000000
instance (q : Int) : Decidable (qIn q) := by unfold qIn; infer_instance
def okHedge4 (a b c d : Int) : Prop := (1 ≤ a ∧ a ≤ 1099511627776) ∧ (0 ≤ b ∧ b < 6) ∧ (c = 1 ∨ c = 2) ∧ qIn d
instance (a b c d : Int) : Decidable (okHedge4 a b c d) := by unfold okHedge4; infer_instance
def okHedge (h : vtI4) : Prop := okHedge4 h.1 h.2.1 h.2.2.1 h.2.2.2.1
instance (h : vtI4) : Decidable (okHedge h) := by unfold okHedge; infer_instance
theorem hQty_eq (N : Nat) (q : Int) : F156 N q = some (decide (qIn q)) := by
  unfold F156
  rw [leB_eq q, leB_some]
  congr 1
  rw [Bool.eq_iff_iff, decide_eq_true_iff]
  unfold qIn
  simp only [Bool.and_eq_true, decide_eq_true_eq]
theorem rRightHedge_eq (N : Nat) (h : vtI4) : F72 N h = some (decide (okHedge h)) := by
  unfold F72
  rw [leB_eq h.2.2.2.1]
  rw [leB_some, eqB_some, eqB_some2, ltB_some, leB_some, leB_some, leB_some]
  congr 1
  rw [Bool.eq_iff_iff, decide_eq_true_iff]
  unfold okHedge okHedge4 qIn
  simp only [Bool.and_eq_true, Bool.or_eq_true, Bool.not_eq_true', decide_eq_true_eq, decide_eq_false_iff_not]
  omega
theorem RightHedge_eq (N : Nat) (h : vtI4) : F67 N h = some (decide (okHedge h)) := by
  rw [← rRightHedge_eq N h]
  unfold F67 F72 F156
  have e : ∀ x : Option Bool, (x.bind fun r => some r) = x := fun x => by cases x <;> rfl
  rw [e]
def fillO (h : vtI4) (a q p : Int) : vtI6 := (h.1, (a, (h.2.1, ((3 - h.2.2.1 : Int), (q, (p, ()))))))
def fillT (h : vtI4) (a q p : Int) : vtI5 := if h.2.2.1 = 1 then ((0 : Int), (a, (h.2.1, (q, (p, ()))))) else (a, ((0 : Int), (h.2.1, (q, (p, ())))))
def fillR (c : vtConfig) (b : vtBook) (h : vtI4) (q : Int) (r : vtBook × Int) : vtBook × vtI4 × Int :=
  if r.2 = 0 then (r.1, (h.1, (h.2.1, (h.2.2.1, ((h.2.2.2.1 - q : Int), ())))), 0) else ((ee2, (ee4, (ee3, (ee3, (eeI, (ee6, ())))))), zz4, r.2)
def fillC (c : vtConfig) (b : vtBook) (h : vtI4) (a q p : Int) : vtBook × vtI4 × Int :=
  if checkOf c b (fillO h a q p) = 0 then fillR c b h q (tradesOf c b [fillT h a q p]) else ((ee2, (ee4, (ee3, (ee3, (eeI, (ee6, ())))))), zz4, checkOf c b (fillO h a q p))
def fillOf (c : vtConfig) (b : vtBook) (h : vtI4) (a q p : Int) : vtBook × vtI4 × Int :=
  if okBook c b then (if okHedge h then (if qIn q then (if priceIn p then (if h.2.2.2.1 < q then ((ee2, (ee4, (ee3, (ee3, (eeI, (ee6, ())))))), zz4, 9) else fillC c b h a q p) else ((ee2, (ee4, (ee3, (ee3, (eeI, (ee6, ())))))), zz4, 1)) else ((ee2, (ee4, (ee3, (ee3, (eeI, (ee6, ())))))), zz4, 1)) else ((ee2, (ee4, (ee3, (ee3, (eeI, (ee6, ())))))), zz4, 1)) else ((ee2, (ee4, (ee3, (ee3, (eeI, (ee6, ())))))), zz4, 1)
theorem Fill_eq (N : Nat) (hN : 4000000 ≤ N) (c : vtConfig) {b : vtBook} (w : BookWf2 b) (h : vtI4) (a q p : Int) : F66 N c b h a q p = some (fillOf c b h a q p) := by
  unfold F66 F66.b fillOf
  rw [Book_eq N hN w.w, Option.bind_some, cond_not, RightHedge_eq, Option.bind_some, cond_not, cond_dec, hQty_eq, Option.bind_some, cond_not, cond_dec, mPriceT_eq, Option.bind_some, cond_not, cond_dec, cond_ltB]
  by_cases hB : okBook c b = false
  · rw [hB]; rfl
  rw [Bool.not_eq_false] at hB
  rw [hB, cond_true, if_pos rfl]
  by_cases hh : okHedge h
  · rw [if_pos hh, if_pos hh]
    by_cases hq : qIn q
    · rw [if_pos hq, if_pos hq]
      by_cases hp : priceIn p
      · rw [if_pos hp, if_pos hp]
        by_cases hl : h.2.2.2.1 < q
        · rw [if_pos hl, if_pos hl]
        · rw [if_neg hl, if_neg hl]
          have hh' := hh
          unfold okHedge okHedge4 at hh'
          have hg : ∀ s : Int, s = 1 ∨ s = 2 → W .i64 (3 - s) = 3 - s := fun s hs => W_i64 (by omega) (by omega)
          have hg2 : ∀ x : Int, qIn x → qIn q → W .i64 (x - q) = x - q := fun x hx hq => by unfold qIn at *; exact W_i64 (by omega) (by omega)
          rw [hg _ hh'.2.2.1]
          show ((F57 N c b (fillO h a q p)).bind fun r6 => _) = some (fillC c b h a q p)
          rw [Check_eq N hN c w.w, Option.bind_some, cond_not, cond_eqB]
          unfold fillC
          by_cases h0 : checkOf c b (fillO h a q p) = 0
          · rw [if_pos h0, if_pos h0, cond_eqB]
            have fin : ∀ t : vtI5, t = fillT h a q p → F66.j12 N q c b h (ee2, (ee4, (ee3, (ee3, (eeI, (ee6, ())))))) zz4 t = some (fillR c b h q (tradesOf c b [fillT h a q p])) := fun t e => by
              subst e
              unfold F66.j12 F66.j12b fillR
              rw [Trades_eq N hN c w (by rw [List.length_singleton]; omega), Option.bind_some, cond_not, cond_eqB, hg2 _ hh'.2.2.2 hq]
              split <;> rfl
            by_cases h1 : h.2.2.1 = 1
            · rw [if_pos h1]; exact fin _ (by unfold fillT; rw [if_pos h1])
            · rw [if_neg h1]; exact fin _ (by unfold fillT; rw [if_neg h1])
          · rw [if_neg h0, if_neg h0]
      · rw [if_neg hp, if_neg hp]
    · rw [if_neg hq, if_neg hq]
  · rw [if_neg hh, if_neg hh]
theorem rFill_eq (N : Nat) (hN : 5000000 ≤ N) (c : vtConfig) {b : vtBook} (w : BookWf2 b) (h : vtI4) (a q p : Int) : F70 N c b h a q p = some (fillOf c b h a q p) := by
  unfold F70 F70.b fillOf
  rw [rBook_eq N hN w.w, Option.bind_some, cond_not, rRightHedge_eq, Option.bind_some, cond_not, cond_dec, cond_ltB, cond_ltB, cond_ltB, cond_ltB, cond_ltB, cond_ltB, cond_ltB]
  by_cases hB : okBook c b = false
  · rw [hB]; rfl
  rw [Bool.not_eq_false] at hB
  rw [hB, cond_true, if_pos rfl]
  by_cases hh : okHedge h
  · rw [if_pos hh, if_pos hh]
    by_cases hq : qIn q
    · have hq' := hq
      unfold qIn at hq'
      rw [if_pos hq, if_neg (show ¬ q < 1 by omega), if_neg (show ¬ 1000000000 < q by omega)]
      by_cases hp : priceIn p
      · have hp' := hp
        unfold priceIn at hp'
        rw [if_pos hp, if_neg (show ¬ p < 1 by omega), if_neg (show ¬ 1000000000000 < p by omega)]
        by_cases hl : h.2.2.2.1 < q
        · rw [if_pos hl, if_pos hl]
        · rw [if_neg hl, if_neg hl]
          have hh' := hh
          unfold okHedge okHedge4 at hh'
          have hg : ∀ s : Int, s = 1 ∨ s = 2 → W .i64 (3 - s) = 3 - s := fun s hs => W_i64 (by omega) (by omega)
          have hg2 : ∀ x : Int, qIn x → qIn q → W .i64 (x - q) = x - q := fun x hx hq => by unfold qIn at *; exact W_i64 (by omega) (by omega)
          have hout : ¬ (1 ≤ a ∧ a ≤ 24) → fillC c b h a q p = ((ee2, (ee4, (ee3, (ee3, (eeI, (ee6, ())))))), zz4, 1) := fun hn => by
            have : checkOf c b (fillO h a q p) = 1 := by
              unfold checkOf
              rw [if_pos hB, if_neg]
              intro ho
              unfold okOrd okOrd6 at ho
              exact hn ho.2.1
            unfold fillC
            rw [this]; rfl
          by_cases ha : 1 ≤ a ∧ a ≤ 24
          · rw [if_neg (show ¬ a < 1 by omega), if_neg (show ¬ 24 < a by omega), hg _ hh'.2.2.1]
            show ((F62 N c b (fillO h a q p)).bind fun r6 => _) = some (fillC c b h a q p)
            rw [rCheck_eq N hN c w.w, Option.bind_some, cond_not, cond_eqB]
            unfold fillC
            by_cases h0 : checkOf c b (fillO h a q p) = 0
            · rw [if_pos h0, if_pos h0, cond_eqB]
              have fin : ∀ t : vtI5, t = fillT h a q p → F70.j14 N q c b h (ee2, (ee4, (ee3, (ee3, (eeI, (ee6, ())))))) zz4 t = some (fillR c b h q (tradesOf c b [fillT h a q p])) := fun t e => by
                subst e
                unfold F70.j14 F70.j14b fillR
                rw [rTrades_eq N hN c w (by rw [List.length_singleton]; omega), Option.bind_some, cond_not, cond_eqB, hg2 _ hh'.2.2.2 hq]
                split <;> rfl
              have hor : ∀ s : Int, s = 1 ∨ s = 2 → (s = 2 ↔ ¬ s = 1) := fun s hs => by omega
              by_cases h1 : h.2.2.1 = 1
              · rw [if_neg (fun k => (hor _ hh'.2.2.1).1 k h1)]; exact fin _ (by unfold fillT; rw [if_pos h1])
              · rw [if_pos ((hor _ hh'.2.2.1).2 h1)]; exact fin _ (by unfold fillT; rw [if_neg h1])
            · rw [if_neg h0, if_neg h0]
          · rw [hout ha]
            by_cases h1 : a < 1
            · rw [if_pos h1]
            · rw [if_neg h1, if_pos (show 24 < a by omega)]
      · rw [if_neg hp]
        unfold priceIn at hp
        by_cases h1 : p < 1
        · rw [if_pos h1]
        · rw [if_neg h1, if_pos (show 1000000000000 < p by omega)]
    · rw [if_neg hq]
      unfold qIn at hq
      by_cases h1 : q < 1
      · rw [if_pos h1]
      · rw [if_neg h1, if_pos (show 1000000000 < q by omega)]
  · rw [if_neg hh, if_neg hh]
end VM
end

section
/- Plain laws: HedgeAll, whole. -/
set_option linter.unusedSimpArgs false
namespace VM
open Go VM.F Go.RowKit
set_option linter.unusedVariables false

theorem WideB_eq (N : Nat) (hN : 4000000 ≤ N) {v : Int} (h : In128 v) : F131 N (wideN v) = some (bigN v) := by
  unfold F131 wideN
  unfold In128 at h
  dsimp only
  have hv : VD [(0 : Int), 0, 1] := VD.cons (by omega) (by omega) (VD.cons (by omega) (by omega) (VD.cons (by omega) (by omega) VD.nil))
  have hval : valD [(0 : Int), 0, 1] = 18446744073709551616 := by decide
  have hl : (dig (v % 18446744073709551616).toNat).length ≤ 2 := dig_len 2 _ (by
    rw [show (4294967296 : Nat) ^ 2 = 18446744073709551616 from rfl]; omega)
  have f2 : ∀ x : Int, (x.natAbs : Int) ≤ 18446744073709551616 → Fit x 90000 := fun x hx => by
    refine Fit.mono (j := 3) ?_ (by omega)
    unfold Fit
    rw [show (4294967296 : Nat) ^ 3 = 79228162514264337593543950336 from rfl]
    omega
  rw [Whole_eq N (by omega) (by omega) (by omega), Option.bind_some, made_eq N false hv (by simp; omega) (by simp), Option.bind_some, if_neg Bool.false_ne_true, hval, Times_eq N hN (f2 _ (by omega)) (f2 _ (by omega)), Option.bind_some, size_eq N (by omega) (by omega) (by omega), Option.bind_some, made_eq N false (dig_vd _) (by omega) (by omega), Option.bind_some, if_neg Bool.false_ne_true, dig_val, Int.toNat_of_nonneg (by omega), Plus_eq N hN (fit128' (by unfold In128; omega)) (fit128' (by unfold In128; omega)), Option.bind_some, show v / 18446744073709551616 * 18446744073709551616 + v % 18446744073709551616 = v by omega]
theorem hWide_eq (N : Nat) (hN : 4000000 ≤ N) {v : Int} (h : In128 v) : F51 N (wideN v) (bigN v) = some true := by
  unfold F51
  rw [WideB_eq N hN h, Option.bind_some, Cmp_eq N hN (fit128' h) (fit128' h), Option.bind_some, Int.sub_self, show sgn 0 = 0 from rfl, eqB_self]
theorem hHedges_eq (N : Nat) {l : wtI4} (hl : l.length ≤ 100000) (hN : 200000 ≤ N) : F71 N l l = some true := by
  unfold F71 F71.b
  rw [eqB_self, Bool.not_true, cond_false]
  refine same_loop (F := fun n i => F71.l4 N n l l i) (len := l.length) (fun n i hi hr => ?_) (fun n => ?_) l.length N 0 (by omega) (by omega) (by omega)
  · unfold F71.l4 F71.l4b
    rw [ltB_t (by omega), cond_true, inb_t (by omega) (by omega), cond_true, cond_true, teq_i4, Bool.not_true, cond_false, W_i64 (x := (i : Int) + 1) (by omega) (by omega), natCast_succ' i]
    exact hr
  · unfold F71.l4 F71.l4b
    rw [ltB_f (by omega), cond_false]
theorem ordL_len (c : vtConfig) (b : vtBook) (next : Int) : ∀ m k out, (ordL c b next m k out).length ≤ out.length + m
  | 0, _, _ => Nat.le_refl _
  | m + 1, k, out => by
    rw [ordL_succ]
    have h1 := ordL_len c b next m (k + 1) out
    split
    · omega
    · split
      · omega
      · refine Nat.le_trans (ordL_len c b next m (k + 1) _) ?_
        rw [List.length_append, List.length_singleton]; omega
theorem orders_len (c : vtConfig) (b : vtBook) (next : Int) : (ordersOf c b next).1.length ≤ 100000 := by
  unfold ordersOf
  split
  · split
    · exact Nat.le_trans (ordL_len c b next 4 0 []) (by decide)
    · exact Nat.zero_le _
  · exact Nat.zero_le _
theorem trades_short {c : vtConfig} {b : vtBook} (w : BookWf b) (l : wtI5) : Short (tradesOf c b l).1 := by
  unfold tradesOf
  repeat' split
  all_goals first | exact moved_short w _ _ | exact short_nil
theorem fill_short {c : vtConfig} {b : vtBook} (w : BookWf b) (h : vtI4) (a q p : Int) : Short (fillOf c b h a q p).1 := by
  have hr : ∀ r : vtBook × Int, Short r.1 → Short (fillR c b h q r).1 := fun r hr => by
    unfold fillR
    split
    · exact hr
    · exact short_nil
  have hc : Short (fillC c b h a q p).1 := by
    unfold fillC
    split
    · exact hr _ (trades_short w _)
    · exact short_nil
  unfold fillOf
  repeat' split
  all_goals first | exact hc | exact short_nil
theorem htold_loop (N : Nat) (hN : 4000000 ≤ N) {x9 : vtI4} {x b : vtBook} (f : Int → Int) (hf : ∀ k, In128 (f k)) {r : Bool}
    (he : ∀ (k9 : F18.t_l10) (ws : wtWide) (bs : wtBig), F18.l10b N k9 x9 ws bs x b (ws.length : Int) = some r) : F18.l10 N N x9 (wides4 f) (bigs4 f) x b 0 = some r := by
  have hwl : (wides4 f).length = 4 := rfl
  have hbl : (bigs4 f).length = 4 := rfl
  have key : ∀ (m n i : Nat), i + m = 4 → m < n → F18.l10 N n x9 (wides4 f) (bigs4 f) x b (i : Int) = some r := by
    intro m n
    induction n generalizing m with
    | zero => intro i _ hn; omega
    | succ n ih =>
      intro i hi hn
      by_cases h : i < 4
      · unfold F18.l10 F18.l10b
        rw [hwl, hbl, ltB_t (by omega), cond_true, inb_t (by omega) (by omega), cond_true, cond_true, wides4_at f (by omega), bigs4_at f (by omega), hWide_eq N hN (hf _), Option.bind_some, Bool.not_true, cond_false, W_i64 (x := (i : Int) + 1) (by omega) (by omega), natCast_succ' i]
        exact ih (m - 1) (i + 1) (by omega) (by omega)
      · have e : i = 4 := by omega
        subst e
        unfold F18.l10
        exact he _ (wides4 f) (bigs4 f)
  exact key 4 N 0 (by omega) (by omega)
theorem HTold_eq (N : Nat) (hN : 5000000 ≤ N) (c : vtConfig) (hc : In64 (hMin c)) {b : vtBook} (w : BookWf2 b) (h : vtI4) (next a q p : Int) : F18 N c b h next a q p = some true := by
  unfold F18 F18.b
  have sh := fill_short (c := c) w.w h a q p
  rw [Nets_eq N (by omega) c w.w, Option.bind_some, rNets_eq N hN c w.w, Option.bind_some, HOrders_eq N (by omega) c hc w.w, Option.bind_some, rHedges_eq N hN c hc w.w, Option.bind_some, Fill_eq N (by omega) c w, Option.bind_some, rFill_eq N hN c w, Option.bind_some, eqB_self, eqB_self, hHedges_eq N (orders_len c b next) (by omega), Option.bind_some, teq_i4]
  have he : ∀ (k9 : F18.t_l10) (ws : wtWide) (bs : wtBig), F18.l10b N k9 h ws bs (fillOf c b h a q p).1 (fillOf c b h a q p).1 (ws.length : Int) = some true := fun k9 ws bs => by
    unfold F18.l10b
    rw [ltB_f (by omega), cond_false, hBook_eq N (by omega) sh.m sh.a sh.r sh.s sh.p sh.o, Option.bind_some, cond_true, RightHedge_eq, Option.bind_some, rRightHedge_eq, Option.bind_some, teq_bool, beq_self_eq_true]
  by_cases hB : okBook c b = true
  · rw [if_pos hB, if_pos hB]
    dsimp only
    rw [eqB_self, show ((wides4 (netsOf c b)).length : Int) = ((bigs4 (netsOf c b)).length : Int) from rfl, eqB_self, Bool.not_true, cond_false, cond_false, cond_false, cond_false, cond_false, cond_false]
    exact htold_loop N (by omega) (netsOf c b) (fun k => (nets_128 w.w hB k).1) he
  · rw [if_neg hB, if_neg hB]
    dsimp only
    rw [eqB_self, List.length_nil, List.length_nil, eqB_self, Bool.not_true, cond_false, cond_false, cond_false, cond_false, cond_false, cond_false]
    obtain ⟨m, rfl⟩ : ∃ m, N = m + 1 := ⟨N - 1, by omega⟩
    unfold F18.l10
    exact he _ [] []

def hC : vtConfig := ([((0 : Int), ((100 : Int), ((1 : Int), ((0 : Int), ())))), ((0 : Int), ((7 : Int), zz2))], ((0 : Int), ((0 : Int), ((0 : Int), ((0 : Int), ((1 : Int), ((10 : Int), ())))))))
def hR : wtI3 := [((1 : Int), ((0 : Int), ((-90 : Int), ()))), ((5 : Int), ((1 : Int), ((90 : Int), ())))]
def hS : wtI3 := [((0 : Int), ((0 : Int), ((5 : Int), ()))), ((0 : Int), ((1 : Int), ((20 : Int), ()))), ((1 : Int), ((0 : Int), ((-5 : Int), ()))), ((1 : Int), ((1 : Int), ((-20 : Int), ())))]
def hB : vtBook := ([((1 : Int), ((1 : Int), ()))], ([((1 : Int), ((1 : Int), ((1 : Int), ((50 : Int), ()))))], (hR, (hS, ([(100 : Int), (7 : Int)], (ee6, ()))))))
def hO : vtI4 := ((4 : Int), ((0 : Int), ((2 : Int), ((6 : Int), ()))))
theorem hW : BookWf2 hB := ⟨⟨by decide, by decide, by decide, by decide, by decide, by decide, mem_q64 (l := hR) (by decide), mem_q64 (l := hS) (by decide)⟩, by decide, by decide⟩
theorem hOk : okBook hC hB = true := by kernel_rfl
theorem hN0 : netsOf hC hB 0 = 640 := by kernel_rfl
theorem hOr : ordersOf hC hB 4 = ([hO], 0) := by kernel_rfl
theorem hF2 : (fillOf hC hB hO 1 2 99).2.2 = 0 := by kernel_rfl
theorem hF2q : (fillOf hC hB hO 1 2 99).2.1.2.2.2.1 = 4 := by kernel_rfl
theorem hF2h : heldOf (fillOf hC hB hO 1 2 99).1.2.2.2.1 0 0 = 3 := by kernel_rfl
theorem hF2g : getOf (fillOf hC hB hO 1 2 99).1.2.2.1 2 0 = -2 := by kernel_rfl
theorem hF7 : (fillOf hC hB hO 1 7 99).2.2 = 9 := by kernel_rfl
theorem hRi : okHedge hO := by decide
theorem hWn : (wideN 640).2.1 = 640 := by kernel_rfl
theorem hknown_eq (N : Nat) (hN : 5000000 ≤ N) : F17 N = some true := by
  unfold F17 F63
  rw [Option.bind_some]
  show (F64 N hC hB).bind _ = _
  rw [Nets_eq N (by omega) hC hW.w, Option.bind_some, hOk, if_pos rfl]
  show (F65 N hC hB 4).bind _ = _
  rw [HOrders_eq N (by omega) hC (by decide) hW.w, Option.bind_some, hOr]
  have sh := fill_short (c := hC) hW.w hO 1 2 99
  dsimp only
  have hl1 : ([hO] : wtI4).length = 1 := rfl
  have hl4 : (wides4 (netsOf hC hB)).length = 4 := rfl
  rw [hl1, hl4, eqB_self, Bool.not_true, cond_false, cond_false, eqB_t (x := ((4 : Nat) : Int)) (y := 4) (by omega), eqB_t (x := ((1 : Nat) : Int)) (y := 1) (by omega), Bool.not_true, cond_false, cond_false, inb_t (i := 0) (n := 1) (by omega) (by omega), inb_t (i := 0) (n := 4) (by omega) (by omega), cond_true]
  show (F66 N hC hB hO 1 2 99).bind _ = _
  rw [Fill_eq N (by omega) hC hW, Option.bind_some, cond_true]
  show (F66 N hC hB hO 1 7 99).bind _ = _
  rw [Fill_eq N (by omega) hC hW, Option.bind_some, cond_true]
  show cond (eqB (wideN (netsOf hC hB 0)).2.1 640) (cond true (cond (teq tI4 hO hO) (cond (eqB (fillOf hC hB hO 1 2 99).2.2 0) (cond (eqB (fillOf hC hB hO 1 2 99).2.1.2.2.2.1 4) ((F37 N (fillOf hC hB hO 1 2 99).1.2.2.2.1 0 0).bind fun r6 => cond (eqB r6 3) ((F38 N (fillOf hC hB hO 1 2 99).1.2.2.1 2 0).bind fun r7 => cond (eqB r7 (-2)) (cond (eqB (fillOf hC hB hO 1 7 99).2.2 9) (cond true ((F67 N hO).bind fun r8 => some r8) none) (some false)) (some false)) (some false)) (some false)) (some false)) (some false)) none) (some false) = some true
  rw [hN0, hWn, eqB_self, cond_true, cond_true, show teq tI4 hO hO = true from teq_i4 hO, cond_true, hF2, eqB_self, cond_true, hF2q, eqB_self, cond_true, Held_eq N sh.s (by omega), Option.bind_some, hF2h, eqB_self, cond_true, Get_eq N sh.r (by omega), Option.bind_some, hF2g, eqB_self, cond_true, hF7, eqB_self, cond_true, cond_true, RightHedge_eq, Option.bind_some, decide_eq_true hRi]

namespace Pure
theorem HedgeAll (c : vtConfig) (b : vtBook) (h : vtI4) (next acc q p : Int) (hw : WFs [tConfig, tBook, tI4, .int .i64, .int .i64, .int .i64, .int .i64] (c, b, h, next, acc, q, p)) : ∃ N, F6 N c b h next acc q p = some true := by
  refine ⟨6000000, ?_⟩
  obtain ⟨h1, h2, _⟩ := hw
  have h1 : WF tConfig c := h1
  have h2 : WF tBook b := h2
  have hc : In64 (hMin c) := in64_of h1.2.2.2.2.2.2.1
  have hr : Qty64 b.2.2.1 := qty_wf h2.2.2.1
  have hs : Qty64 b.2.2.2.1 := qty_wf h2.2.2.2.1
  unfold F6
  rw [hknown_eq 6000000 (by omega), Option.bind_some, Bool.not_true, cond_false]
  simp only [cond_ltB]
  repeat' (split; rfl)
  rw [HTold_eq 6000000 (by omega) c hc ⟨⟨by omega, by omega, by omega, by omega, by omega, by omega, hr, hs⟩, by omega, by omega⟩ h next acc q p]
  rfl
end Pure
end VM
end

