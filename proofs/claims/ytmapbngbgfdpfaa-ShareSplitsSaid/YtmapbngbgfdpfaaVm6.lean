/- A part of the proof of the six laws of layer 3: a machine that reads a function of the program as an equation between values. -/
import Derived.Test.YtmapbngbgfdpfaaVm5
set_option linter.all false
section
/- The value machine: slices.Insert's contract. -/
set_option linter.unusedVariables false
namespace VM
open Go Go.Shelf Go.RowKit Go.Lib Go.Proofs
variable {P : Program} {ρ : Ren}

theorem grow_run {w : World} {t e' : TypeId} {e : Ty} (hu : P.underlying t = some (.slice e')) (hle : Lay P e e') {n m cap cp : Nat} {olds news : List Value} {base : Option Addr} {a' : Addr} (hbase : base = none → n = 0 ∧ cap = 0)
    (hlo : olds.length = n * e.size) (ho : ∀ b, base = some b → ∀ j u, olds[j]? = some u → w.cell? (b.add j) = some u) (hln : news.length = m * e.size) (hn : ∀ j u, news[j]? = some u → w.cell? (a'.add j) = some u)
    (hg : cap < n + m) (hs : n + m < big) :
    ∃ cap' rest, (∀ ty, (Builtin.append_ #[t, t] ty #[.slice base n cap, .slice (some a') m cp]).run P w = .ok (.slice (some ⟨w.heap.size, 0, none⟩) (n + m) cap') (w.drew.alloc (.cells (olds ++ news ++ rest).toArray e'))) ∧
      n + m ≤ cap' ∧ cap' ≤ maxLen ∧ rest.length = (cap' - (n + m)) * e.size := by
  obtain ⟨i, hi, hsz, hz, hby⟩ := hle.base
  have hzs : (ofCells e e.zcells).cells.size = e.size := by rw [← Array.length_toList, ofCells_zero, length_zcells]
  have h63 : n + m ≤ maxLen := by simp only [big, maxLen] at hs ⊢; omega
  have hfit : (n + m) * i.bytes ≤ 140737488355328 := by
    have : (n + m) * i.bytes ≤ 68719476736 * 2048 := Nat.mul_le_mul (by simp only [big] at hs; omega) hby
    omega
  refine ⟨grownCap w (n + m) cap e', (Builtin.zeroCells (ofCells e e.zcells).cells (grownCap w (n + m) cap e' - (n + m))).toList, fun ty => ?_, grownCap_ge _ _ _ _, grownCap_le_maxLen _ _ _ _ h63, ?_⟩
  · cases base with
    | none =>
      obtain ⟨rfl, rfl⟩ := hbase rfl
      have ho0 : olds = [] := List.eq_nil_of_length_eq_zero (by rw [hlo]; simp)
      subst ho0
      have := run_append_nil (P := P) w t ty e' i _ hu hi hz a' m cp news (by rw [hln, hsz]) hn (by simpa using hg) (by simp only [big] at hs; omega) (by simp at hfit; omega)
      simp only [Nat.zero_add, List.nil_append]
      rw [this]
      congr 2
      apply congrArg (fun z => Obj.cells z e' (0, 0))
      apply Array.ext'; simp
    | some b =>
      have := run_append_grow (P := P) w t ty e' i _ hu hi hz b n cap olds (by rw [hlo, hsz]) (ho b rfl) a' m cp news (by rw [hln, hsz]) hn hg (by simp only [big] at hs; omega) (growslice_fits hg hfit)
      rw [this]
      congr 2
      apply congrArg (fun z => Obj.cells z e' (0, 0))
      apply Array.ext'; simp
  · rw [Array.length_toList, size_zeroCells, hzs]

theorem zeros_run {w : World} {t tn e' : TypeId} {e : Ty} (hu : P.underlying t = some (.slice e')) (htn : P.underlying tn = some (.int .i64)) (hle : Lay P e e') (hsol : 0 < e.size) {n k cap : Nat} {olds : List Value} {b : Addr}
    (hlo : olds.length = n * e.size) (ho : ∀ j u, olds[j]? = some u → w.cell? (b.add j) = some u) (hk : 0 < k) (hg : cap < n + k) (hs : n + k < big) :
    ∃ cap' rest, (∀ ty, (Builtin.append_ #[t, tn] ty #[.slice (some b) n cap, .int .i64 k]).run P w = .ok (.slice (some ⟨w.heap.size, 0, none⟩) (n + k) cap') (w.drew.alloc (.cells (olds ++ rest).toArray e'))) ∧
      n + k ≤ cap' ∧ cap' ≤ maxLen ∧ rest.length = (cap' - n) * e.size := by
  obtain ⟨i, hi, hsz, hz, hby⟩ := hle.base
  have hzs : (ofCells e e.zcells).cells.size = e.size := by rw [← Array.length_toList, ofCells_zero, length_zcells]
  have h63 : n + k ≤ maxLen := by simp only [big, maxLen] at hs ⊢; omega
  have hfit : (n + k) * i.bytes ≤ 140737488355328 := by
    have : (n + k) * i.bytes ≤ 68719476736 * 2048 := Nat.mul_le_mul (by simp only [big] at hs; omega) hby
    omega
  have hkb : k * i.bytes ≤ 281474976710656 := by
    have : k * i.bytes ≤ (n + k) * i.bytes := Nat.mul_le_mul_right _ (by omega)
    omega
  have hge := grownCap_ge w (n + k) cap e'
  refine ⟨grownCap w (n + k) cap e', (Builtin.zeroCells (ofCells e e.zcells).cells k ++ Builtin.zeroCells (ofCells e e.zcells).cells (grownCap w (n + k) cap e' - (n + k))).toList, fun ty => ?_, hge, grownCap_le_maxLen _ _ _ _ h63, ?_⟩
  · have hold : (Builtin.firstCells i.size n (.slice (some b) n cap)).run P w.drew = .ok olds.toArray w.drew := run_firstCells_some w.drew i.size n b n cap olds (by rw [hlo, hsz]) (fun j u hj => ho j u hj)
    have := Lib.run_append_grow_zeros w t tn ty e' i _ .i64 .i64 hu htn hi hz (some b) n cap olds hold k hk (by rw [hsz]; exact hsol) hg (by simp only [big] at hs; omega) hkb (growslice_fits hg hfit)
    rw [this]
    congr 2
    apply congrArg (fun z => Obj.cells z e' (0, 0))
    apply Array.ext'; simp
  · rw [Array.toList_append, List.length_append, Array.length_toList, Array.length_toList, size_zeroCells, size_zeroCells, hzs, ← Nat.add_mul]
    congr 1; omega

/-- Beside the walk's own facts: slices.overlaps. -/
structure OvP (P : Program) (ρ : Ren) (fo : Func) : Prop where
  hf : P.funcs[ρ.f 29]? = some fo
  name : (fo.name == "runtime.NumGoroutine") = false
  body : fo.body.isNone = true
  next : Extern.findNext fo = none
  find : Extern.find fo = some (Extern.SlicesOverlaps.overlaps #[ρ.t 24, ρ.t 24] #[ρ.t 4])

theorem insert_sum {e : Ty} {f : FuncId} {fn fo : Func} (L : InsP P e ρ f fn fo) (O : OvP P ρ fo) (hname : (fn.name == "runtime.NumGoroutine") = false) (hbody : (Body2.n22 ρ).body.isNone = false) (N : Nat) : SumOk P f (insertS e N) := by
  refine ⟨(fun h => by cases h), rfl, fun M0 w vs x y hlim hA hnd hdis hy => ?_⟩
  obtain ⟨l, i, v⟩ := x
  have hy' : insertL N l i v = some y := hy
  clear hy
  simp only [insertS, ArgsR] at hA
  obtain ⟨v0, vs1, rfl, h0, v1, vs2, rfl, h1, v2, vs3, rfl, h2, rfl⟩ := hA
  simp only [insertL] at hy'
  split at hy'
  case isFalse => cases hy'
  rename_i hc
  cases hy'
  obtain ⟨hi0, hil, hv1, hbig⟩ := hc
  obtain ⟨i, rfl⟩ := Int.eq_ofNat_of_zero_le hi0
  have hil' : i ≤ l.length := by omega
  simp only [A1, hpH, hpT, V, Ty.isAgg, Bool.false_eq_true, if_false, Rd, List.cons.injEq, and_true] at h0 h1 h2
  subst h1
  have hk := L.solid
  replace hv1 : List.length (α := e.den) v = 1 := hv1
  rcases own_inv h2 with ⟨hnil, _⟩ | ⟨b2, cs2, t2, cap2, hv2, hg2, hM2, hc2, hl2, hm2, hs2, hr2⟩
  · rw [hnil] at hv1; cases hv1
  replace hv2 : v2 = .slice (some ⟨b2, 0, none⟩) 1 cap2 := by rw [hv2]; congr 1
  subst hv2
  have hcs2 : e.size ≤ cs2.toList.length := by
    rw [Array.length_toList (xs := cs2), hs2]
    exact Nat.le_mul_of_pos_left _ hc2
  obtain ⟨news, hnews⟩ : ∃ news, news = cs2.toList.take e.size := ⟨_, rfl⟩
  have hnl : news.length = 1 * e.size := by rw [hnews, List.length_take, Nat.one_mul]; omega
  have hnr : RdL w (fun b => M0 b ∨ b ∈ hands (insertS e N).args [v0, .int .i64 (i : Int), .slice (some ⟨b2, 0, none⟩) 1 cap2]) e news v := by
    rw [hnews]; exact hr2.take (by rw [hv1, Nat.one_mul]; exact Nat.le_refl _)
  have hnc : ∀ j u, news[j]? = some u → w.cell? ((⟨b2, 0, none⟩ : Addr).add j) = some u := by
    have := cells_of_row hg2 0 e.size
    rw [List.drop_zero] at this
    rw [hnews]; exact this
  have hn1 : ∀ u ∈ news, u.oneCell' = true := by
    have := hnr 0 (by omega)
    rw [Nat.zero_mul, List.drop_zero, List.take_of_length_le (by omega)] at this
    exact this.oneCell
  have hb2 : blk (.slice (some ⟨b2, 0, none⟩) 1 cap2) = some b2 := by simp [blk]; omega
  replace hbig : List.length (α := e.den) l + 1 < big := hbig
  have hyl : (List.take i l ++ (v ++ List.drop i l)).length = l.length + 1 := by rw [List.length_append, List.length_append, List.length_take, List.length_drop, hv1]; omega
  have hbn : (insFn ρ fn).body.isNone = false := hbody
  refine does_of_calls L.hf hname hbn ?_
  rcases own_inv h0 with ⟨rfl, ad, rfl⟩ | ⟨b1, cs1, t1, cap1, rfl, hg1, hM1, hc1, hl1, hm1, hs1, hr1⟩
  · -- nothing was there
    have hi : i = 0 := by simpa using hil'
    subst hi
    obtain ⟨cap', rest, hrun, hc', hm', hrl⟩ := grow_run (P := P) (w := w) L.t24 L.lay (n := 0) (m := 1) (cap := 0) (cp := cap2) (olds := []) (news := news) (base := ad) (a' := ⟨b2, 0, none⟩) (fun _ => ⟨rfl, rfl⟩) (by simp) (fun _ _ j u hj => by simp at hj) hnl hnc (by omega) (by simp only [big]; omega)
    refine (ins_end L w ad 0 0 1 cap2 ⟨b2, 0, none⟩ _ _ (by omega) (Nat.le_refl _) hrun).mono ?_
    rintro e1 w' ⟨rfl, rfl⟩
    refine ⟨_, rfl, ?_⟩
    simp only [Nat.zero_add] at hc' hrl
    have hv : v = v ++ [] := by simp
    have := one_own (e := e) (rb := w.heap.size) (cap := cap') (l := v) (t := ρ.t 9) (w := w) (w' := w.drew.alloc (.cells ([] ++ news ++ rest).toArray (ρ.t 9))) hlim hdis (fun b hb _ => alloc_old w.drew _ hb) (by rw [alloc_size]; exact Nat.le_succ _) (fun h => absurd h (Nat.lt_irrefl _)) rfl rfl rfl (alloc_new w.drew _) (by omega) (by omega) hm'
      (by simp only [List.nil_append, List.size_toArray, List.length_append, hnl, hrl, ← Nat.add_mul]; congr 1; omega) (by simpa using hnr.more (cs' := rest) (by rw [hv1, hnl]; exact Nat.le_refl _))
    rw [hv1] at this
    simpa [insertS, iosOf, AM.isIo] using this
  · have hb1 : blk (.slice (some ⟨b1, 0, none⟩) l.length cap1) = some b1 := by simp [blk]; omega
    have hh : hands (insertS e N).args [.slice (some ⟨b1, 0, none⟩) l.length cap1, .int .i64 (i : Int), .slice (some ⟨b2, 0, none⟩) 1 cap2] = [b1, b2] := by simp [insertS, hands, hand1, hb1, hb2]
    rw [hh] at hnd hdis hnr ⊢
    replace hr1 : RdL w (fun b => M0 b ∨ b ∈ [b1, b2]) e cs1.toList l := by rw [← hh]; exact hr1
    have hne : b1 ≠ b2 := by simpa using hnd
    have hlt1 : b1 < w.heap.size := (Array.getElem?_eq_some_iff.1 hg1).1
    have hlt2 : b2 < w.heap.size := (Array.getElem?_eq_some_iff.1 hg2).1
    have hlk : l.length * e.size ≤ cs1.toList.length := by rw [Array.length_toList (xs := cs1), hs1]; exact Nat.mul_le_mul_right _ hl1
    have hik : i * e.size ≤ l.length * e.size := Nat.mul_le_mul_right _ hil'
    obtain ⟨A, hAe⟩ : ∃ A, A = cs1.toList.take (i * e.size) := ⟨_, rfl⟩
    obtain ⟨mid, hmid⟩ : ∃ mid, mid = (cs1.toList.drop (i * e.size)).take ((l.length - i) * e.size) := ⟨_, rfl⟩
    have hAl : A.length = i * e.size := by rw [hAe, List.length_take]; omega
    have hml : mid.length = (l.length - i) * e.size := by
      rw [hmid, List.length_take, List.length_drop, Nat.sub_mul]; omega
    have hAr := hr1.takeL i
    have hmr := hr1.dropL i
    rw [← hAe] at hAr
    rw [← hmid] at hmr
    have hti : (l.take i).length = i := by rw [List.length_take]; omega
    have hfull : ∀ rest : List Value, RdL w (fun b => M0 b ∨ b ∈ [b1, b2]) e (A ++ (news ++ (mid ++ rest))) (l.take i ++ (v ++ l.drop i)) := fun rest =>
      hAr.append (by rw [hAl, hti]) (hnr.append (by rw [hnl, hv1]) (hmr.more (by rw [List.length_drop, hml]; exact Nat.le_refl _)))
    have hAc : ∀ j u, A[j]? = some u → w.cell? ((⟨b1, 0, none⟩ : Addr).add j) = some u := by
      have := cells_of_row hg1 0 (i * e.size)
      rw [List.drop_zero] at this
      rw [hAe]; exact this
    have hmc : ∀ j u, mid[j]? = some u → w.cell? ((⟨b1, i * e.size, none⟩ : Addr).add j) = some u := by
      rw [hmid]; exact cells_of_row hg1 (i * e.size) _
    have hm1' : ∀ u ∈ mid, u.oneCell' = true := by
      intro u hu
      obtain ⟨j, hj, rfl⟩ := List.mem_iff_getElem.1 hu
      rw [hml] at hj
      have hq : j / e.size < l.length - i := Nat.div_lt_of_lt_mul (by rw [Nat.mul_comm]; exact hj)
      have := (hmr (j / e.size) (by rw [List.length_drop]; exact hq)).oneCell
      refine this _ ?_
      have hjm : j / e.size * e.size + j % e.size = j := by rw [Nat.mul_comm]; exact Nat.div_add_mod j e.size
      have hjl : j % e.size < e.size := Nat.mod_lt _ hk
      rw [List.mem_iff_getElem?]
      refine ⟨j % e.size, ?_⟩
      rw [List.getElem?_take, if_pos hjl, List.getElem?_drop, hjm]
      exact List.getElem?_eq_getElem _
    by_cases hin : i = l.length
    · -- at the end
      subst hin
      have hm0 : mid = [] := List.eq_nil_of_length_eq_zero (by rw [hml]; simp)
      by_cases hroom : l.length + 1 ≤ cap1
      · obtain ⟨ie, hie, hsz, _⟩ := L.lay.base
        have hrun : ∀ ty, (Builtin.append_ #[ρ.t 24, ρ.t 24] ty #[.slice (some ⟨b1, 0, none⟩) l.length cap1, .slice (some ⟨b2, 0, none⟩) 1 cap2]).run P w = _ := fun ty =>
          app_room (ty := ty) (cp := cap2) L.t24 hie hg1 (by rw [hsz]; exact hs1) (by rw [hsz]; exact hnl) hnc hn1 hroom
        refine (ins_end L w _ _ _ 1 cap2 ⟨b2, 0, none⟩ _ _ (by omega) hl1 hrun).mono ?_
        rintro e1 w' ⟨rfl, rfl⟩
        refine ⟨_, rfl, ?_⟩
        rw [hsz]
        have hrow : spl cs1.toList (l.length * e.size) news = A ++ (news ++ (mid ++ cs1.toList.drop (l.length * e.size + news.length))) := by
          rw [hm0, hAe]; simp [spl]
        have := one_own (e := e) (rb := b1) (cap := cap1) (l := l.take l.length ++ (v ++ l.drop l.length)) (t := t1) (w := w) (w' := w.setRow b1 (spl cs1.toList (l.length * e.size) news).toArray) hlim hdis (fun b hb hn => setRow_other w _ (fun e => hn (by simp [e]))) (by rw [setRow_size]; exact Nat.le_refl _) (fun _ => by simp) rfl rfl rfl (setRow_heap w b1 cs1 _ t1 _ hg1) hc1 (by rw [hyl]; exact hroom) hm1
          (by
            have := mul_lt_of (s := e.size) (show l.length < cap1 by omega)
            rw [hrow, List.size_toArray]
            simp only [List.length_append, hm0, List.length_nil, List.length_drop, Array.length_toList, hAl, hnl, hs1]
            omega)
          (by rw [hrow]; exact hfull _)
        rw [hyl] at this
        simpa [insertS, iosOf, AM.isIo] using this
      · obtain ⟨cap', rest, hrun, hc', hm', hrl⟩ := grow_run (P := P) (w := w) L.t24 L.lay (n := l.length) (m := 1) (cap := cap1) (cp := cap2) (olds := A) (news := news) (base := some ⟨b1, 0, none⟩) (a' := ⟨b2, 0, none⟩) (fun h => by cases h) hAl (fun b hb => by cases hb; exact hAc) hnl hnc (by omega) hbig
        refine (ins_end L w _ _ _ 1 cap2 ⟨b2, 0, none⟩ _ _ (by omega) hl1 hrun).mono ?_
        rintro e1 w' ⟨rfl, rfl⟩
        refine ⟨_, rfl, ?_⟩
        have := one_own (e := e) (rb := w.heap.size) (cap := cap') (l := l.take l.length ++ (v ++ l.drop l.length)) (t := ρ.t 9) (w := w) (w' := w.drew.alloc (.cells (A ++ news ++ rest).toArray (ρ.t 9))) hlim hdis (fun b hb _ => alloc_old w.drew _ hb) (by rw [alloc_size]; exact Nat.le_succ _) (fun h => absurd h (Nat.lt_irrefl _)) rfl rfl rfl (alloc_new w.drew _) (by omega) (by rw [hyl]; exact hc') hm'
          (by simp only [List.size_toArray, List.length_append, hAl, hnl, hrl, ← Nat.add_mul]; congr 1; omega) (by have := hfull rest; rw [hm0, List.nil_append, ← List.append_assoc] at this; exact this)
        rw [hyl] at this
        simpa [insertS, iosOf, AM.isIo] using this
    · have hilt : i < l.length := by omega
      have hi1 : i * e.size + e.size ≤ l.length * e.size := mul_lt_of hilt
      have e1k : (i + 1) * e.size = A.length + news.length := by rw [hAl, hnl, Nat.add_mul]
      have hmn : Nat.min 1 (l.length + 1 - i) = 1 := Nat.min_eq_left (by omega)
      by_cases hroom : l.length + 1 ≤ cap1
      · -- there is room
        have hc1k : l.length * e.size + e.size ≤ cs1.toList.length := by rw [Array.length_toList (xs := cs1), hs1]; exact mul_lt_of (by omega)
        have hsh : ∀ (b : Nat) (c : Array Value) (t : TypeId), w.heap[b]? = some (.cells c t (0, 0)) → w.shape? b = some (t, c.size) := fun b c t h => by simp [World.shape?, h]
        obtain ⟨B, hB⟩ : ∃ B, B = cs1.toList.drop (i * e.size) := ⟨_, rfl⟩
        have hcsAB : cs1.toList = A ++ B := by rw [hAe, hB, List.take_append_drop]
        have hBl : B.length = cs1.toList.length - i * e.size := by rw [hB, List.length_drop]
        have hBk : (B.take e.size).length = e.size := by rw [List.length_take]; omega
        have hrow1 : spl cs1.toList ((i + 1) * e.size) mid = A ++ (B.take e.size ++ (mid ++ (B.drop e.size).drop mid.length)) := by
          have : cs1.toList = (A ++ B.take e.size) ++ B.drop e.size := by rw [List.append_assoc, List.take_append_drop]; exact hcsAB
          rw [this, show (i + 1) * e.size = (A ++ B.take e.size).length from by rw [List.length_append, hBk, hAl, Nat.add_mul, Nat.one_mul], spl_mid, List.append_assoc]
        have hrow2 : spl (spl cs1.toList ((i + 1) * e.size) mid) (i * e.size) news = A ++ (news ++ (mid ++ (B.drop e.size).drop mid.length)) := by
          rw [hrow1, ← hAl, spl_mid, hnl, Nat.one_mul, List.drop_left' hBk]
        refine (ins_shift L w b1 l.length cap1 i 1 cap2 ⟨b2, 0, none⟩ (spl cs1.toList ((i + 1) * e.size) mid).toArray (spl (spl cs1.toList ((i + 1) * e.size) mid) (i * e.size) news).toArray hilt (by omega) hroom (by simp only [maxLen] at hm1; omega) (fun x lb cb => ?_) (fun ty dc sc => ?_) (fun W hW ty dc => ?_)).mono ?_
        · rw [run_callFunc_extern O.hf O.name O.body O.next O.find,
            Lib.run_overlaps_apart w (ρ.t 24) (ρ.t 4) (ρ.t 9) L.t24 e.size (fun w => run_sizeOf' L.lay w) ⟨b2, 0, none⟩ ⟨b1, x, none⟩ 1 cap2 lb cb (Ne.symm hne) t2 t1 cs2.size cs1.size (hsh b2 cs2 t2 hg2) (hsh b1 cs1 t1 hg1) (by rw [hs1]; exact Nat.ne_of_gt (Nat.mul_pos hc1 hk)) (by simp [World.frozen?, hg2]) (by simp [World.frozen?, hg2])]
          rfl
        · exact run_copy_row (P := P) (W := w.drew) L.t24 (fun w => run_sizeOf' L.lay w) (cs := cs1) hg1 (news := mid) (n := l.length - i) (by simp only [Nat.min_def]; split <;> omega) hml hmc hm1' (by rw [hml, Nat.add_mul, Nat.one_mul]; rw [Array.length_toList (xs := cs1)] at hc1k; rw [Nat.sub_mul]; omega) ty
        · exact run_copy_row (P := P) (W := W) L.t24 (fun w => run_sizeOf' L.lay w) (cs := (spl cs1.toList ((i + 1) * e.size) mid).toArray) (te := t1) (by rw [hW]; exact setRow_heap w b1 cs1 _ t1 _ hg1) (news := news) (n := 1) hmn hnl
            (fun j u hj => by
              have := hnc j u hj
              rw [Addr.add_lit] at this ⊢
              rw [show W.cell? ⟨b2, 0 + j, none⟩ = w.cell? ⟨b2, 0 + j, none⟩ from World.cell?_of_block (by rw [hW]; exact setRow_other w _ (Ne.symm hne))]
              exact this) hn1 (by
              rw [List.size_toArray, hrow1]
              simp only [List.length_append, hBk, hAl, hnl]
              omega) ty
        · rintro e1 w' ⟨rfl, rfl⟩
          refine ⟨_, rfl, ?_⟩
          have := one_own (e := e) (rb := b1) (cap := cap1) (l := l.take i ++ (v ++ l.drop i)) (t := t1) (w := w) (w' := (w.drew.setRow b1 (spl cs1.toList ((i + 1) * e.size) mid).toArray).setRow b1 (spl (spl cs1.toList ((i + 1) * e.size) mid) (i * e.size) news).toArray) hlim hdis
            (fun b hb hn => (setRow_other _ _ (fun e => hn (by simp [e]))).trans (setRow_other _ _ (fun e => hn (by simp [e])))) (by rw [setRow_size, setRow_size]; exact Nat.le_refl _) (fun _ => by simp) rfl rfl rfl (setRow_heap _ b1 _ _ t1 _ (setRow_heap w.drew b1 cs1 _ t1 _ hg1)) hc1 (by rw [hyl]; exact hroom) hm1
            (by
              rw [hrow2, List.size_toArray]
              rw [Array.length_toList (xs := cs1)] at hc1k hBl
              simp only [List.length_append, List.length_drop, hAl, hnl, hml, hBl, Nat.sub_mul]
              omega)
            (by rw [hrow2]; exact hfull _)
          rw [hyl] at this
          simpa [insertS, iosOf, AM.isIo] using this
      · -- there is none
        obtain ⟨cap', Z, hrun, hc', hm', hZl⟩ := zeros_run (P := P) (w := w) L.t24 L.t3 L.lay hk (n := i) (k := l.length + 1 - i) (cap := cap1) (olds := A) (b := ⟨b1, 0, none⟩) hAl hAc (by omega) (by omega) (by omega)
        have hin1 : i + (l.length + 1 - i) = l.length + 1 := by omega
        rw [hin1] at hrun hc'
        have hZk : (l.length + 1 - i) * e.size ≤ Z.length := by rw [hZl]; exact Nat.mul_le_mul_right _ (by omega)
        rw [Nat.sub_mul, Nat.add_mul, Nat.one_mul] at hZk
        have hrow1 : spl (A ++ Z) (i * e.size) news = A ++ (news ++ Z.drop news.length) := by rw [← hAl, spl_mid]
        have hrow2 : spl (spl (A ++ Z) (i * e.size) news) ((i + 1) * e.size) mid = A ++ (news ++ (mid ++ (Z.drop news.length).drop mid.length)) := by
          rw [hrow1, ← List.append_assoc, e1k, ← List.length_append, spl_mid, List.append_assoc]
        have hnb : w.heap.size ≠ b1 := by omega
        have hnb2 : b2 ≠ w.heap.size := by omega
        refine (ins_grow L w b1 l.length cap1 i 1 cap2 0 cap' ⟨b2, 0, none⟩ (A ++ Z).toArray (spl (A ++ Z) (i * e.size) news).toArray (spl (spl (A ++ Z) (i * e.size) news) ((i + 1) * e.size) mid).toArray hilt (by omega) hl1 (by omega) (by simp only [maxLen] at hm1; omega) (by simp only [big] at hbig; omega) hc' (by simp only [maxLen] at hm'; omega) (fun ty => ?_) (fun W hW ty dc => ?_) (fun W hW ty dc sc => ?_)).mono ?_
        · have := hrun ty
          rw [show (((l.length + 1 - i : Nat) : Int)) = (l.length : Int) + (1 : Nat) - (i : Int) from by omega] at this
          exact this
        · exact run_copy_row (P := P) (W := W) L.t24 (fun w => run_sizeOf' L.lay w) (cs := (A ++ Z).toArray) (te := ρ.t 9) (by rw [hW]; exact alloc_new w _) (news := news) (n := 1) hmn hnl
            (fun j u hj => by
              have := hnc j u hj
              rw [Addr.add_lit] at this ⊢
              rw [show W.cell? ⟨b2, 0 + j, none⟩ = w.cell? ⟨b2, 0 + j, none⟩ from World.cell?_of_block (by rw [hW]; exact alloc_old w _ hlt2)]
              exact this) hn1 (by rw [List.size_toArray, List.length_append, hAl, hnl]; omega) ty
        · exact run_copy_row (P := P) (W := W) L.t24 (fun w => run_sizeOf' L.lay w) (cs := (spl (A ++ Z) (i * e.size) news).toArray) (te := ρ.t 9) (by rw [hW]; exact setRow_heap _ _ _ _ _ _ (alloc_new w _)) (news := mid) (n := l.length - i) (by simp only [Nat.min_def]; split <;> omega) hml
            (fun j u hj => by
              have := hmc j u hj
              rw [Addr.add_lit] at this ⊢
              rw [show W.cell? ⟨b1, i * e.size + j, none⟩ = w.cell? ⟨b1, i * e.size + j, none⟩ from World.cell?_of_block (by rw [hW]; exact (setRow_other _ _ (Ne.symm hnb)).trans (alloc_old w _ hlt1))]
              exact this) hm1' (by
              rw [List.size_toArray, hrow1]
              simp only [List.length_append, List.length_drop, hAl, hnl, hml, Nat.add_mul, Nat.sub_mul]
              omega) ty
        · rintro e1 w' ⟨rfl, rfl⟩
          refine ⟨_, rfl, ?_⟩
          have hg' : ((w.drew.alloc (.cells (A ++ Z).toArray (ρ.t 9))).setRow w.heap.size (spl (A ++ Z) (i * e.size) news).toArray).drew.heap[w.heap.size]? = some (.cells (spl (A ++ Z) (i * e.size) news).toArray (ρ.t 9) (0, 0)) := setRow_heap _ _ _ _ _ _ (alloc_new w.drew _)
          have := one_own (e := e) (rb := w.heap.size) (cap := cap') (l := l.take i ++ (v ++ l.drop i)) (t := ρ.t 9) (w := w) (w' := ((w.drew.alloc (.cells (A ++ Z).toArray (ρ.t 9))).setRow w.heap.size (spl (A ++ Z) (i * e.size) news).toArray).drew.setRow w.heap.size (spl (spl (A ++ Z) (i * e.size) news) ((i + 1) * e.size) mid).toArray) hlim hdis
            (fun b hb hn => (setRow_other _ _ (by omega)).trans ((setRow_other _ _ (by omega)).trans (alloc_old w.drew _ hb))) (by rw [setRow_size]; show _ ≤ (World.setRow _ _ _).heap.size; rw [setRow_size, alloc_size]; exact Nat.le_succ _) (fun h => absurd h (Nat.lt_irrefl _)) rfl rfl rfl (setRow_heap _ _ _ _ _ _ hg') (by omega) (by rw [hyl]; exact hc') hm'
            (by
              rw [hrow2, List.size_toArray]
              have hmul : (cap' - i) * e.size = cap' * e.size - i * e.size := Nat.sub_mul _ _ _
              have hci : i * e.size ≤ cap' * e.size := Nat.mul_le_mul_right _ (by omega)
              simp only [List.length_append, List.length_drop, hAl, hnl, hml, hZl, hmul, Nat.sub_mul] at hZk ⊢
              omega)
            (by rw [hrow2]; exact hfull _)
          rw [hyl] at this
          simpa [insertS, iosOf, AM.isIo] using this

end VM
end

section
/- The value machine: slices.Repeat of one number. -/
set_option linter.unusedVariables false
namespace VM
open Go Go.RowKit
variable {P : Program}

def rowV (k n : Nat) (a : Int) : Array Value := (List.replicate k (Value.int .i64 a) ++ List.replicate (n - k) (Value.int .i64 0)).toArray

theorem rowV_size {k n : Nat} {a : Int} (h : k ≤ n) : (rowV k n a).size = n := by simp [rowV]; omega

theorem rowV_step {k m n : Nat} {a : Int} (h : k + m ≤ n) : (spl (rowV k n a).toList (k * 1) (List.replicate m (Value.int .i64 a))).toArray = rowV (k + m) n a := by
  unfold rowV
  show (spl (List.replicate k (Value.int .i64 a) ++ List.replicate (n - k) (Value.int .i64 0)) (k * 1) (List.replicate m (Value.int .i64 a))).toArray = _
  congr 1
  have := spl_mid (List.replicate k (Value.int .i64 a)) (List.replicate (n - k) (Value.int .i64 0)) (List.replicate m (Value.int .i64 a))
  rw [List.length_replicate] at this
  rw [Nat.mul_one, this, ← List.append_assoc, List.replicate_append_replicate]
  simp
  omega

theorem rowV_cells {w : World} {b k n : Nat} {a : Int} {t : TypeId} (h : w.heap[b]? = some (.cells (rowV k n a) t (0, 0))) (m : Nat) (hm : m ≤ k) : ∀ j u, (List.replicate m (Value.int .i64 a))[j]? = some u → w.cell? ((⟨b, 0, none⟩ : Addr).add j) = some u := by
  intro j u hj
  rw [Addr.add_lit, Nat.zero_add]
  obtain ⟨hlt, rfl⟩ := List.getElem?_eq_some_iff.1 hj
  rw [List.length_replicate] at hlt
  simp only [World.cell?, h, rowV]
  show (List.replicate k (Value.int .i64 a) ++ List.replicate (n - k) (Value.int .i64 0)).toArray[j]? = _
  rw [List.getElem?_toArray, List.getElem?_append_left (by simp; omega), List.getElem?_replicate, if_pos (by omega), List.getElem_replicate]

theorem make_zero {W : World} {t e : TypeId} {a : Int} (hu : P.underlying t = some (.slice e)) (hle : Lay P (.int .i64) e) (m : Nat) (h : m < 1048576) :
    (Instr.makeSlice t (.int .i64 (m : Int)) (.int .i64 (m : Int))).run P W = .ok (.slice (some ⟨W.heap.size, 0, none⟩) m m) (W.alloc (.cells (rowV 0 m a) e)) := by
  obtain ⟨i, hi, hs, hz, hb⟩ := hle.base
  have hbytes : (i.bytes : Int) * m ≤ 281474976710656 := by
    have h4 : (i.bytes : Int) ≤ 2048 := by omega
    have : (i.bytes : Int) * m ≤ 2048 * m := Int.mul_le_mul_of_nonneg_right h4 (by omega)
    omega
  have hrun := run_make (P := P) W t e i _ hu hi hz .i64 .i64 m m (by omega) (by omega) hbytes (by omega)
  rw [hrun]
  have h1 : madeCells (ofCells (.int .i64) (Ty.int .i64).zcells).cells ((m : Int).toNat * i.size) = rowV 0 m a := by
    rw [hs]
    simp only [rowV, Int.toNat_natCast, Ty.size, Nat.mul_one, List.replicate_zero, List.nil_append, Nat.sub_zero]
    apply Array.ext'
    apply List.ext_getElem?
    intro j
    simp [madeCells, ofCells, Ty.isAgg, Ty.zcells, Value.cells]
    by_cases hj : j < m
    · simp [hj, List.getElem?_replicate, Nat.mod_one]
    · simp [hj, List.getElem?_replicate]
  rw [h1]
  simp

/-- What the walk leaves, as a contract. -/
theorem repeat_sum {f : FuncId} {fn : Func} (hf : P.funcs[f]? = some fn) (hname : (fn.name == "runtime.NumGoroutine") = false) (hb : fn.body.isNone = false) (t : TypeId) (N : Nat)
    (h : ∀ (w : World) (a n : Int) (b off c : Nat), 0 < n → n < 1048576 → w.cell? ⟨b, off, none⟩ = some (.int .i64 a) → 1 ≤ c → Calls P f #[.slice (some ⟨b, off, none⟩) 1 c, .int .i64 n] w fun e w' => ∃ rb, e = .returned (.slice (some ⟨rb, 0, none⟩) n.toNat n.toNat) ∧ w.heap.size ≤ rb ∧ w'.heap[rb]? = some (.cells (rowV n.toNat n.toNat a) t (0, 0)) ∧ Below w.heap.size w w') :
    SumOk P f (repeatS (.int .i64) N) := by
  refine ⟨(fun h => by cases h), rfl, fun M0 w vs x y hlim hA hnd hdis hy => ?_⟩
  obtain ⟨l, n⟩ := x
  have hy' : repeatL N l n = some y := hy
  simp only [repeatS, ArgsR] at hA
  obtain ⟨v0, vs1, rfl, h0, v1, vs2, rfl, h1, rfl⟩ := hA
  simp only [repeatL] at hy'
  split at hy'
  case h_2 => cases hy'
  rename_i l' a
  split at hy'
  case isFalse => cases hy'
  rename_i hc
  cases hy'
  simp only [A1, hpH, hpT, V, Ty.isAgg, Bool.false_eq_true, if_false, Rd, List.cons.injEq, and_true] at h0 h1
  subst h1
  obtain ⟨ad, cap, rfl, hlc, hcell⟩ := h0
  obtain ⟨b, off, rfl, hbl, _, cs', hat, rfl⟩ := hcell 0 (by simp)
  have hcl := hat 0 _ rfl
  simp only [List.length_singleton] at hlc
  refine does_of_calls hf hname hb ((h w a n b off cap hc.1 hc.2 (by simpa using hcl) hlc).mono ?_)
  rintro e w' ⟨rb, rfl, hrb, hrow, hbe⟩
  refine ⟨_, rfl, ?_⟩
  have hn : n.toNat ≤ n.toNat := Nat.le_refl _
  have hh : hands (repeatS (.int .i64) N).args [.slice (some ⟨b, off, none⟩) 1 cap, .int .i64 n] = [] := rfl
  have := one_own (e := .int .i64) (rb := rb) (cap := n.toNat) (l := List.replicate n.toNat a) (t := t) (w := w) (w' := w') (hs := []) (M0 := M0) hlim (fun b hb => by cases hb) (fun c hc _ => hbe.block c hc) hbe.size (fun h => absurd h (by omega)) hbe.os hbe.tape hbe.output hrow (by omega) (by simp) (by simp only [maxLen]; omega)
    (by rw [rowV_size hn]; simp [Ty.size]) (by
      intro i hi
      rw [List.length_replicate] at hi
      simp only [Rd, Ty.size, rowV, Nat.mul_one, Nat.sub_self, List.replicate_zero, List.append_nil, List.drop_replicate, List.take_replicate, List.getElem_replicate]
      rw [show min 1 (n.toNat - i) = 1 from by omega]; rfl)
  simp only [List.length_replicate] at this
  exact this


theorem calls22 {nt : Nat} {tab : List (Nat × Ty)} {G : List (Nat × List Summ)} {cL cJ : List (Nat × List (Nat × CM))} {N : Nat} (hE : EnvOk P (mkE nt tab G cL cJ [] N)) {f : FuncId} {fn : Func} (hf : P.funcs[f]? = some fn) (hc : (Nat.beq nt fn.ntmps && Nat.ble 2 nt) = true) {w : World} {a b u v : Int}
    (h : evF (mkE nt tab G cL cJ [] N) fn [.v (.int .u64), .v (.int .u64)] [.v (.int .u64), .v (.int .u64)] (a, b) = some (u, v)) : Calls P f #[.int .u64 a, .int .u64 b] w fun e w' => e = .returned (.tuple #[.int .u64 u, .int .u64 v]) ∧ Below w.heap.size w w' := by
  rw [Bool.and_eq_true] at hc
  have hnt := Nat.eq_of_beq_eq_true hc.1
  have hlen := Nat.le_of_ble_eq_true hc.2
  refine (evF_sound (args := [.v (.int .u64), .v (.int .u64)]) (res := [.v (.int .u64), .v (.int .u64)]) (y := (u, v)) (M0 := fun _ => False) (w := w) (vs := [.int .u64 a, .int .u64 b]) (x := (a, b)) hE hf hnt (fun i m hm hio => ?_) (fun i hi => by cases hi) (by rw [← hnt]; exact hlen) (fun b hb => hb.elim) ?_ List.nodup_nil (fun b hb => by cases hb) h).mono ?_
  · match i, hm with
    | 0, hm => cases hm; cases hio
    | 1, hm => cases hm; cases hio
  · simp only [ArgsR]
    refine ⟨_, _, rfl, ?_, _, _, rfl, ?_, rfl⟩ <;> simp [A1, V, Ty.isAgg, Rd, hpH, hpT]
  · rintro e w' ⟨r, rfl, us, M', rfl, hRR, hL, _, _⟩
    simp only [RR] at hRR
    rcases hRR with ⟨p, ps', h1, _⟩ | ⟨r1, vs1, _, _, rfl, hr1, hRR⟩
    · cases h1
    · rcases hRR with ⟨p, ps', h1, _⟩ | ⟨r2, vs2, _, _, rfl, hr2, rfl, _⟩
      · cases h1
      · simp only [A1, V, Ty.isAgg, Bool.false_eq_true, if_false, Rd, List.cons.injEq, and_true, hpH, hpT] at hr1 hr2
        subst hr1; subst hr2
        exact ⟨rfl, hL.os, hL.tape, hL.output, hL.size, fun b hb => hL.frame b hb (by simp [hands, hand1])⟩

end VM
end

