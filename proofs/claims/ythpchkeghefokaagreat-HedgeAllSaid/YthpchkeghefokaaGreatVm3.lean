/- A part of the proof of HedgeAll of layer 22: a machine that reads a function of the program as an equation between values. -/
import Derived.Test.YthpchkeghefokaaGreatVm2
import Derived.Great.FillDense
set_option linter.all false
section
/- The value machine, fourteenth text: structs, arrays and slices out of their parts. -/
namespace VM
open Go
variable {P : Program} {E : Env} {o : Oper} {a : Act} {w : World} {M : Nat → Prop} {ν : Nat → Value} {σ : St} {c : Ctx} {α : Type} {r : α} {next : Act → World → Prop} {Q : Exit → Act → World → Prop}

theorem fold_spl (off : Nat) (new : Array Value) (cs : Array Value) (h : off + new.size ≤ cs.size) :
    (new.zipIdx.foldl (fun cs (x : Value × Nat) => cs.setIfInBounds (off + x.2) x.1) cs) = (spl cs.toList off new.toList).toArray := by
  have h1 : new.zipIdx.foldl (fun cs (x : Value × Nat) => cs.setIfInBounds (off + x.2) x.1) cs = (new.toList.zipIdx 0).foldl (fun cs (x : Value × Nat) => cs.setIfInBounds (off + x.2) x.1) cs := by
    rw [← Array.foldl_toList, Array.toList_zipIdx]
  rw [h1]
  obtain ⟨hs, hk⟩ := Great.foldl_set off new.toList 0 cs
  apply Array.ext_getElem?
  intro k
  rw [hk k, ← Array.getElem?_toList (xs := cs)]
  have hl : new.toList.length = new.size := Array.length_toList
  have hc : cs.toList.length = cs.size := Array.length_toList
  unfold spl
  rw [List.getElem?_toArray]
  by_cases h2 : k < off
  · rw [if_neg (by omega), List.append_assoc, List.getElem?_append_left (by rw [List.length_take]; omega), List.getElem?_take_of_lt h2]
  · by_cases h3 : k < off + new.size
    · rw [if_pos (by omega), List.getElem?_append_left (by rw [List.length_append, List.length_take]; omega), List.getElem?_append_right (by rw [List.length_take]; omega), List.length_take]
      congr 1
      omega
    · rw [if_neg (by omega), List.getElem?_append_right (by rw [List.length_append, List.length_take]; omega), List.length_append, List.length_take, List.getElem?_drop]
      congr 1
      omega

theorem fill_step {place : Nat → Option (Nat × Nat)} {cs : Array Value} {i : Nat} {v : Value} {rest : List (Nat × Value)} {off s : Nat} (hp : place i = some (off, s)) (hs : v.cells.size = s) (h : off + s ≤ cs.size) :
    Instr.fill place cs ((i, v) :: rest) = Instr.fill place (spl cs.toList off v.cells.toList).toArray rest := by
  have h1 : ¬ (decide (v.cells.size ≠ s) || decide (off + v.cells.size > cs.size)) = true := by simp [hs]; omega
  conv => lhs; unfold Instr.fill
  rw [hp]
  simp only
  rw [if_neg h1]
  congr 1
  exact fold_spl off v.cells cs (by omega)

theorem partsOf_eq (a : Act) (ps : Array (Nat × Operand)) : (ps.map fun (i, x) => (i, a.eval x)).toList = ps.toList.map fun p => (p.1, a.eval p.2) := by
  rw [Array.toList_map]

/-- Parts and their values. -/
def PR (w : World) (M : Nat → Prop) (H : Nat → Option Ent) (ν : Nat → Value) : List (Nat × AVal) → List (Nat × Value) → Prop
  | [], [] => True
  | p :: ps, q :: qs => p.1 = q.1 ∧ VR w M H ν p.2 q.2 ∧ PR w M H ν ps qs
  | _, _ => False

theorem PR.keep {w' : World} {M' : Nat → Prop} {H H' : Nat → Option Ent} {ν' : Nat → Value} (k : Keeps w M w' M') (g : Goes H ν H' ν') : ∀ {ps : List (Nat × AVal)} {qs : List (Nat × Value)}, PR w M H ν ps qs → PR w' M' H' ν' ps qs
  | [], [], _ => trivial
  | _ :: _, _ :: _, h => ⟨h.1, h.2.1.keep k g, PR.keep k g h.2.2⟩
  | [], _ :: _, h => h.elim
  | _ :: _, [], h => h.elim

theorem Core.pr (hc : Core c σ a.tmps w M ν) : ∀ ps : List (Nat × Operand), PR w M σ.H ν (ps.map fun p => (p.1, σ.ρ p.2)) (ps.map fun p => (p.1, a.eval p.2))
  | [] => trivial
  | p :: ps => ⟨rfl, hc.ev p.2, hc.pr ps⟩

/-- The elements, one by one. -/
theorem fillK_sound {e : Ty} {n : Nat} {H : Nat → Option Ent} : ∀ (ps : List (Nat × AVal)) (qs : List (Nat × Value)) (H1 : Nat → Option Ent) (M : Nat → Prop) (l : List e.den) (cs : Array Value) (rd : List Nat) (ups : Ups) (K : List e.den → List Nat → Ups → Option α),
    Fz H H1 → Mem c H1 w M ν → PR w M H1 ν ps qs → l.length = n → cs.size = n * e.size → RdL w M e cs.toList l → H1 = upsH H ups → fillK e H n ps l rd ups K = some r →
    ∃ l' rd' ups' M' cs', K l' rd' ups' = some r ∧ Tr c H1 w M ν (upsH H ups') w M' ν ∧ Fz H (upsH H ups') ∧ l'.length = n ∧ cs'.size = n * e.size ∧ RdL w M' e cs'.toList l' ∧
      Instr.fill (fun i => some (i * e.size, e.size)) cs qs = some cs' := by
  intro ps
  induction ps with
  | nil =>
    intro qs H1 M l cs rd ups K hz hm hp hl hs hr hH h
    cases qs with
    | cons _ _ => exact hp.elim
    | nil => exact ⟨l, rd, ups, M, cs, h, hH ▸ Tr.refl hm, hH ▸ hz, hl, hs, hr, rfl⟩
  | cons p ps ih =>
    intro qs H1 M l cs rd ups K hz hm hp hl hs hr hH h
    cases qs with
    | nil => exact hp.elim
    | cons q qs =>
      obtain ⟨h1, h2, h3⟩ := hp
      unfold fillK at h
      obtain ⟨hb, h⟩ := cond_inv h
      have hlt : p.1 < n := by simpa [Nat.blt_eq] using hb
      obtain ⟨y, rd1, ups1, M1, h, htr, hV, hz1, _⟩ := asVK_sound hz hm h2 h
      have hlen : (q.2.cells).size = e.size := by rw [← Array.length_toList]; exact hV.cells.length
      have hmul := mul_lt_of (s := e.size) hlt
      have hset := RdL.set (hr.keep htr.keep) (by rw [hl, Array.length_toList, hs]; exact Nat.le_refl _) (i := p.1) (by omega) hV.cells
      obtain ⟨l', rd', ups', M', cs', hK, htr', hz', hl', hs', hr', hf⟩ := ih qs (upsH H1 ups1) M1 (l.set p.1 y) (spl cs.toList (p.1 * e.size) q.2.cells.toList).toArray (rd1 ++ rd) (ups ++ ups1) K hz1 htr.mem (h3.keep htr.keep htr.goes)
        (by rw [List.length_set]; exact hl) (by rw [List.size_toArray, length_spl (by rw [Array.length_toList, Array.length_toList]; omega), Array.length_toList, hs]) hset (by rw [upsH_append, hH]) h
      refine ⟨l', rd', ups', M', cs', hK, htr.trans htr', hz', hl', hs', hr', ?_⟩
      rw [fill_step (off := p.1 * e.size) (s := e.size) (by rw [h1]) hlen (by omega)]
      exact hf

/-- The fields, one by one. -/
theorem buildK_sound {τ : Ty} {H : Nat → Option Ent} {place : Nat → Option (Nat × Nat)} (hpl : ∀ (x : τ.den) n υ y o, Fld τ x n υ y o → place n = some (o, υ.size)) :
    ∀ (ps : List (Nat × AVal)) (qs : List (Nat × Value)) (H1 : Nat → Option Ent) (M : Nat → Prop) (x : τ.den) (cs : Array Value) (rd : List Nat) (ups : Ups) (K : τ.den → List Nat → Ups → Option α),
    Fz H H1 → Mem c H1 w M ν → PR w M H1 ν ps qs → Rd w M τ cs.toList x → H1 = upsH H ups → buildK τ H ps x rd ups K = some r →
    ∃ x' rd' ups' M' cs', K x' rd' ups' = some r ∧ Tr c H1 w M ν (upsH H ups') w M' ν ∧ Fz H (upsH H ups') ∧ Rd w M' τ cs'.toList x' ∧ Instr.fill place cs qs = some cs' ∧
      ∀ m υ, fldQ τ m = some υ → (ps.all fun p => !(Nat.beq p.1 m)) = true → (cs'.toList.drop (offF τ m)).take υ.size = (cs.toList.drop (offF τ m)).take υ.size := by
  intro ps
  induction ps with
  | nil =>
    intro qs H1 M x cs rd ups K hz hm hp hr hH h
    cases qs with
    | cons _ _ => exact hp.elim
    | nil => exact ⟨x, rd, ups, M, cs, h, hH ▸ Tr.refl hm, hH ▸ hz, hr, rfl, fun _ _ _ _ => rfl⟩
  | cons p ps ih =>
    intro qs H1 M x cs rd ups K hz hm hp hr hH h
    cases qs with
    | nil => exact hp.elim
    | cons q qs =>
      obtain ⟨h1, h2, h3⟩ := hp
      unfold buildK at h
      obtain ⟨υ, y0, of, hf, h⟩ := fldK_inv h
      obtain ⟨y, rd1, ups1, M1, h, htr, hV, hz1, _⟩ := asVK_sound hz hm h2 h
      obtain ⟨υ', y', o', k', hf', hm', hk'⟩ := setFldK_inv h
      obtain ⟨rfl, rfl⟩ := hf'.eq
      obtain ⟨rfl, rfl⟩ := hf.eq
      obtain ⟨e1, hc1⟩ := castK_inv hm'
      obtain ⟨x', hx', _, hrd⟩ := hk' _ _ hc1
      have hlen : (q.2.cells).size = (fldT τ p.1).size := by rw [← Array.length_toList]; exact hV.cells.length
      have hb := hf.bound
      have hcl := hr.length
      rw [Array.length_toList] at hcl
      obtain ⟨x2, rd', ups', M', cs', hK, htr', hz', hr', hfl, hout⟩ := ih qs (upsH H1 ups1) M1 x' (spl cs.toList (offF τ p.1) q.2.cells.toList).toArray (rd1 ++ rd) (ups ++ ups1) K hz1 htr.mem (h3.keep htr.keep htr.goes)
        (hrd w M1 _ _ (hr.keep htr.keep) hV.cells) (by rw [upsH_append, hH]) hx'
      refine ⟨x2, rd', ups', M', cs', hK, htr.trans htr', hz', hr', ?_, fun m υ hm' hall => ?_⟩
      · rw [fill_step (off := offF τ p.1) (s := (fldT τ p.1).size) (by rw [← h1]; exact hpl _ _ _ _ _ hf) hlen (by omega)]
        exact hfl
      · rw [List.all_cons, Bool.and_eq_true] at hall
        rw [hout m υ hm' hall.2]
        obtain ⟨y2, o2, hf2⟩ := fldQ_fld hm' x
        obtain ⟨e3, e4⟩ := hf2.eq
        subst e3 e4
        have hne : p.1 ≠ m := fun e => by have := hall.1; rw [e, Nat.beq_refl] at this; cases this
        have hap := hf.apart hf2 hne
        have hb2 := hf2.bound
        show ((spl cs.toList (offF τ p.1) q.2.cells.toList).drop _).take _ = _
        rw [spl_out (by rw [Array.length_toList]; omega) (by rw [Array.length_toList, Array.length_toList]; omega)]

/-- Where the fields lie. -/
theorem LayG.places : ∀ (τ : Ty) (fs : Array Field) (n off : Nat), LayG P τ (.inr (fs, n, off)) →
    ∃ ps, (fs.toList.drop n).mapM (fun f => (P.info? f.type).map fun i => (f.offset, i.size)) = some ps ∧ ∀ (x : τ.den) m υ y o, Fld τ x m υ y o → ps[m]? = some (off + o, υ.size)
  | .unit, fs, n, off, h => by
    simp only [LayG] at h
    refine ⟨[], ?_, fun x m υ y o hf => by cases hf⟩
    rw [List.drop_of_length_le (by rw [Array.length_toList]; omega)]; rfl
  | .pair t b, fs, n, off, h => by
    simp only [LayG] at h
    obtain ⟨f, hf, ho, ha, hb⟩ := h
    obtain ⟨ps, hps, hfl⟩ := LayG.places b fs (n + 1) (off + t.size) hb
    obtain ⟨i, hi, hs, _⟩ := (show Lay P t f.type from ha).base
    have hlt : n < fs.toList.length := by rw [Array.length_toList]; exact (Array.getElem?_eq_some_iff.1 hf).1
    have hfe : fs.toList[n] = f := by rw [Array.getElem_toList]; exact (Array.getElem?_eq_some_iff.1 hf).2
    refine ⟨(off, t.size) :: ps, ?_, fun x m υ y o hf' => ?_⟩
    · rw [List.drop_eq_getElem_cons hlt, List.mapM_cons, hps, hfe, hi]
      simp [ho, hs]
    · cases hf' with
      | here => simp
      | there _ h' => simp [hfl _ _ _ _ _ h', Nat.add_assoc]
  | .int _, _, _, _, h | .bool, _, _, _, h | .str, _, _, _, h | .slice _, _, _, _, h | .arr _ _, _, _, _, h => by simp [LayG] at h

theorem Lay.places {τ : Ty} {t : TypeId} (h : Lay P τ t) (ha : τ.isAgg = true) (hn : ∀ n e, τ ≠ .arr n e) :
    ∃ fs ps, P.underlying t = some (.struct fs) ∧ fs.toList.mapM (fun f => (P.info? f.type).map fun i => (f.offset, i.size)) = some ps ∧ ∀ (x : τ.den) m υ y o, Fld τ x m υ y o → ps[m]? = some (o, υ.size) := by
  cases τ with
  | unit =>
    simp only [Lay, LayG] at h
    obtain ⟨_, fs, hu, hs⟩ := h
    refine ⟨fs, [], hu, ?_, fun x m υ y o hf => by cases hf⟩
    have : fs.toList = [] := List.eq_nil_of_length_eq_zero (by rw [Array.length_toList]; exact hs)
    rw [this]; rfl
  | pair t' b =>
    simp only [Lay, LayG] at h
    obtain ⟨_, fs, f, hu, hf, ho, ha', hb⟩ := h
    have hg : LayG P (.pair t' b) (.inr (fs, 0, 0)) := by
      simp only [LayG]
      exact ⟨f, hf, ho, ha', by simpa using hb⟩
    obtain ⟨ps, hps, hfl⟩ := LayG.places _ fs 0 0 hg
    exact ⟨fs, ps, hu, hps, fun x m υ y o hf' => by simpa using hfl x m υ y o hf'⟩
  | arr n e => exact absurd rfl (hn n e)
  | int _ => simp [Ty.isAgg] at ha
  | bool => simp [Ty.isAgg] at ha
  | str => simp [Ty.isAgg] at ha
  | slice _ => simp [Ty.isAgg] at ha

theorem run_build_op {ρ : Operand → Value} {t : TypeId} {ps : Array (Nat × Operand)} (ho : o.op = .build t ps) {v : Value} (h : (Instr.build t (ps.map fun (i, x) => (i, ρ x))).run P w = .ok v w) : (execOp ρ o).run P w = .ok (.value v) w := by
  simp [execOp, ho, h]
theorem run_buildSlice_op {ρ : Operand → Value} {t : TypeId} {n : Nat} {ps : Array (Nat × Operand)} (ho : o.op = .buildSlice t n ps) {v : Value} {w' : World} (h : (Instr.buildSlice t n (ps.map fun (i, x) => (i, ρ x))).run P w = .ok v w') : (execOp ρ o).run P w = .ok (.value v) w' := by
  simp [execOp, ho, h]

theorem VR.mkAgg {H : Nat → Option Ent} {τ : Ty} (ha : τ.isAgg = true) {cs : Array Value} {x : τ.den} (h : Rd w M τ cs.toList x) : VR w M H ν (.val τ x) (.agg cs) := by
  simp only [VR, V]; rw [if_pos ha]; exact ⟨cs, rfl, h⟩

theorem op_build_arr (hE : EnvTy P E) (hc : Core c σ a.tmps w M ν) {t : TypeId} {ps : Array (Nat × Operand)} (ho : o.op = .build t ps) {K : OpK α} {n : Nat} {e : Ty} (ht : E.ty t = some (.arr n e))
    (h : fillK e σ.H n (partsOf σ.ρ ps) (List.replicate n e.zero) [] [] (fun l rd ups => K (.val (.arr n e) l) rd ups) = some r) (hn : Goes1 c σ a o w M ν K r next) : o.wp P a w next Q := by
  have hl := hE.ty t _ ht
  obtain ⟨e', hu, hle⟩ := hl.arr
  obtain ⟨i, hi, hs, hz, _⟩ := hl.base
  obtain ⟨ie, hie, hes, _⟩ := hle.base
  have hr0 := Rd.arr.1 (Rd.zero w M (.arr n e))
  obtain ⟨l', rd', ups', M', cs', hK, htr, hz', hl', hs', hr', hf⟩ := fillK_sound (partsOf σ.ρ ps) (ps.toList.map fun (p : Nat × Operand) => (p.1, a.eval p.2)) σ.H M (List.replicate n e.zero) (Ty.zcells (.arr n e)).toArray [] [] _ (.refl _) hc.mem (hc.pr ps.toList)
    (by rw [List.length_replicate]) (by rw [List.size_toArray]; exact hr0.2.1) hr0.2.2 rfl h
  refine wp_of_run (run_build_op ho (run_build w t _ cs' ?_)) (hn _ _ _ _ _ _ _ hK htr (VR.mkAgg rfl (Rd.arr.2 ⟨hl', by rw [Array.length_toList]; exact hs', hr'⟩)))
  unfold Program.built
  rw [hi, hu]
  simp only [hz, hie, hes, partsOf_eq]
  exact hf

theorem op_build_struct (hE : EnvTy P E) (hc : Core c σ a.tmps w M ν) {t : TypeId} {ps : Array (Nat × Operand)} (ho : o.op = .build t ps) {K : OpK α} {τ : Ty} (ht : E.ty t = some τ) (hna : ∀ n e, τ ≠ .arr n e)
    (h : cond τ.isAgg (buildK τ σ.H (partsOf σ.ρ ps) τ.zero [] [] (fun l rd ups => K (nvOf E (partsOf σ.ρ ps) τ l) rd ups)) none = some r) (hn : Goes1 c σ a o w M ν K r next) : o.wp P a w next Q := by
  obtain ⟨hag, h⟩ := cond_inv h
  have hl := hE.ty t _ ht
  obtain ⟨fs, pl, hu, hps, hpl⟩ := hl.places hag hna
  obtain ⟨i, hi, hs, hz, _⟩ := hl.base
  obtain ⟨l', rd', ups', M', cs', hK, htr, hz', hr', hf, hout⟩ := buildK_sound (place := (pl.toArray[·]?)) (fun x n υ y o hf => by simpa using hpl x n υ y o hf) (partsOf σ.ρ ps) (ps.toList.map fun (p : Nat × Operand) => (p.1, a.eval p.2)) σ.H M τ.zero τ.zcells.toArray [] [] _ (.refl _) hc.mem (hc.pr ps.toList)
    (Rd.zero w M τ) rfl h
  have hvr : VR w M' (upsH σ.H ups') ν (nvOf E (partsOf σ.ρ ps) τ l') (.agg cs') := by
    unfold nvOf
    split
    · rename_i n e hlk
      cases hall : (partsOf σ.ρ ps).all fun p => !(Nat.beq p.1 n)
      · exact VR.mkAgg hag hr'
      · have hq := lkT_inv hlk
        show VR w M' (upsH σ.H ups') ν (.nval τ l' n) (.agg cs')
        have hv := VR.mkAgg (H := upsH σ.H ups') (ν := ν) hag hr'
        simp only [VR] at hv ⊢
        refine ⟨hv, cs', none, rfl, ?_⟩
        have hfq : fldQ τ n = some (.slice e) := by
          unfold pathQ at hq
          split at hq
          · rename_i a ha
            rw [ha]
            have := of_decide_eq_true hq
            rw [this]
          · cases hq
        have h2 := hout n _ hfq hall
        have h3 := zcells_at hq
        simp only [offP, Nat.add_zero] at h3
        have h4 := congrArg (fun l => l[0]?) h2
        simp only [List.getElem?_take, List.getElem?_drop, Nat.add_zero] at h4
        rw [if_pos (show 0 < (Ty.slice e).size from Nat.one_pos), if_pos (show 0 < (Ty.slice e).size from Nat.one_pos)] at h4
        rw [h4]; exact h3
    · exact VR.mkAgg hag hr'
  refine wp_of_run (run_build_op ho (run_build w t _ cs' ?_)) (hn _ _ _ _ _ _ _ hK htr hvr)
  unfold Program.built
  rw [hi, hu]
  have hzc : (ofCells τ τ.zcells).cells = τ.zcells.toArray := by apply Array.ext'; rw [ofCells_zero]
  simp only [hz, hps, partsOf_eq, hzc]
  exact hf

theorem op_buildSlice (hE : EnvTy P E) (hc : Core c σ a.tmps w M ν) {t : TypeId} {n : Nat} {ps : Array (Nat × Operand)} (ho : o.op = .buildSlice t n ps) {K : OpK α} {e : Ty} (ht : E.ty t = some (.slice e)) {id : Nat}
    (h : cond (Nat.ble (n * (e.size + 1)) 16777216) (newK σ.H id (.own e []) (fillK e σ.H n (partsOf σ.ρ ps) (List.replicate n e.zero) [] [] fun l rd ups => K (.ref id) (id :: rd) (ups ++ [(id, some (.own e l))]))) none = some r)
    (hn : Goes1 c σ a o w M ν K r next) : o.wp P a w next Q := by
  obtain ⟨hb, h⟩ := cond_inv h
  obtain ⟨hid, h⟩ := newK_inv h
  have hb := Nat.le_of_ble_eq_true hb
  rw [Nat.mul_add, Nat.mul_one] at hb
  obtain ⟨e', hu, hle⟩ := (hE.ty t _ ht).slice
  obtain ⟨ie, hie, hes, hz, _⟩ := hle.base
  obtain ⟨l', rd', ups', M', cs', hK, htr, hz', hl', hs', hr', hf⟩ := fillK_sound (partsOf σ.ρ ps) (ps.toList.map fun (p : Nat × Operand) => (p.1, a.eval p.2)) σ.H M (List.replicate n e.zero) (madeCells (ofCells e e.zcells).cells (n * e.size)) [] [] _ (.refl _) hc.mem (hc.pr ps.toList)
    (by rw [List.length_replicate]) (size_madeCells _ _) (RdL.made w M e (Nat.le_refl _)) rfl h
  have hid' : upsH σ.H ups' id = none := hz'.none hid
  have htr2 := htr.trans (Tr.row htr.mem hid' e' (e := e) (cs := cs') (l := l') (cap := n) (by omega) (by simp [maxLen]; omega) hs' hr')
  have hrun : (Instr.buildSlice t n (ps.map fun (i, x) => (i, a.eval x))).run P w = .ok (.slice (some ⟨w.heap.size, 0, none⟩) n n) (w.alloc (.cells cs' e')) := by
    by_cases h0 : n * e.size = 0
    · rw [h0] at hf
      have hm0 : madeCells (ofCells e e.zcells).cells 0 = (Array.range 0).map fun i : Nat => (#[] : Array Value)[i % 0]! := by simp [madeCells]
      rw [hm0] at hf
      rw [← partsOf_eq] at hf
      simp [Instr.buildSlice, run_underlying hu, Go.sizeOf, typeInfo, hie, hes, h0, newRow] at hf ⊢
      simp [hf]
    · refine run_buildSlice w t e' n _ cs' ie _ hu hie hz (by rw [hes]; omega) (by rw [hes]; exact h0) ?_
      rw [hes, partsOf_eq]
      exact hf
  refine wp_of_run (run_buildSlice_op ho hrun) (hn _ _ _ _ _ (fun b => M' b ∨ b = w.heap.size) (updν ν id (.slice (some ⟨w.heap.size, 0, none⟩) l'.length n)) hK ?_ ?_)
  · rw [upsH_append]; exact htr2
  · simp only [VR]
    exact ⟨by rw [upsH_append]; show updH _ id _ id ≠ none; rw [updH_same]; simp, by simp [updν, hl']⟩

end VM
end

section
/- The value machine, fifteenth text: parts of slices and strings. -/
namespace VM
open Go
variable {P : Program} {E : Env} {o : Oper} {a : Act} {w : World} {M : Nat → Prop} {ν : Nat → Value} {σ : St} {c : Ctx} {α : Type} {r : α} {next : Act → World → Prop} {Q : Exit → Act → World → Prop}

/-- A bound that is there, or the one that stands for it. -/
def Bnd (o : Option Value) (d l : Int) : Prop := (o = none ∧ l = d) ∨ ∃ k, o = some (.int k l)

theorem optK_inv (hc : Core c σ a.tmps w M ν) {x : Option Operand} {d : Int} {k : Int → Option α} (h : optK (x.map σ.ρ) d k = some r) : ∃ l, k l = some r ∧ Bnd (x.map a.eval) d l := by
  cases x with
  | none => exact ⟨d, h, .inl ⟨rfl, rfl⟩⟩
  | some x =>
    obtain ⟨i, n, hx, h⟩ := intK_inv (h : intK (σ.ρ x) (fun _ x => k x) = some r)
    have hv := hc.ev x
    rw [hx] at hv
    exact ⟨n, h, .inr ⟨i, by rw [← hv.int]; rfl⟩⟩

theorem run_sliceBounds {s : Bool} {len cap : Nat} {lo hi mx : Option Value} {l h m : Int} (hlo : Bnd lo 0 l) (hhi : Bnd hi len h) (hmx : Bnd mx cap m) (hm : mx.isNone = true ∨ hi.isSome = true)
    (h0 : 0 ≤ l) (h1 : l ≤ h) (h2 : h ≤ m) (h3 : m ≤ cap) : (Instr.sliceBounds s len cap lo hi mx).run P w = .ok (l.toNat, h.toNat, m.toNat) w := by
  have hb : ∀ (k : IntKind) (i : Int) (y : Nat) cd, 0 ≤ i → i ≤ y → (Instr.sliceBound (.int k i) y cd).run P w = .ok i.toNat w := by
    intro k i y cd h1 h2
    simp [Instr.sliceBound, asIntOf, h1, h2]
  have hm' : ((m.toNat : Nat) : Int) = m := by omega
  have hh' : ((h.toNat : Nat) : Int) = h := by omega
  rcases hmx with ⟨rfl, rfl⟩ | ⟨km, rfl⟩
  · rcases hhi with ⟨rfl, rfl⟩ | ⟨kh, rfl⟩
    · rcases hlo with ⟨rfl, rfl⟩ | ⟨kl, rfl⟩
      · simp [Instr.sliceBounds]
      · simp [Instr.sliceBounds, hb kl l len _ h0 h1]
    · rcases hlo with ⟨rfl, rfl⟩ | ⟨kl, rfl⟩
      · simp [Instr.sliceBounds, hb kh h cap _ (by omega) h2]
      · simp [Instr.sliceBounds, hb kh h cap _ (by omega) h2, hb kl l h.toNat _ h0 (by omega)]
  · rcases hhi with ⟨rfl, rfl⟩ | ⟨kh, rfl⟩
    · simp at hm
    · rcases hlo with ⟨rfl, rfl⟩ | ⟨kl, rfl⟩
      · simp [Instr.sliceBounds, hb km m cap _ (by omega) h3, hb kh h m.toNat _ (by omega) (by omega)]
      · simp [Instr.sliceBounds, hb km m cap _ (by omega) h3, hb kh h m.toNat _ (by omega) (by omega), hb kl l h.toNat _ h0 (by omega)]

theorem run_slice_str {ρ : Operand → Value} {t : TypeId} {x : Operand} {lo hi mx : Option Operand} (ho : o.op = .slice t x lo hi mx) {s : ByteArray} {l h : Int} (hu : P.underlying t = some .string) (hx : ρ x = .string s)
    (hlo : Bnd (lo.map ρ) 0 l) (hhi : Bnd (hi.map ρ) s.size h) (hmx : mx.isNone = true) (h0 : 0 ≤ l) (h1 : l ≤ h) (h2 : h ≤ s.size) : (execOp ρ o).run P w = .ok (.value (.string (s.extract l.toNat h.toNat))) w := by
  have hm : mx = none := by simpa using hmx
  subst hm
  have hb := run_sliceBounds (P := P) (w := w) (s := false) hlo hhi (.inl ⟨rfl, rfl⟩) (.inl rfl) h0 h1 h2 (Int.le_refl _)
  simp [execOp, ho, hx, Instr.sliceAt, Instr.slice, run_underlying hu, hb]

theorem run_slice_sl {ρ : Operand → Value} {t e : TypeId} {x : Operand} {lo hi mx : Option Operand} (ho : o.op = .slice t x lo hi mx) {τ : Ty} {ad : Option Addr} {len cap : Nat} {l h m : Int} (hu : P.underlying t = some (.slice e)) (hle : Lay P τ e) (hx : ρ x = .slice ad len cap)
    (hlo : Bnd (lo.map ρ) 0 l) (hhi : Bnd (hi.map ρ) len h) (hmx : Bnd (mx.map ρ) cap m) (hm : (mx.map ρ).isNone = true ∨ (hi.map ρ).isSome = true) (h0 : 0 ≤ l) (h1 : l ≤ h) (h2 : h ≤ m) (h3 : m ≤ cap) :
    (execOp ρ o).run P w = .ok (.value (.slice (if m.toNat = l.toNat then ad else ad.map (·.add (l.toNat * τ.size))) (h.toNat - l.toNat) (m.toNat - l.toNat))) w := by
  have hb := run_sliceBounds (P := P) (w := w) (s := true) hlo hhi hmx hm h0 h1 h2 h3
  simp [execOp, ho, hx, Instr.sliceAt, Instr.slice, run_underlying hu, hb, run_sizeOf' hle]

theorem isZeroC_inv {x : Option Operand} (h : isZeroC x = true) (a : Act) : ∃ k, x.map a.eval = some (.int k 0) := by
  unfold isZeroC at h
  split at h
  · rename_i k n
    have : n = 0 := by simpa using h
    subst this
    exact ⟨k, rfl⟩
  · cases h

theorem Rd.cut {e : Ty} {ad : Option Addr} {len cap : Nat} {x : List e.den} (h : Rd w M (.slice e) [.slice ad len cap] x) {l hh m : Int} (h0 : 0 ≤ l) (h1 : l ≤ hh) (h2 : hh ≤ m) (hl : hh ≤ x.length) :
    Rd w M (.slice e) [.slice (if m.toNat = l.toNat then ad else ad.map (·.add (l.toNat * e.size))) (hh.toNat - l.toNat) (m.toNat - l.toNat)] (List.drop l.toNat (List.take hh.toNat x)) := by
  simp only [Rd, List.cons.injEq, and_true] at h ⊢
  obtain ⟨a', cap', hv, hc, hr⟩ := h
  cases hv
  have hlen : List.length (List.drop l.toNat (List.take hh.toNat x)) = hh.toNat - l.toNat := by rw [List.length_drop, List.length_take]; omega
  refine ⟨_, _, by rw [hlen], by rw [hlen]; omega, fun i hi => ?_⟩
  rw [hlen] at hi
  obtain ⟨b, off, ha, hb, hm, cs, hat, hrd⟩ := hr (l.toNat + i) (by omega)
  rw [if_neg (by omega)]
  refine ⟨b, off + l.toNat * e.size, by rw [ha]; simp [Addr.add_lit], hb, hm, cs, ?_, ?_⟩
  · rw [show off + l.toNat * e.size + i * e.size = off + (l.toNat + i) * e.size from by rw [Nat.add_mul]; omega]; exact hat
  · simp only [List.get_eq_getElem, List.getElem_drop, List.getElem_take] at hrd ⊢
    exact hrd

theorem VR.emp {H : Nat → Option Ent} {v : Value} : VR w M H ν .emp v ↔ ∃ ad, v = .slice ad 0 0 := by simp [VR]

theorem op_slice (hE : EnvTy P E) (hc : Core c σ a.tmps w M ν) {t : TypeId} {x : Operand} {lo hi mx : Option Operand} (ho : o.op = .slice t x lo hi mx) {K : OpK α} {τ : Ty} (ht : E.ty t = some τ)
    (h : sliceK τ (lo.isNone && isZeroC hi && isZeroC mx) (σ.ρ x) (lo.map σ.ρ) (hi.map σ.ρ) (mx.map σ.ρ) σ.H K = some r) (hn : Goes1 c σ a o w M ν K r next) : o.wp P a w next Q := by
  have hlay := hE.ty t τ ht
  have hv := hc.ev x
  have hz0 : ∀ (e : Ty) (e' : TypeId) (ad : Option Addr) (len cap : Nat), P.underlying t = some (.slice e') → Lay P e e' → a.eval x = .slice ad len cap → (lo.isNone && isZeroC hi && isZeroC mx) = true →
      ∃ ad', (execOp a.eval o).run P w = .ok (.value (.slice ad' 0 0)) w := by
    intro e e' ad len cap hu hle hx hz
    simp only [Bool.and_eq_true] at hz
    obtain ⟨⟨h1, h2⟩, h3⟩ := hz
    have h1 : lo = none := by simpa using h1
    subst h1
    obtain ⟨k2, h2⟩ := isZeroC_inv h2 a
    obtain ⟨k3, h3⟩ := isZeroC_inv h3 a
    have := run_slice_sl (P := P) (w := w) ho hu hle hx (l := 0) (h := 0) (m := 0) (.inl ⟨rfl, rfl⟩) (.inr ⟨k2, h2⟩) (.inr ⟨k3, h3⟩) (.inr (by rw [h2]; rfl)) (by omega) (by omega) (by omega) (by omega)
    exact ⟨_, this⟩
  unfold sliceK at h
  split at h
  · rename_i s hx
    obtain ⟨hm, h⟩ := cond_inv h
    obtain ⟨l, h, hlo⟩ := optK_inv hc h
    obtain ⟨hh, h, hhi⟩ := optK_inv hc h
    obtain ⟨hk, h⟩ := cond_inv h
    rw [okCut_eq] at hk
    obtain ⟨h0, h1, h2, h3⟩ := of_decide_eq_true hk
    rw [hx] at hv
    exact wp_of_run (run_slice_str ho hlay.str hv.str hlo hhi (by simpa using hm) h0 h1 h2) (hn _ [] [] _ _ _ _ h (.refl hc.mem) (.mkStr _))
  · rename_i e hx
    obtain ⟨e', hu, hle⟩ := hlay.slice
    rw [hx] at hv
    obtain ⟨ad, hv⟩ := VR.emp.1 hv
    cases hz : (lo.isNone && isZeroC hi && isZeroC mx)
    · rw [hz] at h
      replace h : cond (mx.map σ.ρ).isNone (optK (lo.map σ.ρ) 0 fun l => optK (hi.map σ.ρ) 0 fun h => cond (okCut l h 0 0) (K .emp [] []) none) none = some r := h
      obtain ⟨hm, h⟩ := cond_inv h
      obtain ⟨l, h, hlo⟩ := optK_inv hc h
      obtain ⟨hh, h, hhi⟩ := optK_inv hc h
      obtain ⟨hk, hK⟩ := cond_inv h
      rw [okCut_eq] at hk
      obtain ⟨h0, h1, h2, h3⟩ := of_decide_eq_true hk
      have hm' : mx = none := by simpa using hm
      subst hm'
      have := run_slice_sl (P := P) (w := w) ho hu hle hv hlo hhi (.inl ⟨rfl, rfl⟩) (.inl rfl) h0 h1 (m := 0) (by omega) (by omega)
      refine wp_of_run this (hn _ [] [] _ _ _ _ hK (.refl hc.mem) (VR.emp.2 ?_))
      rw [show hh.toNat - l.toNat = 0 from by omega, show (0 : Int).toNat - l.toNat = 0 from by omega]
      exact ⟨_, rfl⟩
    · rw [hz] at h
      obtain ⟨ad', hrun⟩ := hz0 e e' ad 0 0 hu hle hv hz
      exact wp_of_run hrun (hn _ [] [] _ _ _ _ h (.refl hc.mem) (VR.emp.2 ⟨_, rfl⟩))
  · rename_i e hne
    obtain ⟨e', hu, hle⟩ := hlay.slice
    cases hz : (lo.isNone && isZeroC hi && isZeroC mx)
    · rw [hz] at h
      obtain ⟨y, rd, ups, M', h, htr, hV, _⟩ := asVK_sound (.refl _) hc.mem hv h
      replace h : cond ((mx.map σ.ρ).isNone || (hi.map σ.ρ).isSome) (optK (lo.map σ.ρ) 0 fun l => optK (hi.map σ.ρ) (List.length y : Int) fun h => optK (mx.map σ.ρ) (List.length y : Int) fun m =>
        cond (okCut l h m (List.length y : Int)) (K (.val (.slice e) (List.drop l.toNat (List.take h.toNat y))) rd ups) none) none = some r := h
      obtain ⟨hm, h⟩ := cond_inv h
      obtain ⟨l, h, hlo⟩ := optK_inv hc h
      obtain ⟨hh, h, hhi⟩ := optK_inv hc h
      obtain ⟨m, h, hmx⟩ := optK_inv hc h
      obtain ⟨hk, h⟩ := cond_inv h
      rw [okCut_eq] at hk
      obtain ⟨h0, h1, h2, h3⟩ := of_decide_eq_true hk
      have hr := V.slice.1 hV
      have hr' := hr
      simp only [Rd, List.cons.injEq, and_true] at hr'
      obtain ⟨ad, cap, hx, hcap, _⟩ := hr'
      rw [hx] at hr
      have hm' : (mx.map a.eval).isNone = true ∨ (hi.map a.eval).isSome = true := by
        simp only [Bool.or_eq_true, Option.isNone_map, Option.isSome_map] at hm ⊢; exact hm
      -- without a bound the model's is the capacity
      have hmx' : ∃ m', Bnd (mx.map a.eval) cap m' ∧ hh ≤ m' ∧ m' ≤ cap := by
        rcases hmx with ⟨h9, _⟩ | ⟨k, h9⟩
        · exact ⟨cap, .inl ⟨h9, rfl⟩, by omega, Int.le_refl _⟩
        · exact ⟨m, .inr ⟨k, h9⟩, h2, by omega⟩
      obtain ⟨m', hmx', h4, h5⟩ := hmx'
      have hrun := run_slice_sl (P := P) (w := w) ho hu hle hx hlo hhi hmx' hm' h0 h1 h4 h5
      refine wp_of_run hrun (hn _ _ _ _ _ M' _ h htr ?_)
      simp only [VR]
      exact V.slice.2 (hr.cut h0 h1 h4 (by omega))
    · rw [hz] at h
      obtain ⟨y, rd, h, hS⟩ := readK_sound hc.mem hv h
      obtain ⟨ad, cap, hx, _⟩ := hS
      obtain ⟨ad', hrun⟩ := hz0 e e' ad _ cap hu hle hx hz
      exact wp_of_run hrun (hn _ _ [] _ _ _ _ h (.refl hc.mem) (VR.emp.2 ⟨_, rfl⟩))
  · cases h

end VM
end

section
/- The value machine, sixteenth text: append. -/
namespace VM
open Go
variable {P : Program} {E : Env} {o : Oper} {a : Act} {w : World} {M : Nat → Prop} {ν : Nat → Value} {σ : St} {c : Ctx} {α : Type} {r : α} {next : Act → World → Prop} {Q : Exit → Act → World → Prop}

theorem app_nothing {t ty e : TypeId} {i : TypeInfo} (ht : P.underlying t = some (.slice e)) (hi : P.info? e = some i) (base : Option Addr) (n cap : Nat) (h : n ≤ cap) (a' : Option Addr) (cp : Nat) :
    (Builtin.append_ #[t, t] ty #[.slice base n cap, .slice a' 0 cp]).run P w = .ok (.slice base n cap) w := by
  cases a' <;> cases base <;> simp [Builtin.append_, run_underlying ht, Go.sizeOf, typeInfo, hi, Builtin.lenOf, h, Builtin.firstCells, loadCells, loadCellsFrom, storeCells]

theorem app_room {t ty e te : TypeId} {i : TypeInfo} (ht : P.underlying t = some (.slice e)) (hi : P.info? e = some i) {b n cap m cp : Nat} {a' : Addr} {news : List Value} {cs : Array Value}
    (hg : w.heap[b]? = some (.cells cs te (0, 0))) (hs : cs.size = cap * i.size) (hl : news.length = m * i.size) (hn : ∀ j u, news[j]? = some u → w.cell? (a'.add j) = some u) (h1 : ∀ u ∈ news, u.oneCell' = true) (hr : n + m ≤ cap) :
    (Builtin.append_ #[t, t] ty #[.slice (some ⟨b, 0, none⟩) n cap, .slice (some a') m cp]).run P w = .ok (.slice (some ⟨b, 0, none⟩) (n + m) cap) (w.setRow b (spl cs.toList (n * i.size) news).toArray) := by
  have hf := run_firstCells_some (P := P) w i.size m a' m cp news hl hn
  have hm : (n + m) * i.size ≤ cap * i.size := Nat.mul_le_mul_right _ hr
  rw [Nat.add_mul] at hm
  have hst := run_storeCells_at (P := P) b (n * i.size) te news 0 cs w hg (by omega) h1
  simp only [Nat.add_zero] at hst
  simp [Builtin.append_, run_underlying ht, Go.sizeOf, typeInfo, hi, Builtin.lenOf, hr, hf, Addr.add_lit, hst, spl]

theorem run_append_op {args : Array Operand} {t : TypeId} {x y : Operand} {v : Value} {w' : World} (ho : o.op = .call { callee := .builtin .append, args, argTypes := #[t, t] }) (ha : args.toList = [x, y])
    (h : (Builtin.append_ #[t, t] o.type #[a.eval x, a.eval y]).run P w = .ok v w') : (execOp a.eval o).run P w = .ok (.value v) w' := by
  obtain ⟨cs, hr⟩ := run_builtin_op (P := P) (ρ := a.eval) ho (w := w)
  rw [hr]
  have : args.map a.eval = #[a.eval x, a.eval y] := by apply Array.ext'; simp [ha]
  rw [this]
  simp [builtin, h]

/-- What an append hands back: a slice of the call's own, of the old elements and the new ones; 'H': the entries, without the old slice. -/
theorem app_grow {H : Nat → Option Ent} (hm : Mem c H w M ν) {id : Nat} (hid : H id = none) {t ty : TypeId} {e' : TypeId} {e : Ty} (hu : P.underlying t = some (.slice e')) (hle : Lay P e e')
    {xs ys : List e.den} {olds news : List Value} {base : Option Addr} {cap cp : Nat} {a' : Addr} (hbase : base = none → xs = [] ∧ cap = 0)
    (hlo : olds.length = xs.length * e.size) (hro : RdL w M e olds xs) (ho : ∀ b, base = some b → ∀ j u, olds[j]? = some u → w.cell? (b.add j) = some u)
    (hln : news.length = ys.length * e.size) (hrn : RdL w M e news ys) (hn : ∀ j u, news[j]? = some u → w.cell? (a'.add j) = some u)
    (hg : cap < xs.length + ys.length) (hs : xs.length + ys.length < big) :
    ∃ v w' M' ν', (Builtin.append_ #[t, t] ty #[.slice base xs.length cap, .slice (some a') ys.length cp]).run P w = .ok v w' ∧ Tr c H w M ν (updH H id (some (.own e (xs ++ ys)))) w' M' ν' ∧ ν' id = v := by
  obtain ⟨i, hi, hsz, hz, hby⟩ := hle.base
  have hzs : (ofCells e e.zcells).cells.size = e.size := by rw [← Array.length_toList, ofCells_zero, length_zcells]
  have h63 : xs.length + ys.length ≤ maxLen := by simp only [big, maxLen] at hs ⊢; omega
  have hfit : (xs.length + ys.length) * i.bytes ≤ 140737488355328 := by
    have : (xs.length + ys.length) * i.bytes ≤ 68719476736 * 2048 := Nat.mul_le_mul (by simp only [big] at hs; omega) hby
    omega
  have hrun : ∃ cap' rest, (Builtin.append_ #[t, t] ty #[.slice base xs.length cap, .slice (some a') ys.length cp]).run P w = .ok (.slice (some ⟨w.heap.size, 0, none⟩) (xs.length + ys.length) cap') (w.drew.alloc (.cells (olds ++ news ++ rest).toArray e')) ∧
      xs.length + ys.length ≤ cap' ∧ cap' ≤ maxLen ∧ rest.length = (cap' - (xs.length + ys.length)) * e.size := by
    refine ⟨grownCap w (xs.length + ys.length) cap e', (Builtin.zeroCells (ofCells e e.zcells).cells (grownCap w (xs.length + ys.length) cap e' - (xs.length + ys.length))).toList, ?_, grownCap_ge _ _ _ _, grownCap_le_maxLen _ _ _ _ h63, ?_⟩
    · cases base with
      | none =>
        obtain ⟨rfl, rfl⟩ := hbase rfl
        have ho0 : olds = [] := List.eq_nil_of_length_eq_zero (by rw [hlo]; simp)
        subst ho0
        have := run_append_nil (P := P) w t ty e' i _ hu hi hz a' ys.length cp news (by rw [hln, hsz]) hn (by simpa using hg) (by simp only [big] at hs; omega) (by simp at hfit; omega)
        simp only [List.length_nil, Nat.zero_add, List.nil_append]
        rw [this]
        congr 2
        apply congrArg (fun z => Obj.cells z e' (0, 0))
        apply Array.ext'; simp
      | some b =>
        have := run_append_grow (P := P) w t ty e' i _ hu hi hz b xs.length cap olds (by rw [hlo, hsz]) (ho b rfl) a' ys.length cp news (by rw [hln, hsz]) hn hg (by simp only [big] at hs; omega) (growslice_fits hg hfit)
        rw [this]
        congr 2
        apply congrArg (fun z => Obj.cells z e' (0, 0))
        apply Array.ext'; simp
    · rw [Array.length_toList, size_zeroCells, hzs]
  obtain ⟨cap', rest, hrun, hc1, hc2, hrest⟩ := hrun
  have hlen : (xs ++ ys).length = xs.length + ys.length := List.length_append
  have hd := Tr.drew hm
  have hon : (olds ++ news).length = (xs ++ ys).length * e.size := by rw [List.length_append, hlo, hln, hlen, Nat.add_mul]
  have hrow := Tr.row hd.mem hid e' (e := e) (cs := (olds ++ news ++ rest).toArray) (l := xs ++ ys) (cap := cap') (by rw [hlen]; exact hc1) hc2
    (by rw [List.size_toArray, List.length_append, hon, hrest, hlen, ← Nat.add_mul]; congr 1; omega)
    (RdL.more ((hro.append hlo hrn).keep hd.keep) (by rw [hon]; exact Nat.le_refl _))
  refine ⟨_, _, _, _, hrun, hd.trans hrow, ?_⟩
  rw [← hlen]; simp [updν]

theorem op_append (hE : EnvTy P E) (hc : Core c σ a.tmps w M ν) {args : Array Operand} {ts : Array TypeId} {t t' : TypeId} {x y : Operand} (ho : o.op = .call { callee := .builtin .append, args, argTypes := ts }) (ha : args.toList = [x, y]) (hts : ts.toList = [t, t']) {K : OpK α} {e : Ty}
    (ht : E.ty t = some (.slice e)) {id : Nat} (h : cond (Nat.beq t t') (newK σ.H id (.own e []) (appK id e (σ.ρ x) (σ.ρ y) σ.H K)) none = some r) (hn : Goes1 c σ a o w M ν K r next) : o.wp P a w next Q := by
  obtain ⟨htt, h1⟩ := cond_inv h
  clear h
  have htt := Nat.eq_of_beq_eq_true htt
  subst htt
  obtain ⟨hid, h⟩ := newK_inv h1
  clear h1
  have hts' : ts = #[t, t] := by apply Array.ext'; simpa using hts
  subst hts'
  obtain ⟨e', hu, hle⟩ := (hE.ty t _ ht).slice
  obtain ⟨i, hi, hsz, hz, hby⟩ := hle.base
  have hxv := hc.ev x
  unfold appK at h
  obtain ⟨ys, rd, h, hS⟩ := readK_sound hc.mem (hc.ev y) h
  -- nothing is appended, or there are cells
  have hsrc : (ys = [] ∧ ∃ a' cp, a.eval y = .slice a' 0 cp) ∨ (ys ≠ [] ∧ ∃ a' cp news, a.eval y = .slice (some a') ys.length cp ∧ news.length = ys.length * e.size ∧ (∀ j u, news[j]? = some u → w.cell? (a'.add j) = some u) ∧ RdL w M e news ys ∧ ∀ u ∈ news, u.oneCell' = true) := by
    by_cases hy : ys = []
    · left
      obtain ⟨a', cp, hv, _⟩ := hS
      exact ⟨hy, a', cp, by rw [hv, hy]; rfl⟩
    · right
      obtain ⟨b, off, cp, news, hv, hl, hat, hrd, h1⟩ := hS.cells hy
      exact ⟨hy, ⟨b, off, none⟩, cp, news, hv, hl, fun j u hj => by rw [Addr.add_lit]; exact hat j u hj, hrd, h1⟩
  split at h
  · -- onto nothing
    rename_i hx
    rw [hx] at hxv
    obtain ⟨ad, hxv⟩ := VR.emp.1 hxv
    obtain ⟨hsm, h⟩ := cond_inv h
    rw [small_eq] at hsm
    have hsm := of_decide_eq_true hsm
    rcases hsrc with ⟨rfl, a', cp, hyv⟩ | ⟨hy, a', cp, news, hyv, hl, hat, hrd, h1⟩
    · refine wp_of_run (run_append_op ho ha (by rw [hxv, hyv]; exact app_nothing hu hi ad 0 0 (Nat.le_refl _) a' cp)) (hn _ _ _ _ _ _ _ h (Tr.nothing hc.mem hid e ad) ?_)
      simp only [VR]
      exact ⟨by show updH _ id _ id ≠ none; rw [updH_same]; simp, by simp [updν]⟩
    · have hpos : 0 < ys.length := List.length_pos_iff.2 hy
      obtain ⟨v, w', M', ν', hrun, htr, hv⟩ := app_grow (P := P) (ty := o.type) hc.mem hid hu hle (xs := []) (ys := ys) (olds := []) (news := news) (base := ad) (cap := 0) (cp := cp) (a' := a') (fun _ => ⟨rfl, rfl⟩) (by simp) (fun i hi => absurd hi (by simp)) (fun _ _ j u hj => by simp at hj)
        hl hrd hat (by simpa using hpos) (by simpa using hsm)
      refine wp_of_run (run_append_op ho ha (by rw [hxv, hyv]; exact hrun)) (hn _ _ _ _ _ _ _ h htr ?_)
      simp only [VR]
      exact ⟨by show updH _ id _ id ≠ none; rw [updH_same]; simp, hv.symm⟩
  · -- onto a slice of one's own
    rename_i j hx
    rw [hx] at hxv
    simp only [VR] at hxv
    obtain ⟨_, hxv⟩ := hxv
    split at h
    · rename_i e1 l hj
      obtain ⟨e2, h⟩ := castK_inv h
      cases e2
      obtain ⟨hsm, h⟩ := cond_inv h
      rw [small_eq] at hsm
      have hsm : l.length + ys.length < big := of_decide_eq_true hsm
      have hne : id ≠ j := fun e => by rw [e, hj] at hid; cases hid
      have hid1 : updH σ.H j (some .gone) id = none := by rw [updH_ne _ _ hne]; exact hid
      have hg1 := Tr.gone hc.mem j
      have hent := hc.mem.ent j _ hj
      simp only [ER] at hent
      rcases hent with ⟨rfl, ad, hjv⟩ | ⟨b, cs, te, cap, hjv, hg, hM, hc0, hl, hml, hs, hr⟩
      · rw [hjv] at hxv
        rcases hsrc with ⟨rfl, a', cp, hyv⟩ | ⟨hy, a', cp, news, hyv, hl, hat, hrd, h1⟩
        · refine wp_of_run (run_append_op ho ha (by rw [hxv, hyv]; exact app_nothing hu hi ad 0 0 (Nat.le_refl _) a' cp)) (hn _ _ _ _ _ _ _ h (hg1.trans (Tr.nothing hg1.mem hid1 e ad)) ?_)
          simp only [VR]
          exact ⟨by show updH _ id _ id ≠ none; rw [updH_same]; simp, by simp [updν]⟩
        · have hpos : 0 < ys.length := List.length_pos_iff.2 hy
          obtain ⟨v, w', M', ν', hrun, htr, hv⟩ := app_grow (P := P) (ty := o.type) hg1.mem hid1 hu hle (xs := []) (ys := ys) (olds := []) (news := news) (base := ad) (cap := 0) (cp := cp) (a' := a') (fun _ => ⟨rfl, rfl⟩) (by simp) (fun i hi => absurd hi (by simp)) (fun _ _ j u hj => by simp at hj)
            hl hrd hat (by simpa using hpos) (by simpa using hsm)
          refine wp_of_run (run_append_op ho ha (by rw [hxv, hyv]; exact hrun)) (hn _ _ _ _ _ _ _ h (hg1.trans htr) ?_)
          simp only [VR]
          exact ⟨by show updH _ id _ id ≠ none; rw [updH_same]; simp, hv.symm⟩
      · rw [hjv] at hxv
        have hcl : cs.toList.length = cap * e.size := by rw [Array.length_toList, hs]
        have hll : l.length * e.size ≤ cap * e.size := Nat.mul_le_mul_right _ hl
        rcases hsrc with ⟨rfl, a', cp, hyv⟩ | ⟨hy, a', cp, news, hyv, hln, hat, hrd, h1⟩
        · refine wp_of_run (run_append_op ho ha (by rw [hxv, hyv]; exact app_nothing hu hi _ _ cap hl a' cp)) (hn _ _ _ _ _ M (updν ν id (ν j)) h ?_ ?_)
          · refine Tr.rename hc.mem hj hid (.inr rfl) ?_
            rw [List.append_nil]
            exact hc.mem.ent j _ hj
          · simp only [VR]
            exact ⟨by show updH _ id _ id ≠ none; rw [updH_same]; simp, by simp [updν, hjv]⟩
        · by_cases hroom : l.length + ys.length ≤ cap
          · have hmul : (l.length + ys.length) * e.size ≤ cap * e.size := Nat.mul_le_mul_right _ hroom
            rw [Nat.add_mul] at hmul
            have hrun := app_room (P := P) (ty := o.type) hu hi (w := w) (b := b) (n := l.length) (cap := cap) (m := ys.length) (cp := cp) (a' := a') (news := news) (cs := cs) hg (by rw [hs, hsz]) (by rw [hln, hsz]) hat h1 hroom
            rw [hsz] at hrun
            have hspl : spl cs.toList (l.length * e.size) news = (cs.toList.take (l.length * e.size) ++ news) ++ cs.toList.drop (l.length * e.size + news.length) := rfl
            have hold : RdL w M e (cs.toList.take (l.length * e.size)) l := RdL.take hr (Nat.le_refl _)
            have htl : (cs.toList.take (l.length * e.size)).length = l.length * e.size := by rw [List.length_take]; omega
            have hboth : RdL w M e (spl cs.toList (l.length * e.size) news) (l ++ ys) := by
              rw [hspl]
              refine RdL.more (hold.append htl hrd) ?_
              rw [List.length_append, List.length_append, htl, hln, Nat.add_mul]; exact Nat.le_refl _
            have hsl : (spl cs.toList (l.length * e.size) news).length = cap * e.size := by rw [length_spl (by omega)]; exact hcl
            have htr1 : Tr c σ.H w M ν (updH σ.H j (some (.own e l))) (w.setRow b (spl cs.toList (l.length * e.size) news).toArray) M ν := by
              refine Tr.write (e' := .own e l) hc.mem hj trivial trivial (.refl _) (by rw [hjv]; simp [blk]; omega) hg fun M'' hk hM'' => ?_
              simp only [ER]
              refine .inr ⟨b, _, te, cap, hjv, setRow_heap w b cs _ te _ hg, hM'', hc0, hl, hml, by rw [List.size_toArray]; exact hsl, fun k hk' => ?_⟩
              have := (hboth k (by rw [List.length_append]; omega)).keep hk
              rw [List.getElem_append_left hk'] at this
              exact this
            rw [updH_self hj] at htr1
            have htr2 : Tr c σ.H (w.setRow b (spl cs.toList (l.length * e.size) news).toArray) M ν (updH (updH σ.H j (some .gone)) id (some (.own e (l ++ ys)))) (w.setRow b (spl cs.toList (l.length * e.size) news).toArray) M (updν ν id (.slice (some ⟨b, 0, none⟩) (l ++ ys).length cap)) := by
              refine Tr.rename htr1.mem hj hid (.inr (by rw [hjv]; simp [blk])) ?_
              simp only [ER]
              refine .inr ⟨b, _, te, cap, rfl, setRow_heap w b cs _ te _ hg, hM, hc0, by rw [List.length_append]; exact hroom, hml, by rw [List.size_toArray]; exact hsl, (hboth.keep htr1.keep)⟩
            refine wp_of_run (run_append_op ho ha (by rw [hxv, hyv]; exact hrun)) (hn _ _ _ _ _ _ _ h (htr1.trans htr2) ?_)
            simp only [VR]
            exact ⟨by show updH _ id _ id ≠ none; rw [updH_same]; simp, by simp [updν]⟩
          · obtain ⟨v, w', M', ν', hrun, htr, hv⟩ := app_grow (P := P) (ty := o.type) hg1.mem hid1 hu hle (xs := l) (ys := ys) (olds := cs.toList.take (l.length * e.size)) (news := news) (base := some ⟨b, 0, none⟩) (cap := cap) (cp := cp) (a' := a') (fun h => by cases h)
              (by rw [List.length_take]; omega) (RdL.take hr (Nat.le_refl _)) (fun b' hb' k u hk => by
                cases hb'
                rw [Addr.add_lit, cell_of hg]
                rw [List.getElem?_take] at hk
                split at hk
                · rw [← Array.getElem?_toList]; simpa using hk
                · cases hk)
              hln hrd hat (by omega) hsm
            refine wp_of_run (run_append_op ho ha (by rw [hxv, hyv]; exact hrun)) (hn _ _ _ _ _ _ _ h (hg1.trans htr) ?_)
            simp only [VR]
            exact ⟨by show updH _ id _ id ≠ none; rw [updH_same]; simp, hv.symm⟩
    · cases h
  · cases h

end VM
end

section
/- The value machine, seventeenth text: what a call hands over, and what a summary says. -/
namespace VM
open Go
variable {P : Program} {E : Env} {o : Oper} {a : Act} {w : World} {M : Nat → Prop} {ν : Nat → Value} {σ : St} {c : Ctx} {α : Type} {r : α} {next : Act → World → Prop} {Q : Exit → Act → World → Prop}

def hpH : {m : AM} → {ms : List AM} → HP (m :: ms) → m.den
  | _, [], x => x
  | _, _ :: _, x => x.1
def hpT : {m : AM} → {ms : List AM} → HP (m :: ms) → HP ms
  | _, [], _ => ()
  | _, _ :: _, x => x.2

def AM.isIo : AM → Bool
  | .io _ => true
  | _ => false
def AM.isFn : AM → Bool
  | .fn _ _ | .adr _ => true
  | _ => false

/-- How one parameter or result lies in memory. -/
def A1 (w : World) (M : Nat → Prop) : (m : AM) → m.den → Value → Prop
  | .v τ, x, v => V w M τ v x
  | .own e, x, v => ER w M v (.own e x)
  | .io τ, x, v => ER w M v (.obj τ x)
  | .fn f τ, x, v => VR w M (fun _ => none) (fun _ => undef) (.clo f (capsL τ x)) v
  | .ptr τ, x, v => ER w M v (.obj τ x)
  | .adr τ, x, v => VR w M (fun _ => none) (fun _ => undef) (.iadr τ x) v

def ArgsR (w : World) (M : Nat → Prop) : (ms : List AM) → HP ms → List Value → Prop
  | [], _, vs => vs = []
  | _ :: ms, x, vs => ∃ v vs', vs = v :: vs' ∧ A1 w M _ (hpH x) v ∧ ArgsR w M ms (hpT x) vs'

/-- The blocks that are handed over. -/
def hand1 : AM → Value → List Nat
  | .own _, v | .io _, v | .ptr _, v => (blk v).toList
  | _, _ => []
def hands : List AM → List Value → List Nat
  | m :: ms, v :: vs => hand1 m v ++ hands ms vs
  | _, _ => []
def iosOf : List AM → List Value → List Value
  | m :: ms, v :: vs => if m.isIo then v :: iosOf ms vs else iosOf ms vs
  | _, _ => []
def ioTys : List AM → List Ty
  | .io τ :: ms => τ :: ioTys ms
  | _ :: ms => ioTys ms
  | [] => []

def RR (w : World) (M : Nat → Prop) : (ms : List AM) → HP ms → List Value → List Value → Prop
  | [], _, vs, ps => vs = [] ∧ ps = []
  | m :: ms, x, vs, ps => (∃ p ps', m.isIo = true ∧ ps = p :: ps' ∧ A1 w M m (hpH x) p ∧ RR w M ms (hpT x) vs ps') ∨
      (∃ v vs', m.isIo = false ∧ m.isFn = false ∧ vs = v :: vs' ∧ A1 w M m (hpH x) v ∧ RR w M ms (hpT x) vs' ps)
def blocksR : List AM → List Value → List Value → List Nat
  | [], _, _ => []
  | m :: ms, vs, ps => if m.isIo then hand1 m (ps.headD undef) ++ blocksR ms vs ps.tail else hand1 m (vs.headD undef) ++ blocksR ms vs.tail ps

def Ty.flat : Ty → Bool
  | .slice _ => false
  | .pair a b => a.flat && b.flat
  | .arr _ e => e.flat
  | _ => true
def AM.flat : AM → Bool
  | .v τ | .io τ | .own τ | .ptr τ => τ.flat
  | .fn _ _ | .adr _ => false

def packV (vs : List Value) : Value := if h : vs.length = 1 then vs[0] else .tuple vs.toArray

/-- What a call leaves behind it. -/
structure Left (w : World) (M0 : Nat → Prop) (hs : List Nat) (w' : World) (M' : Nat → Prop) : Prop where
  sub : ∀ b, M0 b → M' b
  lim : ∀ b, M' b → b < w'.heap.size
  less : ∀ b, b < w.heap.size → M' b → M0 b ∨ b ∈ hs
  frame : ∀ b, b < w.heap.size → b ∉ hs → w'.heap[b]? = w.heap[b]?
  size : w.heap.size ≤ w'.heap.size
  os : w'.os = w.os
  tape : w'.tape = w.tape
  output : w'.output = w.output

/-- What a call comes to. -/
def Does (P : Program) (f : FuncId) (args : Array Value) (w : World) (R : Value → World → Prop) : Prop :=
  ∀ (o : Oper) (a : Act) (next : Act → World → Prop) (Q : Exit → Act → World → Prop), (∀ v w', R v w' → next (a.put o.dst v) w') → o.upon P a next Q ((callFunc f args).run P w)

theorem Does.mono {f : FuncId} {args : Array Value} {R R' : Value → World → Prop} (h : Does P f args w R) (hr : ∀ v w', R v w' → R' v w') : Does P f args w R' :=
  fun o a next Q hn => h o a next Q fun v w' hv => hn v w' (hr v w' hv)

theorem does_of_calls {f : FuncId} {fn : Func} {args : Array Value} {R : Value → World → Prop} (hf : P.funcs[f]? = some fn) (hn : (fn.name == "runtime.NumGoroutine") = false) (hb : fn.body.isNone = false)
    (h : Calls P f args w fun e w' => ∃ v, e = .returned v ∧ R v w') : Does P f args w R := by
  intro o a next Q hnext
  have hn' : ¬ fn.name = "runtime.NumGoroutine" := by simpa using hn
  have hb' : ¬ fn.body = none := fun e => by rw [e] at hb; cases hb
  have : (callFunc f args).run P w = .ok (.enter f args) w := by simp [callFunc, hf, hn', hb']
  rw [this, Oper.upon_enter]
  refine Calls.mono h ?_
  rintro e w' ⟨v, rfl, hR⟩
  exact hnext v w' hR

theorem does_of_value {f : FuncId} {args : Array Value} {R : Value → World → Prop} {v : Value} {w' : World} (h : (callFunc f args).run P w = .ok (.value v) w') (hR : R v w') : Does P f args w R := by
  intro o a next Q hnext
  rw [h, Oper.upon_value]
  exact hnext v w' hR

/-- A summary is true of a function. -/
structure SumOk (P : Program) (f : FuncId) (S : Summ) : Prop where
  quiet : S.quiet = true → S.res.all AM.flat = true
  ios : ioTys S.args = ioTys S.res
  call : ∀ (M0 : Nat → Prop) (w : World) (vs : List Value) (x : HP S.args) (y : HP S.res), (∀ b, M0 b → b < w.heap.size) →
    ArgsR w (fun b => M0 b ∨ b ∈ hands S.args vs) S.args x vs → (hands S.args vs).Nodup → (∀ b ∈ hands S.args vs, ¬ M0 b) → S.run x = some y →
    Does P f vs.toArray w fun v w' => ∃ us M', v = packV us ∧ RR w' M' S.res y us (iosOf S.args vs) ∧ Left w M0 (hands S.args vs) w' M' ∧
      (blocksR S.res us (iosOf S.args vs)).Nodup ∧ ∀ b ∈ blocksR S.res us (iosOf S.args vs), ¬ M0 b

/-! ### Flat values -/
theorem Rd.flat {w : World} {M M' : Nat → Prop} : ∀ {τ : Ty} {cs : List Value} {x : τ.den}, τ.flat = true → Rd w M τ cs x → Rd w M' τ cs x
  | .int _, _, _, _, h | .bool, _, _, _, h | .str, _, _, _, h | .unit, _, _, _, h => h
  | .slice _, _, _, hf, _ => by simp [Ty.flat] at hf
  | .pair a b, _, _, hf, h => by
    simp only [Ty.flat, Bool.and_eq_true] at hf
    simp only [Rd] at h ⊢
    obtain ⟨c1, c2, rfl, h1, h2⟩ := h
    exact ⟨c1, c2, rfl, h1.flat hf.1, h2.flat hf.2⟩
  | .arr n e, _, x, hf, h => by
    simp only [Ty.flat] at hf
    simp only [Rd] at h ⊢
    obtain ⟨hn, css, hc, rfl, hr⟩ := h
    exact ⟨hn, css, hc, rfl, fun i hi hi' => (hr i hi hi').flat hf⟩

theorem A1.flat {w : World} {M M' : Nat → Prop} (hM : ∀ b, M b → M' b) {m : AM} {x : m.den} {v : Value} (hf : m.flat = true) (h : A1 w M m x v) : A1 w M' m x v := by
  cases m with
  | v τ =>
    simp only [A1, V, AM.flat] at h hf ⊢
    split
    · rename_i ha; rw [if_pos ha] at h; obtain ⟨cs, h1, h⟩ := h; exact ⟨cs, h1, h.flat hf⟩
    · rename_i ha; rw [if_neg ha] at h; exact h.flat hf
  | own e =>
    simp only [A1, ER, AM.flat] at h hf ⊢
    rcases h with h | ⟨b, cs, t, cap, h1, h2, h3, h4, h5, h6, h7, h8⟩
    · exact .inl h
    · exact .inr ⟨b, cs, t, cap, h1, h2, hM b h3, h4, h5, h6, h7, fun i hi => (h8 i hi).flat hf⟩
  | io τ =>
    simp only [A1, ER, AM.flat] at h hf ⊢
    obtain ⟨b, cs, t, h1, h2, h3, h4⟩ := h
    exact ⟨b, cs, t, h1, h2, hM b h3, h4.flat hf⟩
  | fn f τ => simp [AM.flat] at hf
  | adr τ => simp [AM.flat] at hf
  | ptr τ =>
    simp only [A1, ER, AM.flat] at h hf ⊢
    obtain ⟨b, cs, t, h1, h2, h3, h4⟩ := h
    exact ⟨b, cs, t, h1, h2, hM b h3, h4.flat hf⟩

theorem RR.flat {w : World} {M M' : Nat → Prop} (hM : ∀ b, M b → M' b) : ∀ {ms : List AM} {x : HP ms} {vs ps : List Value}, ms.all AM.flat = true → RR w M ms x vs ps → RR w M' ms x vs ps
  | [], _, _, _, _, h => h
  | m :: ms, x, vs, ps, hf, h => by
    simp only [List.all_cons, Bool.and_eq_true] at hf
    simp only [RR] at h ⊢
    rcases h with ⟨p, ps', h1, h2, h3, h4⟩ | ⟨v, vs', h1, h2, h3, h4, h5⟩
    · exact .inl ⟨p, ps', h1, h2, h3.flat hM hf.1, RR.flat hM hf.2 h4⟩
    · exact .inr ⟨v, vs', h1, h2, h3, h4.flat hM hf.1, RR.flat hM hf.2 h5⟩

/-- What stays when memory grows. -/
theorem A1.keepV {w w' : World} {M M' : Nat → Prop} (k : Keeps w M w' M') {m : AM} {x : m.den} {v : Value} (hm : ∀ b ∈ hand1 m v, w'.heap[b]? = w.heap[b]? ∧ M' b) (h : A1 w M m x v) : A1 w' M' m x v := by
  cases m with
  | v τ => exact V.keep k h
  | own e =>
    simp only [A1] at h ⊢
    exact ER.keep k (fun _ b hb => hm b (by simp [hand1, hb])) h
  | io τ =>
    simp only [A1] at h ⊢
    exact ER.keep k (fun _ b hb => hm b (by simp [hand1, hb])) h
  | fn f τ => exact VR.keep k (.refl _ _) h
  | adr τ => exact VR.keep k (.refl _ _) h
  | ptr τ =>
    simp only [A1] at h ⊢
    exact ER.keep k (fun _ b hb => hm b (by simp [hand1, hb])) h

theorem ArgsR.keepV {w w' : World} {M M' : Nat → Prop} (k : Keeps w M w' M') : ∀ {ms : List AM} {x : HP ms} {vs : List Value}, (∀ b ∈ hands ms vs, w'.heap[b]? = w.heap[b]? ∧ M' b) → ArgsR w M ms x vs → ArgsR w' M' ms x vs
  | [], _, _, _, h => h
  | m :: ms, x, vs, hm, h => by
    simp only [ArgsR] at h ⊢
    obtain ⟨v, vs', rfl, h1, h2⟩ := h
    exact ⟨v, vs', rfl, h1.keepV k (fun b hb => hm b (by simp [hands, hb])), ArgsR.keepV k (fun b hb => hm b (by simp [hands, hb])) h2⟩

theorem RR.keepV {w w' : World} {M M' : Nat → Prop} (k : Keeps w M w' M') : ∀ {ms : List AM} {x : HP ms} {us ps : List Value}, (∀ b ∈ blocksR ms us ps, w'.heap[b]? = w.heap[b]? ∧ M' b) → RR w M ms x us ps → RR w' M' ms x us ps
  | [], _, _, _, _, h => h
  | m :: ms, x, us, ps, hm, h => by
    simp only [RR] at h ⊢
    rcases h with ⟨p, ps', h1, rfl, h2, h3⟩ | ⟨v, us', h1, h2, rfl, h3, h4⟩
    · simp only [blocksR, h1, if_true, List.headD_cons, List.tail_cons, List.mem_append] at hm
      exact .inl ⟨p, ps', h1, rfl, h2.keepV k (fun b hb => hm b (.inl hb)), RR.keepV k (fun b hb => hm b (.inr hb)) h3⟩
    · simp only [blocksR, h1, Bool.false_eq_true, if_false, List.headD_cons, List.tail_cons, List.mem_append] at hm
      exact .inr ⟨v, us', h1, h2, rfl, h3.keepV k (fun b hb => hm b (.inl hb)), RR.keepV k (fun b hb => hm b (.inr hb)) h4⟩

/-- A value out of what a temporary holds; which blocks may be written still. -/
theorem asVK_at {H : Nat → Option Ent} (hm : Mem c H w M ν) {a : AVal} {v : Value} (hv : VR w M H ν a v) {τ : Ty} {k : τ.den → List Nat → Ups → Option α} {r : α} (h : asVK true a H τ k = some r) :
    ∃ y rd ups, k y rd ups = some r ∧ ((ups = [] ∧ V w M τ v y) ∨ ∃ id e l, ups = [(id, some (.frz e l))] ∧ H id = some (.own e l) ∧
      ∀ M', (∀ b, M' b ↔ (M b ∧ blk (ν id) ≠ some b)) → V w M' τ v y) := by
  unfold asVK at h
  split at h
  · obtain ⟨e, h⟩ := castK_inv h
    subst e
    simp only [VR] at hv
    exact ⟨_, [], [], h, .inl ⟨rfl, hv⟩⟩
  · obtain ⟨e, h⟩ := castK_inv h
    subst e
    simp only [VR] at hv
    exact ⟨_, [], [], h, .inl ⟨rfl, hv.1⟩⟩
  · split at h
    · rename_i e k' _
      simp only [VR] at hv
      obtain ⟨a, rfl⟩ := hv
      refine ⟨[], [], [], h, .inl ⟨rfl, V.slice.2 ?_⟩⟩
      simp only [Rd]
      exact ⟨a, 0, rfl, Nat.le_refl _, fun i hi => absurd hi (by simp)⟩
    · cases h
  · rename_i id
    simp only [VR] at hv
    obtain ⟨_, rfl⟩ := hv
    split at h
    · rename_i e l hid
      obtain ⟨e', h⟩ := castK_inv h
      subst e'
      refine ⟨_, _, _, h, .inr ⟨id, e, l, rfl, hid, fun M' hM' => ?_⟩⟩
      obtain ⟨M2, _, hV, hM2⟩ := Tr.freeze hm hid
      have : M' = M2 := by funext b; exact propext ((hM' b).trans (hM2 b).symm)
      rw [this]; exact hV
    · rename_i e l hid
      obtain ⟨e', h⟩ := castK_inv h
      subst e'
      have := hm.ent id _ hid
      simp only [ER] at this
      exact ⟨_, _, _, h, .inl ⟨rfl, V.slice.2 this.1⟩⟩
    · cases h
  · cases h

theorem cap1K_at {H : Nat → Option Ent} (hm : Mem c H w M ν) : ∀ {a : Ty} {x : AVal} {v : Value} {k : a.den → List Nat → Ups → Option α} {r : α}, VR w M H ν x v → cap1K x H a k = some r →
    ∃ y rd ups, k y rd ups = some r ∧ (ups = [] → VR w M (fun _ => none) (fun _ => undef) (cap1L a y) v) := by
  intro a x v k r hv h
  unfold cap1K at h
  split at h
  · rename_i a k
    split at h
    · rename_i υ z
      obtain ⟨e1, h⟩ := castK_inv h
      subst e1
      refine ⟨_, _, _, h, fun _ => ?_⟩
      simp only [cap1L, VR] at hv ⊢
      exact hv
    · cases h
  · rename_i k0 hno
    obtain ⟨y, rd, ups, h, hy⟩ := asVK_at hm hv h
    refine ⟨y, rd, ups, h, fun hu => ?_⟩
    rcases hy with ⟨_, hy⟩ | ⟨_, _, _, h3, _⟩
    · have : cap1L _ y = .val _ y := by
        unfold cap1L
        split
        · exact (hno _ _ rfl HEq.rfl).elim
        · rfl
      rw [this]
      simp only [VR]; exact hy
    · rw [hu] at h3; cases h3

theorem capsK_at {H : Nat → Option Ent} (hm : Mem c H w M ν) : ∀ {τ : Ty} {as' : List AVal} {vs : List Value} {k : τ.den → List Nat → Ups → Option α} {r : α}, VRs w M H ν as' vs → capsK H τ as' k = some r →
    ∃ x rd ups, k x rd ups = some r ∧ (ups = [] → VRs w M (fun _ => none) (fun _ => undef) (capsL τ x) vs)
  | .unit, [], [], k, r, _, h => ⟨(), [], [], h, fun _ => by simp [capsL, VRs]⟩
  | .pair a b, x :: xs, v :: vs, k, r, hv, h => by
    simp only [VRs] at hv
    unfold capsK at h
    obtain ⟨y, rd, ups, h, hy⟩ := cap1K_at hm hv.1 h
    obtain ⟨ys, rd', ups', h, hys⟩ := capsK_at hm hv.2 h
    refine ⟨(y, ys), _, _, h, fun hu => ?_⟩
    have h1 : ups = [] := (List.append_eq_nil_iff.1 hu).1
    have h2 : ups' = [] := (List.append_eq_nil_iff.1 hu).2
    simp only [capsL, VRs]
    exact ⟨hy h1, hys h2⟩
  | .unit, [], _ :: _, _, _, hv, _ => by simp [VRs] at hv
  | _, _ :: _, [], _, _, hv, _ => by simp [VRs] at hv
  | .unit, _ :: _, _, _, _, _, h => by simp [capsK] at h
  | .pair _ _, [], _, _, _, _, h => by simp [capsK] at h
  | .int _, _, _, _, _, _, h | .bool, _, _, _, _, _, h | .str, _, _, _, _, _, h | .slice _, _, _, _, _, _, h | .arr _ _, _, _, _, _, _, h => by simp [capsK] at h

end VM
end

section
/- The value machine, eighteenth text: the arguments of a call. -/
namespace VM
open Go
variable {P : Program} {E : Env} {o : Oper} {a : Act} {w : World} {M : Nat → Prop} {ν : Nat → Value} {σ : St} {c : Ctx} {α : Type} {r : α} {next : Act → World → Prop} {Q : Exit → Act → World → Prop}

def keys {β : Type} (l : List (Nat × β)) : List Nat := l.map (·.1)

theorem upsH_not {i : Nat} : ∀ {ups : Ups} {H : Nat → Option Ent}, i ∉ keys ups → upsH H ups i = H i
  | [], _, _ => rfl
  | u :: r, H, h => by
    simp only [keys, List.map_cons, List.mem_cons, not_or] at h
    show upsH (updH H u.1 u.2) r i = _
    rw [upsH_not h.2, updH_ne _ _ h.1]

theorem upsH_mid (u : Nat × Option Ent) (b : Ups) (hb : u.1 ∉ keys b) : ∀ (a : Ups) (H : Nat → Option Ent), upsH H (a ++ u :: b) = updH (upsH H (a ++ b)) u.1 u.2
  | [], H => by
    show upsH (updH H u.1 u.2) b = updH (upsH H b) u.1 u.2
    induction b generalizing H with
    | nil => rfl
    | cons v b ih =>
      simp only [keys, List.map_cons, List.mem_cons, not_or] at hb
      show upsH (updH (updH H u.1 u.2) v.1 v.2) b = updH (upsH (updH H v.1 v.2) b) u.1 u.2
      rw [← ih hb.2]
      congr 1
      funext i
      by_cases h1 : i = v.1
      · subst h1; rw [updH_same, updH_ne _ _ (Ne.symm hb.1), updH_same]
      · by_cases h2 : i = u.1
        · subst h2; rw [updH_ne _ _ h1, updH_same, updH_same]
        · rw [updH_ne _ _ h1, updH_ne _ _ h2, updH_ne _ _ h2, updH_ne _ _ h1]
  | v :: a, H => upsH_mid u b hb a (updH H v.1 v.2)

/-- The state while the arguments of a call are looked at. 'H0': the entries ahead of the call; 'Hq': without the freezing; 'hs': the blocks that are handed over. -/
structure ArgSt (c : Ctx) (w : World) (M : Nat → Prop) (ν : Nat → Value) (H0 H1 Hq : Nat → Option Ent) (M1 : Nat → Prop) (uo uf : Ups) (io : List (Nat × Ty)) (hs : List Nat) : Prop where
  mem : Mem c H1 w M1 ν
  memq : Mem c Hq w M ν
  keep : Keeps w M w M1
  ext : ∀ i, i ∉ keys io → upsH H0 (uo ++ uf) i = H1 i
  extq : ∀ i, i ∉ keys io → upsH H0 uo i = Hq i
  iog : ∀ q ∈ io, H1 q.1 = some .gone ∧ Hq q.1 = some .gone ∧ ∃ x, H0 q.1 = some (.obj q.2 x)
  ion : (keys io).Nodup
  ks : ∀ i ∈ keys (uo ++ uf), ∀ e l, H1 i ≠ some (.own e l)
  ksn : ∀ i ∈ keys (uo ++ uf), i ∉ keys io ∧ ∃ e l, H0 i = some (.own e l)
  fz : Fz Hq H1
  uov : ∀ u ∈ uo, u.2 = some .gone
  ufv : ∀ u ∈ uf, ∃ e l, u.2 = some (.frz e l) ∧ H0 u.1 = some (.own e l)
  nd : hs.Nodup
  hM : ∀ b ∈ hs, M1 b
  prov : ∀ b ∈ hs, c.B ≤ b ∨ c.may b
  none : ∀ b ∈ hs, ∀ i e, Hq i = some e → e.mut → blk (ν i) ≠ some b
  iob : ∀ b ∈ hs, c.M0 b → ∃ q ∈ io, blk (ν q.1) = some b
  same : ∀ i, i ∉ keys (uo ++ uf) → i ∉ keys io → H1 i = H0 i

theorem ArgSt.start {H : Nat → Option Ent} (hm : Mem c H w M ν) : ArgSt c w M ν H H H M [] [] [] [] :=
  ⟨hm, hm, .refl w M, fun _ _ => rfl, fun _ _ => rfl, fun q hq => by simp at hq, by simp [keys], fun i hi => by simp [keys] at hi, fun i hi => by simp [keys] at hi, .refl H, fun u hu => by simp at hu, fun u hu => by simp at hu, by simp, fun b hb => by simp at hb, fun b hb => by simp at hb, fun b hb => by simp at hb, fun b hb => by simp at hb, fun _ _ _ => rfl⟩

theorem Fz.own' {H H1 : Nat → Option Ent} (h : Fz H H1) {i : Nat} {e : Ty} {l : List e.den} (hi : H1 i = some (.own e l)) : H i = some (.own e l) := by
  rcases h i with h' | ⟨e', l', _, h'⟩
  · rw [← h', hi]
  · rw [hi] at h'; cases h'
theorem Fz.obj' {H H1 : Nat → Option Ent} (h : Fz H H1) {i : Nat} {e : Ty} {l : e.den} (hi : H1 i = some (.obj e l)) : H i = some (.obj e l) := by
  rcases h i with h' | ⟨e', l', _, h'⟩
  · rw [← h', hi]
  · rw [hi] at h'; cases h'
theorem Fz.mut {H H1 : Nat → Option Ent} (h : Fz H H1) {i : Nat} {e : Ent} (hi : H1 i = some e) (hm : e.mut) : H i = some e := by
  cases e with
  | obj => exact h.obj' hi
  | lnk =>
    rcases h i with h' | ⟨e', l', _, h'⟩
    · rw [← h', hi]
    · rw [hi] at h'; cases h'
  | own => exact h.own' hi
  | frz => simp [Ent.mut] at hm
  | gone => simp [Ent.mut] at hm

/-- An own slice is frozen. -/
theorem ArgSt.freeze {H0 H1 Hq : Nat → Option Ent} {M1 : Nat → Prop} {uo uf : Ups} {io : List (Nat × Ty)} {hs : List Nat} (h : ArgSt c w M ν H0 H1 Hq M1 uo uf io hs) {id : Nat} {e : Ty} {l : List e.den} (hid : H1 id = some (.own e l)) :
    ∃ M2, ArgSt c w M ν H0 (updH H1 id (some (.frz e l))) Hq M2 uo ((id, some (.frz e l)) :: uf) io hs ∧ Keeps w M1 w M2 ∧ (∀ b, M2 b ↔ (M1 b ∧ blk (ν id) ≠ some b)) := by
  obtain ⟨M2, htr, _, hM2⟩ := Tr.freeze h.mem hid
  have hio : id ∉ keys io := fun hk => by
    obtain ⟨q, hq, rfl⟩ := List.mem_map.1 hk
    have := (h.iog q hq).1
    rw [hid] at this; cases this
  have hks : id ∉ keys (uo ++ uf) := fun hk => h.ks id hk e l hid
  have hks2 : id ∉ keys uf := fun hk => hks (by simp only [keys, List.map_append, List.mem_append]; exact .inr hk)
  have h0 : H0 id = some (.own e l) := by rw [← h.same id hks hio]; exact hid
  have hq : Hq id = some (.own e l) := h.fz.own' hid
  have hmem : ∀ i, i ∈ keys (uo ++ (id, some (Ent.frz e l)) :: uf) ↔ i = id ∨ i ∈ keys (uo ++ uf) := by
    intro i
    simp only [keys, List.map_append, List.map_cons, List.mem_append, List.mem_cons]
    constructor
    · rintro (h | h | h)
      · exact .inr (.inl h)
      · exact .inl h
      · exact .inr (.inr h)
    · rintro (h | h | h)
      · exact .inr (.inl h)
      · exact .inl h
      · exact .inr (.inr h)
  refine ⟨M2, ⟨htr.mem, h.memq, h.keep.trans htr.keep, fun i hi => ?_, h.extq, fun q hq' => ?_, h.ion, fun i hi e' l' => ?_, fun i hi => ?_, fun i => ?_, h.uov, fun u hu => ?_, h.nd, fun b hb => ?_, h.prov, h.none, h.iob, fun i hi hi' => ?_⟩, htr.keep, hM2⟩
  · rw [upsH_mid _ _ hks2]
    by_cases hii : i = id
    · subst hii; rw [updH_same, updH_same]
    · rw [updH_ne _ _ hii, updH_ne _ _ hii]; exact h.ext i hi
  · obtain ⟨h1, h2, h3⟩ := h.iog q hq'
    have hne : q.1 ≠ id := fun e => hio (e ▸ List.mem_map_of_mem hq')
    exact ⟨by rw [updH_ne _ _ hne]; exact h1, h2, h3⟩
  · by_cases hii : i = id
    · subst hii; rw [updH_same]; intro h'; cases h'
    · rw [updH_ne _ _ hii]
      exact h.ks i (((hmem i).1 hi).resolve_left hii) e' l'
  · rcases (hmem i).1 hi with rfl | hi
    · exact ⟨hio, e, l, h0⟩
    · exact h.ksn i hi
  · by_cases hii : i = id
    · subst hii; exact .inr ⟨e, l, hq, updH_same _ _ _⟩
    · rw [updH_ne _ _ hii]; exact h.fz i
  · rcases List.mem_cons.1 hu with rfl | hu
    · exact ⟨e, l, rfl, h0⟩
    · exact h.ufv u hu
  · exact (hM2 b).2 ⟨h.hM b hb, fun hb' => h.none b hb id _ hq trivial hb'⟩
  · have hne : i ≠ id := fun e => hi ((hmem i).2 (.inl e))
    rw [updH_ne _ _ hne]
    exact h.same i (fun h' => hi ((hmem i).2 (.inr h'))) hi'

/-- An entry is handed over: for good, or to come back. -/
theorem ArgSt.hand {H0 H1 Hq : Nat → Option Ent} {M1 : Nat → Prop} {uo uf : Ups} {io : List (Nat × Ty)} {hs : List Nat} (h : ArgSt c w M ν H0 H1 Hq M1 uo uf io hs) {id : Nat} {e : Ty} {l : List e.den} (hid : H1 id = some (.own e l)) :
    ArgSt c w M ν H0 (updH H1 id (some .gone)) (updH Hq id (some .gone)) M1 ((id, some .gone) :: uo) uf io (hs ++ (blk (ν id)).toList) := by
  have hio : id ∉ keys io := fun hk => by
    obtain ⟨q, hq, rfl⟩ := List.mem_map.1 hk
    have := (h.iog q hq).1
    rw [hid] at this; cases this
  have hks : id ∉ keys (uo ++ uf) := fun hk => h.ks id hk e l hid
  have hks2 : id ∉ keys uo := fun hk => hks (by simp only [keys, List.map_append, List.mem_append]; exact .inl hk)
  have h0 : H0 id = some (.own e l) := by rw [← h.same id hks hio]; exact hid
  have hq : Hq id = some (.own e l) := h.fz.own' hid
  have hmem : ∀ i, i ∈ keys ((id, some Ent.gone) :: uo ++ uf) ↔ i = id ∨ i ∈ keys (uo ++ uf) := by
    intro i
    simp only [keys, List.map_append, List.map_cons, List.cons_append, List.mem_append, List.mem_cons]
  have hnot : ∀ b, blk (ν id) = some b → b ∉ hs := fun b hb hb' => h.none b hb' id _ hq trivial hb
  refine ⟨(Tr.gone h.mem id).mem, (Tr.gone h.memq id).mem, h.keep, fun i hi => ?_, fun i hi => ?_, fun q hq' => ?_, h.ion, fun i hi e' l' => ?_, fun i hi => ?_, fun i => ?_, fun u hu => ?_, h.ufv, ?_, fun b hb => ?_, fun b hb => ?_, fun b hb i e' hi hm => ?_, fun b hb hb0 => ?_, fun i hi hi' => ?_⟩
  · have := upsH_mid (id, some .gone) (uo ++ uf) hks [] H0
    simp only [List.nil_append] at this
    rw [List.cons_append, this]
    by_cases hii : i = id
    · subst hii; rw [updH_same, updH_same]
    · rw [updH_ne _ _ hii, updH_ne _ _ hii]; exact h.ext i hi
  · have := upsH_mid (id, some .gone) uo hks2 [] H0
    simp only [List.nil_append] at this
    rw [this]
    by_cases hii : i = id
    · subst hii; rw [updH_same, updH_same]
    · rw [updH_ne _ _ hii, updH_ne _ _ hii]; exact h.extq i hi
  · obtain ⟨h1, h2, h3⟩ := h.iog q hq'
    have hne : q.1 ≠ id := fun e => hio (e ▸ List.mem_map_of_mem hq')
    exact ⟨by rw [updH_ne _ _ hne]; exact h1, by rw [updH_ne _ _ hne]; exact h2, h3⟩
  · by_cases hii : i = id
    · subst hii; rw [updH_same]; intro h'; cases h'
    · rw [updH_ne _ _ hii]
      exact h.ks i (((hmem i).1 hi).resolve_left hii) e' l'
  · rcases (hmem i).1 hi with rfl | hi
    · exact ⟨hio, e, l, h0⟩
    · exact h.ksn i hi
  · by_cases hii : i = id
    · subst hii; left; rw [updH_same, updH_same]
    · rw [updH_ne _ _ hii, updH_ne _ _ hii]; exact h.fz i
  · rcases List.mem_cons.1 hu with rfl | hu
    · rfl
    · exact h.uov u hu
  · refine List.nodup_append.2 ⟨h.nd, ?_, fun x hx y hy => ?_⟩
    · cases blk (ν id) <;> simp
    · rw [Option.mem_toList] at hy
      intro hxy; subst hxy
      exact hnot x hy hx
  · rcases List.mem_append.1 hb with hb | hb
    · exact h.hM b hb
    · rw [Option.mem_toList] at hb
      exact (h.mem.ent id _ hid).memM trivial hb
  · rcases List.mem_append.1 hb with hb | hb
    · exact h.prov b hb
    · rw [Option.mem_toList] at hb
      exact h.mem.new id _ b hid trivial hb
  · by_cases hii : i = id
    · subst hii; rw [updH_same] at hi; cases hi; simp [Ent.mut] at hm
    · rw [updH_ne _ _ hii] at hi
      rcases List.mem_append.1 hb with hb | hb
      · exact h.none b hb i e' hi hm
      · rw [Option.mem_toList] at hb
        intro hb'
        exact h.memq.dis i id e' _ b hii hi hm hq trivial hb' hb
  · rcases List.mem_append.1 hb with hb | hb
    · exact h.iob b hb hb0
    · rw [Option.mem_toList] at hb
      exact absurd hb0 (h.mem.old id e l b hid hb)
  · have hne : i ≠ id := fun e => hi ((hmem i).2 (.inl e))
    rw [updH_ne _ _ hne]
    exact h.same i (fun h' => hi ((hmem i).2 (.inr h'))) hi'

/-- A variable is handed in and back. -/
theorem ArgSt.lend {H0 H1 Hq : Nat → Option Ent} {M1 : Nat → Prop} {uo uf : Ups} {io : List (Nat × Ty)} {hs : List Nat} (h : ArgSt c w M ν H0 H1 Hq M1 uo uf io hs) {id : Nat} {τ : Ty} {x : τ.den} (hid : H1 id = some (.obj τ x)) :
    ArgSt c w M ν H0 (updH H1 id (some .gone)) (updH Hq id (some .gone)) M1 uo uf (io ++ [(id, τ)]) (hs ++ (blk (ν id)).toList) := by
  have hio : id ∉ keys io := fun hk => by
    obtain ⟨q, hq, rfl⟩ := List.mem_map.1 hk
    have := (h.iog q hq).1
    rw [hid] at this; cases this
  have hq : Hq id = some (.obj τ x) := h.fz.obj' hid
  have hks : id ∉ keys (uo ++ uf) := fun hk => by
    have h1 := h.ext id hio
    obtain ⟨_, e, l, h0⟩ := h.ksn id hk
    -- a key of 'uo' or 'uf' is gone or frozen
    have key : ∀ (ups : Ups) (H : Nat → Option Ent), (∀ u ∈ ups, u.2 = some .gone ∨ ∃ e l, u.2 = some (.frz e l)) → id ∈ keys ups → upsH H ups id = some .gone ∨ ∃ e l, upsH H ups id = some (.frz e l) := by
      intro ups
      induction ups with
      | nil => intro H _ hk; simp [keys] at hk
      | cons u ups ih =>
        intro H hv hk
        by_cases hk2 : id ∈ keys ups
        · exact ih _ (fun v hv' => hv v (List.mem_cons_of_mem _ hv')) hk2
        · show upsH (updH H u.1 u.2) ups id = _ ∨ ∃ e l, upsH (updH H u.1 u.2) ups id = _
          rw [upsH_not hk2]
          have hui : id = u.1 := by
            simp only [keys, List.map_cons, List.mem_cons] at hk hk2
            exact hk.resolve_right hk2
          rw [hui, updH_same]
          exact hv u List.mem_cons_self
    have := key (uo ++ uf) H0 (fun u hu => by
      rcases List.mem_append.1 hu with hu | hu
      · exact .inl (h.uov u hu)
      · obtain ⟨e, l, h', _⟩ := h.ufv u hu; exact .inr ⟨e, l, h'⟩) hk
    rw [h1, hid] at this
    rcases this with h' | ⟨_, _, h'⟩ <;> cases h'
  have h0 : H0 id = some (.obj τ x) := by rw [← h.same id hks hio]; exact hid
  have hmem : ∀ i, i ∈ keys (io ++ [(id, τ)]) ↔ i ∈ keys io ∨ i = id := by
    intro i
    simp only [keys, List.map_append, List.map_cons, List.map_nil, List.mem_append, List.mem_cons, List.not_mem_nil, or_false]
  have hnot : ∀ b, blk (ν id) = some b → b ∉ hs := fun b hb hb' => h.none b hb' id _ hq trivial hb
  refine ⟨(Tr.gone h.mem id).mem, (Tr.gone h.memq id).mem, h.keep, fun i hi => ?_, fun i hi => ?_, fun q hq' => ?_, ?_, fun i hi e' l' => ?_, fun i hi => ?_, fun i => ?_, h.uov, h.ufv, ?_, fun b hb => ?_, fun b hb => ?_, fun b hb i e' hi hm => ?_, fun b hb hb0 => ?_, fun i hi hi' => ?_⟩
  · rw [updH_ne _ _ (fun e => hi ((hmem i).2 (.inr e)))]; exact h.ext i (fun h' => hi ((hmem i).2 (.inl h')))
  · rw [updH_ne _ _ (fun e => hi ((hmem i).2 (.inr e)))]; exact h.extq i (fun h' => hi ((hmem i).2 (.inl h')))
  · rcases List.mem_append.1 hq' with hq' | hq'
    · obtain ⟨h1, h2, h3⟩ := h.iog q hq'
      have hne : q.1 ≠ id := fun e => hio (e ▸ List.mem_map_of_mem hq')
      exact ⟨by rw [updH_ne _ _ hne]; exact h1, by rw [updH_ne _ _ hne]; exact h2, h3⟩
    · rw [List.mem_singleton] at hq'; subst hq'
      exact ⟨updH_same _ _ _, updH_same _ _ _, x, h0⟩
  · simp only [keys, List.map_append, List.map_cons, List.map_nil]
    refine List.nodup_append.2 ⟨h.ion, by simp, fun x hx y hy => ?_⟩
    rw [List.mem_singleton] at hy; subst hy
    intro e; exact hio (e ▸ hx)
  · by_cases hii : i = id
    · subst hii; rw [updH_same]; intro h'; cases h'
    · rw [updH_ne _ _ hii]; exact h.ks i hi e' l'
  · obtain ⟨h1, h2⟩ := h.ksn i hi
    exact ⟨fun h' => ((hmem i).1 h').elim h1 (fun e => hks (e ▸ hi)), h2⟩
  · by_cases hii : i = id
    · subst hii; left; rw [updH_same, updH_same]
    · rw [updH_ne _ _ hii, updH_ne _ _ hii]; exact h.fz i
  · refine List.nodup_append.2 ⟨h.nd, ?_, fun x hx y hy => ?_⟩
    · cases blk (ν id) <;> simp
    · rw [Option.mem_toList] at hy
      intro hxy; subst hxy
      exact hnot x hy hx
  · rcases List.mem_append.1 hb with hb | hb
    · exact h.hM b hb
    · rw [Option.mem_toList] at hb
      exact (h.mem.ent id _ hid).memM trivial hb
  · rcases List.mem_append.1 hb with hb | hb
    · exact h.prov b hb
    · rw [Option.mem_toList] at hb
      exact h.mem.new id _ b hid trivial hb
  · by_cases hii : i = id
    · subst hii; rw [updH_same] at hi; cases hi; simp [Ent.mut] at hm
    · rw [updH_ne _ _ hii] at hi
      rcases List.mem_append.1 hb with hb | hb
      · exact h.none b hb i e' hi hm
      · rw [Option.mem_toList] at hb
        intro hb'
        exact h.memq.dis i id e' _ b hii hi hm hq trivial hb' hb
  · rcases List.mem_append.1 hb with hb | hb
    · obtain ⟨q, hq1, hq2⟩ := h.iob b hb hb0
      exact ⟨q, List.mem_append_left _ hq1, hq2⟩
    · rw [Option.mem_toList] at hb
      exact ⟨(id, τ), by simp, hb⟩
  · have hne : i ≠ id := fun e => hi' ((hmem i).2 (.inr e))
    rw [updH_ne _ _ hne]
    exact h.same i hi (fun h' => hi' ((hmem i).2 (.inl h')))

end VM
end

section
/- The value machine, nineteenth text: arguments, one by one; the results. -/
namespace VM
open Go
variable {P : Program} {E : Env} {o : Oper} {a : Act} {w : World} {M : Nat → Prop} {ν : Nat → Value} {σ : St} {c : Ctx} {α : Type} {r : α} {next : Act → World → Prop} {Q : Exit → Act → World → Prop}

theorem Goes.upd {H : Nat → Option Ent} {id : Nat} {e e' : Ent} (hid : H id = some e) (hl : e.like e') : Goes H ν (updH H id (some e')) ν :=
  ⟨fun i e1 hi => by
    by_cases hii : i = id
    · subst hii; rw [hid] at hi; cases hi; exact ⟨e', updH_same _ _ _, hl⟩
    · exact ⟨e1, by rw [updH_ne _ _ hii]; exact hi, .refl e1⟩, fun _ _ => rfl⟩

theorem Ent.like_gone (e : Ent) : e.like .gone := by cases e <;> simp [Ent.like]

theorem VR.free1 {H H' : Nat → Option Ent} {ν' : Nat → Value} {a : Ty} {x : a.den} {v : Value} (h : VR w M H ν (cap1L a x) v) : VR w M H' ν' (cap1L a x) v := by
  unfold cap1L at h ⊢
  split at h
  · simp only [VR] at h ⊢; exact h
  · simp only [VR] at h ⊢; exact h

theorem VRs.free {H H' : Nat → Option Ent} {ν' : Nat → Value} : ∀ {τ : Ty} {x : τ.den} {vs : List Value}, VRs w M H ν (capsL τ x) vs → VRs w M H' ν' (capsL τ x) vs
  | .pair a b, x, v :: vs, h => by
    simp only [capsL, VRs] at h ⊢
    exact ⟨VR.free1 h.1, VRs.free h.2⟩
  | .pair a b, x, [], h => by simp [capsL, VRs] at h
  | .int _, _, [], _ | .bool, _, [], _ | .str, _, [], _ | .slice _, _, [], _ | .unit, _, [], _ | .arr _ _, _, [], _ => by simp [capsL, VRs]
  | .int _, _, _ :: _, h | .bool, _, _ :: _, h | .str, _, _ :: _, h | .slice _, _, _ :: _, h | .unit, _, _ :: _, h | .arr _ _, _, _ :: _, h => by simp [capsL, VRs] at h

theorem arg1K_sound {H0 H1 Hq : Nat → Option Ent} {M1 : Nat → Prop} {uo uf : Ups} {io : List (Nat × Ty)} {hs : List Nat} (h : ArgSt c w M ν H0 H1 Hq M1 uo uf io hs) {m : AM} {x : AVal} {v : Value} (hv : VR w M1 H1 ν x v)
    {k : m.den → (Nat → Option Ent) → List Nat → Ups → Ups → List (Nat × Ty) → Option α} (hk : arg1K m x H1 k = some r) :
    ∃ y H2 rd uo' uf' io' Hq2 M2, k y H2 rd uo' uf' io' = some r ∧ ArgSt c w M ν H0 H2 Hq2 M2 (uo' ++ uo) (uf' ++ uf) (io ++ io') (hs ++ hand1 m v) ∧ Keeps w M1 w M2 ∧ Goes H1 ν H2 ν ∧ A1 w M2 m y v ∧
      io'.map (fun q => ν q.1) = (if m.isIo then [v] else []) ∧ io'.map (·.2) = ioTys [m] := by
  unfold arg1K at hk
  split at hk
  · -- a value
    rename_i τ k
    obtain ⟨y, rd, ups, hk, hy⟩ := asVK_at h.mem hv hk
    rcases hy with ⟨rfl, hV⟩ | ⟨id, e, l, rfl, hid, hV⟩
    · exact ⟨y, H1, rd, [], [], [], Hq, M1, hk, by simpa [hand1] using h, .refl w M1, .refl H1 ν, hV, rfl, rfl⟩
    · obtain ⟨M2, hA, hK, hM2⟩ := h.freeze hid
      exact ⟨y, _, rd, [], _, [], Hq, M2, hk, by simpa [hand1] using hA, hK, .upd hid ⟨rfl, rfl⟩, hV M2 hM2, rfl, rfl⟩
  · -- handed over
    rename_i e k
    split at hk
    · obtain ⟨ad, hv⟩ := VR.emp.1 hv
      subst hv
      have hb : blk (.slice ad 0 0) = none := by cases ad <;> simp [blk]
      exact ⟨[], H1, [], [], [], [], Hq, M1, hk, by simpa [hand1, hb] using h, .refl w M1, .refl H1 ν, by simp only [A1, ER]; exact .inl ⟨trivial, ad, rfl⟩, rfl, rfl⟩
    · rename_i id
      split at hk
      · rename_i e' l hid
        obtain ⟨e1, hk⟩ := castK_inv hk
        cases e1
        simp only [VR] at hv
        obtain ⟨_, rfl⟩ := hv
        refine ⟨_, _, _, _, _, _, _, M1, hk, by simpa [hand1] using h.hand hid, .refl w M1, .upd hid (Ent.like_gone _), ?_, rfl, rfl⟩
        have := h.mem.ent id _ hid
        exact this
      · cases hk
    · cases hk
  · -- handed in and back
    rename_i τ k
    split at hk
    · rename_i id
      split at hk
      · rename_i υ z hid
        obtain ⟨e1, hk⟩ := castK_inv hk
        subst e1
        simp only [VR] at hv
        obtain ⟨e, he, har⟩ := hv
        rw [hid] at he; cases he
        simp only [AR] at har
        obtain ⟨_, b, hb, hv⟩ := har
        have hvb : v = ν id := by rw [hv, hb]; rfl
        subst hvb
        refine ⟨_, _, _, _, _, _, _, M1, hk, by simpa [hand1] using h.lend hid, .refl w M1, .upd hid (Ent.like_gone _), ?_, rfl, rfl⟩
        have := h.mem.ent id _ hid
        exact this
      · cases hk
    · cases hk
  · -- a function
    rename_i f τ k
    split at hk
    · rename_i f' cs
      obtain ⟨hf, hk1⟩ := cond_inv hk
      clear hk
      have hf := Nat.eq_of_beq_eq_true hf
      subst hf
      have hk := hk1
      clear hk1
      simp only [VR] at hv
      obtain ⟨us, rfl, hvs⟩ := hv
      obtain ⟨y, rd, ups, hk, hy⟩ := capsK_at h.mem hvs hk
      split at hk
      · exact ⟨y, H1, rd, [], [], [], Hq, M1, hk, by simpa [hand1] using h, .refl w M1, .refl H1 ν, by simp only [A1, VR]; exact ⟨us, rfl, hy rfl⟩, rfl, rfl⟩
      · cases hk
    · cases hk
  · cases hk
  · -- a variable that is not written
    rename_i τ k
    split at hk
    · rename_i υ z
      obtain ⟨e1, hk⟩ := castK_inv hk
      subst e1
      exact ⟨_, H1, _, [], [], [], Hq, M1, hk, by simpa [hand1] using h, .refl w M1, .refl H1 ν, by simp only [A1, VR] at hv ⊢; exact hv, rfl, rfl⟩
    · cases hk

theorem argsK_sound {H0 : Nat → Option Ent} : ∀ {ms : List AM} {as' : List AVal} {vs : List Value} {H1 Hq : Nat → Option Ent} {M1 : Nat → Prop} {rd : List Nat} {uo uf : Ups} {io : List (Nat × Ty)} {hs : List Nat} {K : HP ms → List Nat → Ups → Ups → List (Nat × Ty) → Option α},
    ArgSt c w M ν H0 H1 Hq M1 uo uf io hs → VRs w M1 H1 ν as' vs → argsK ms as' H1 rd uo uf io K = some r →
    ∃ x rd' uo' uf' io' H2 Hq2 M2, K x rd' uo' uf' io' = some r ∧ ArgSt c w M ν H0 H2 Hq2 M2 uo' uf' io' (hs ++ hands ms vs) ∧ Keeps w M1 w M2 ∧ ArgsR w M2 ms x vs ∧
      io'.map (fun q => ν q.1) = io.map (fun q => ν q.1) ++ iosOf ms vs ∧ io'.map (·.2) = io.map (·.2) ++ ioTys ms
  | [], [], [], H1, Hq, M1, rd, uo, uf, io, hs, K, h, _, hk =>
    ⟨(), rd, uo, uf, io, H1, Hq, M1, hk, by simpa [hands] using h, .refl w M1, rfl, by simp [iosOf], by simp [ioTys]⟩
  | [m], [x], [v], H1, Hq, M1, rd, uo, uf, io, hs, K, h, hv, hk => by
    simp only [VRs, and_true] at hv
    obtain ⟨y, H2, rd1, uo1, uf1, io1, Hq2, M2, hk, hA, hK, hG, hy, hi1, hi2⟩ := arg1K_sound h hv (hk : arg1K m x H1 _ = some r)
    refine ⟨y, _, _, _, _, H2, Hq2, M2, hk, by simpa [hands] using hA, hK, ⟨v, [], rfl, hy, rfl⟩, ?_, ?_⟩
    · rw [List.map_append, hi1]; cases hio : m.isIo <;> simp [iosOf, hio]
    · rw [List.map_append, hi2]
  | m :: n :: ms, x :: xs, v :: vs, H1, Hq, M1, rd, uo, uf, io, hs, K, h, hv, hk => by
    simp only [VRs] at hv
    obtain ⟨y, H2, rd1, uo1, uf1, io1, Hq2, M2, hk, hA, hK, hG, hy, hi1, hi2⟩ := arg1K_sound h hv.1 (hk : arg1K m x H1 _ = some r)
    obtain ⟨ys, rd', uo', uf', io', H3, Hq3, M3, hk, hA', hK', hys, hi3, hi4⟩ := argsK_sound (ms := n :: ms) hA (VRs.keep hK hG hv.2) hk
    refine ⟨(y, ys), _, _, _, _, H3, Hq3, M3, hk, by simpa [hands, List.append_assoc] using hA', hK.trans hK', ⟨v, vs, rfl, ?_, hys⟩, ?_, ?_⟩
    · refine A1.keepV hK' (fun b hb => ⟨rfl, hA'.hM b ?_⟩) hy
      exact List.mem_append_left _ (List.mem_append_right _ hb)
    · rw [hi3, List.map_append, hi1, List.append_assoc]
      congr 1
      cases hio : m.isIo <;> simp [iosOf, hio]
    · rw [hi4, List.map_append, hi2, List.append_assoc]
      congr 1
      cases m <;> simp [ioTys]
  | [], _ :: _, _, _, _, _, _, _, _, _, _, _, _, _, hk => by simp [argsK] at hk
  | [_], [], _, _, _, _, _, _, _, _, _, _, _, _, hk => by simp [argsK] at hk
  | [_], _ :: _ :: _, _, _, _, _, _, _, _, _, _, _, _, _, hk => by simp [argsK] at hk
  | _ :: _ :: _, [], _, _, _, _, _, _, _, _, _, _, _, _, hk => by simp [argsK] at hk
  | _, _ :: _, [], _, _, _, _, _, _, _, _, _, _, hv, _ => by simp [VRs] at hv
  | [], [], _ :: _, _, _, _, _, _, _, _, _, _, _, hv, _ => by simp [VRs] at hv
  | [_], [_], _ :: _ :: _, _, _, _, _, _, _, _, _, _, _, hv, _ => by simp [VRs] at hv

end VM
end

