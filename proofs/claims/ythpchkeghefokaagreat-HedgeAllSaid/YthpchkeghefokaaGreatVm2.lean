/- A part of the proof of HedgeAll of layer 22: a machine that reads a function of the program as an equation between values. -/
import Derived.Test.YthpchkeghefokaaGreatVm1
set_option linter.all false
section
/- The value machine, ninth text: one operation of the evaluator is one operation of the model. -/
namespace VM
open Go
variable {P : Program} {E : Env} {o : Oper} {a : Act} {w : World} {M : Nat → Prop} {ν : Nat → Value} {σ : St} {c : Ctx} {α : Type} {r : α} {next : Act → World → Prop} {Q : Exit → Act → World → Prop}

theorem wp_of_run {v : Value} {w' : World} (h : (execOp a.eval o).run P w = .ok (.value v) w') (hn : next (a.put o.dst v) w') : o.wp P a w next Q := by
  unfold Oper.wp Oper.upon; rw [h]; exact hn
theorem wp_of_skip {w' : World} (h : (execOp a.eval o).run P w = .ok .skip w') (hn : next (a.put o.dst undef) w') : o.wp P a w next Q := by
  unfold Oper.wp Oper.upon; rw [h]; exact hn

/-- How the evaluator's operation goes on. -/
def Goes1 (c : Ctx) (σ : St) (a : Act) (o : Oper) (w : World) (M : Nat → Prop) (ν : Nat → Value) (K : OpK α) (r : α) (next : Act → World → Prop) : Prop :=
  ∀ v rd ups v' w' M' ν', K v rd ups = some r → Tr c σ.H w M ν (upsH σ.H ups) w' M' ν' → VR w' M' (upsH σ.H ups) ν' v v' → next (a.put o.dst v') w'

theorem Core.ev (h : Core c σ a.tmps w M ν) (x : Operand) : VR w M σ.H ν (σ.ρ x) (a.eval x) := h.op a.defers x

theorem intK_inv {x : AVal} {k : IntKind → Int → Option α} (h : intK x k = some r) : ∃ (i : IntKind) (n : Int), x = .val (.int i) n ∧ k i n = some r := by
  unfold intK at h
  split at h
  · exact ⟨_, _, rfl, h⟩
  · cases h

theorem VR.int {H : Nat → Option Ent} {k : IntKind} {n : Int} {v : Value} (h : VR w M H ν (.val (.int k) n) v) : v = .int k n := by
  simp only [VR, V, Ty.isAgg, Bool.false_eq_true, if_false, Rd, List.cons.injEq, and_true] at h; exact h
theorem VR.bool {H : Nat → Option Ent} {b : Bool} {v : Value} (h : VR w M H ν (.val .bool b) v) : v = .bool b := by
  simp only [VR, V, Ty.isAgg, Bool.false_eq_true, if_false, Rd, List.cons.injEq, and_true] at h; exact h
theorem VR.str {H : Nat → Option Ent} {b : ByteArray} {v : Value} (h : VR w M H ν (.val .str b) v) : v = .string b := by
  simp only [VR, V, Ty.isAgg, Bool.false_eq_true, if_false, Rd, List.cons.injEq, and_true] at h; exact h
theorem VR.mkInt {H : Nat → Option Ent} (k : IntKind) (n : Int) : VR w M H ν (.val (.int k) n) (.int k n) := by simp [VR, V, Ty.isAgg, Rd]
theorem VR.mkBool {H : Nat → Option Ent} (b : Bool) : VR w M H ν (.val .bool b) (.bool b) := by simp [VR, V, Ty.isAgg, Rd]
theorem VR.mkStr {H : Nat → Option Ent} (b : ByteArray) : VR w M H ν (.val .str b) (.string b) := by simp [VR, V, Ty.isAgg, Rd]

theorem op_move (hc : Core c σ a.tmps w M ν) {x : Operand} (ho : o.op = .move x ∨ o.op = .assign x) {K : OpK α} (h : K (σ.ρ x) [] [] = some r) (hn : Goes1 c σ a o w M ν K r next) : o.wp P a w next Q := by
  have hr : (execOp a.eval o).run P w = .ok (.value (a.eval x)) w := by
    rcases ho with ho | ho
    · simp [execOp, ho]
    · simp [execOp, ho]
  exact wp_of_run hr (hn _ _ _ _ _ _ _ h (.refl hc.mem) (hc.ev x))

theorem op_pick (hc : Core c σ a.tmps w M ν) {x y z : Operand} (ho : o.op = .pick x y z) {K : OpK α} {t : Bool} (hx : σ.ρ x = .val .bool t) (h : cond t (K (σ.ρ y) [] []) (K (σ.ρ z) [] []) = some r)
    (hn : Goes1 c σ a o w M ν K r next) : o.wp P a w next Q := by
  have hv := hc.ev x
  rw [hx] at hv
  refine wp_of_run (run_pick_op ho hv.bool) ?_
  cases t
  · exact hn _ _ _ _ _ _ _ h (.refl hc.mem) (hc.ev z)
  · exact hn _ _ _ _ _ _ _ h (.refl hc.mem) (hc.ev y)

theorem newK_inv {H : Nat → Option Ent} {id : Nat} {e : Ent} {K : Option α} (h : newK H id e K = some r) : H id = none ∧ K = some r := by
  unfold newK at h
  split at h
  · rename_i h'; exact ⟨h', h⟩
  · cases h

theorem VR.mkAdr {H : Nat → Option Ent} {id : Nat} {τ : Ty} {x : τ.den} {b : Nat} (hid : H id = some (.obj τ x)) (hν : ν id = .pointer (some ⟨b, 0, none⟩)) : VR w M H ν (.adr id []) (.pointer (some ⟨b, 0, none⟩)) := by
  simp only [VR]
  exact ⟨_, hid, trivial, b, hν, rfl⟩

theorem VR.mkAdrL {H : Nat → Option Ent} {id : Nat} {τ : Ty} {x : τ.den} {q : List Step} {j b : Nat} (hid : H id = some (.lnk τ x q j)) (hν : ν id = .pointer (some ⟨b, 0, none⟩)) : VR w M H ν (.adr id []) (.pointer (some ⟨b, 0, none⟩)) := by
  simp only [VR]
  exact ⟨_, hid, trivial, b, hν, rfl⟩

theorem ofCells_zero (τ : Ty) : (ofCells τ τ.zcells).cells.toList = τ.zcells := ofCells_cells (Rd.zero default (fun _ => False) τ)

theorem fldQ_zcells : ∀ {τ : Ty} {n : Nat} {a : Ty}, fldQ τ n = some a → ∃ l m, τ.zcells = l ++ (a.zcells ++ m) ∧ l.length = offF τ n := by
  intro τ
  induction τ with
  | pair a b _ ihb =>
    intro n c h
    cases n with
    | zero => cases h; exact ⟨[], b.zcells, rfl, rfl⟩
    | succ n =>
      obtain ⟨l, m, h1, h2⟩ := ihb (n := n) (a := c) h
      refine ⟨a.zcells ++ l, m, by simp only [Ty.zcells]; rw [h1, List.append_assoc], ?_⟩
      rw [List.length_append, h2, (Rd.zero default (fun _ => False) a).length]; rfl
  | _ => intro n c h; simp [fldQ] at h

theorem pathQ_zcells : ∀ {p : List Step} {τ υ : Ty}, pathQ p τ υ = true → ∃ l m, τ.zcells = l ++ (υ.zcells ++ m) ∧ l.length = offP p τ
  | [], τ, υ, h => by
    have h := of_decide_eq_true h
    subst h
    exact ⟨[], [], by simp, rfl⟩
  | .fld n :: p, τ, υ, h => by
    unfold pathQ at h
    split at h
    · rename_i a ha
      obtain ⟨l, m, h1, h2⟩ := fldQ_zcells ha
      obtain ⟨l', m', h3, h4⟩ := pathQ_zcells h
      obtain ⟨_, _, hf⟩ := fldQ_fld ha τ.zero
      have := hf.eq.1
      subst this
      refine ⟨l ++ l', m' ++ m, by rw [h1, h3]; simp, ?_⟩
      rw [List.length_append, h2, h4]; rfl
    · cases h
  | .idx _ :: _, _, _, h => by simp [pathQ] at h

theorem zcells_at {p : List Step} {τ e : Ty} (h : pathQ p τ (.slice e) = true) : τ.zcells[offP p τ]? = some (.slice none 0 0) := by
  obtain ⟨l, m, h1, h2⟩ := pathQ_zcells h
  rw [h1, List.getElem?_append_right (by omega), h2, Nat.sub_self]; rfl

theorem cond_inv {b : Bool} {K : Option α} (h : cond b K none = some r) : b = true ∧ K = some r := by
  cases b
  · cases h
  · exact ⟨rfl, h⟩
theorem lkT_inv {τ : Ty} {q : List Step} {e : Ty} (h : lkT E τ = some (q, e)) : pathQ q τ (.slice e) = true := by
  unfold lkT at h
  split at h
  · rename_i υ q' e' _ _
    cases hd : decide (υ = τ) <;> rw [hd] at h
    · cases h
    · simp only [cond_true] at h
      cases hp : pathQ q' τ (.slice e') <;> rw [hp] at h
      · cases h
      · cases h; exact hp
  · cases h
theorem lkOf_inv {τ : Ty} {id : Nat} {q : List Step} {e : Ty} (h : lkOf E τ id = some (q, e)) : pathQ q τ (.slice e) = true := by
  unfold lkOf at h
  split at h
  · exact lkT_inv (cond_inv h).2
  · cases h

theorem newL_inv {H : Nat → Option Ent} {id : Nat} {τ : Ty} {x : τ.den} {q : List Step} {e : Ty} {K : OpK α} (h : newL H id τ x q e K = some r) : H id = none ∧ H (id + 1) = none ∧ K (.adr id []) [id, id + 1] [(id, some (.lnk τ x q (id + 1))), (id + 1, some (.own e []))] = some r := by
  unfold newL at h
  obtain ⟨h1, h⟩ := newK_inv h
  obtain ⟨h2, h⟩ := newK_inv h
  exact ⟨h1, h2, h⟩

theorem updH_comm {H : Nat → Option Ent} {i j : Nat} {u v : Option Ent} (h : i ≠ j) : updH (updH H i u) j v = updH (updH H j v) i u := by
  funext k
  by_cases hi : k = i
  · subst hi; rw [updH_ne _ _ h, updH_same, updH_same]
  · by_cases hj : k = j
    · subst hj; rw [updH_same, updH_ne _ _ hi, updH_same]
    · rw [updH_ne _ _ hj, updH_ne _ _ hi, updH_ne _ _ hi, updH_ne _ _ hj]
theorem updH_twice {H : Nat → Option Ent} {i : Nat} {u v : Option Ent} : updH (updH H i u) i v = updH H i v := by
  funext k
  by_cases hi : k = i
  · subst hi; rw [updH_same, updH_same]
  · rw [updH_ne _ _ hi, updH_ne _ _ hi, updH_ne _ _ hi]

/-- A variable whose slice at a path is empty: a link. -/
theorem Tr.relink {H : Nat → Option Ent} (h : Mem c H w M ν) {id k : Nat} (hk : H k = none) {τ : Ty} {x : τ.den} (hid : H id = some (.obj τ x)) {b : Nat} {cs : Array Value} {t : TypeId} (hb : ν id = .pointer (some ⟨b, 0, none⟩)) (hg : w.heap[b]? = some (.cells cs t (0, 0)))
    {q : List Step} {e : Ty} (hq : pathQ q τ (.slice e) = true) {ad : Option Addr} (hz : cs.toList[offP q τ]? = some (.slice ad 0 0)) :
    Tr c H w M ν (upsH H [(id, some (.lnk τ x q k)), (k, some (.own e []))]) w M (updν ν k (.slice ad 0 0)) := by
  have hne : k ≠ id := fun e => by rw [e, hid] at hk; cases hk
  have h2 := Tr.nothing h hk e ad
  have hd2 : updH H k (some (.own e [])) id = some (.obj τ x) := by rw [updH_ne _ _ (Ne.symm hne)]; exact hid
  have hν : updν ν k (.slice ad 0 0) id = .pointer (some ⟨b, 0, none⟩) := by unfold updν; rw [if_neg (Ne.symm hne)]; exact hb
  have hν1 : updν ν k (.slice ad 0 0) k = .slice ad 0 0 := by simp [updν]
  have he := h2.mem.ent id _ hd2
  simp only [ER] at he
  obtain ⟨b', cs', t', hb', hg', hM, hrd⟩ := he
  rw [hν] at hb'; cases hb'
  rw [hg] at hg'; cases hg'
  have h3 := Tr.turn h2.mem hd2 trivial (e' := .lnk τ x q k) trivial rfl (fun _ _ => by simp) (by
      rw [hν]; simp only [ER]
      exact ⟨_, cs, t, cs.toList, .slice ad 0 0, rfl, hg, hM, hrd, (spl_self hz).symm, rfl, e, hq⟩)
    (fun τ' x' p' j' hl => by
      cases hl
      refine ⟨by rw [updH_same]; simp, _, hν, ?_⟩
      rw [hν1, cell_of hg, ← Array.getElem?_toList]; exact hz)
  rw [updH_comm (i := k) (j := id) hne] at h3
  exact h2.trans h3

/-- A new variable with an empty slice at its path. -/
theorem Tr.newL {H : Nat → Option Ent} (h : Mem c H w M ν) {id : Nat} (hid : H id = none) (hid1 : H (id + 1) = none) (t : TypeId) {τ : Ty} {cs : Array Value} {x : τ.den} (hr : Rd w M τ cs.toList x) {q : List Step} {e : Ty} (hq : pathQ q τ (.slice e) = true) {ad : Option Addr}
    (hz : cs.toList[offP q τ]? = some (.slice ad 0 0)) :
    ∃ M' ν', Tr c H w M ν (upsH H [(id, some (.lnk τ x q (id + 1))), (id + 1, some (.own e []))]) (w.alloc (.cells cs t)) M' ν' ∧ ν' id = .pointer (some ⟨w.heap.size, 0, none⟩) := by
  have h1 := Tr.var h hid t hr
  have h2 := Tr.relink h1.mem (id := id) (k := id + 1) (by rw [updH_ne _ _ (by omega)]; exact hid1) (updH_same _ _ _) (by simp [updν]) (heap_new w _) hq hz
  have e1 : upsH (updH H id (some (.obj τ x))) [(id, some (.lnk τ x q (id + 1))), (id + 1, some (.own e []))] = upsH H [(id, some (.lnk τ x q (id + 1))), (id + 1, some (.own e []))] := by
    show updH (updH (updH H id _) id _) (id + 1) _ = updH (updH H id _) (id + 1) _
    rw [updH_twice]
  rw [e1] at h2
  exact ⟨_, _, h1.trans h2, by simp [updν]⟩

theorem op_alloc (hE : EnvTy P E) (hc : Core c σ a.tmps w M ν) {t : TypeId} (ho : o.op = .alloc t) {K : OpK α} {τ : Ty} (ht : E.ty t = some τ) {id : Nat}
    (h : (match lkOf E τ id with
      | some (q, e) => newL σ.H id τ τ.zero q e K
      | none => newK σ.H id (.obj τ τ.zero) (K (.adr id []) [id] [(id, some (.obj τ τ.zero))])) = some r) (hn : Goes1 c σ a o w M ν K r next) : o.wp P a w next Q := by
  obtain ⟨i, hi, hs, hz, _⟩ := (hE.ty t τ ht).base
  have hr : Rd w M τ (ofCells τ τ.zcells).cells.toList τ.zero := by rw [ofCells_zero]; exact Rd.zero w M τ
  split at h
  · rename_i q e hlk
    obtain ⟨hid, hid1, h⟩ := newL_inv h
    obtain ⟨M', ν', htr, hν⟩ := Tr.newL hc.mem hid hid1 t hr (lkOf_inv hlk) (by rw [ofCells_zero]; exact zcells_at (lkOf_inv hlk))
    refine wp_of_run (run_alloc_op ho hi hz w) (hn _ _ _ _ _ M' ν' h htr ?_)
    exact VR.mkAdrL (by show updH _ (id + 1) _ id = _; rw [updH_ne _ _ (by omega), updH_same]) hν
  · obtain ⟨hid, h⟩ := newK_inv h
    refine wp_of_run (run_alloc_op ho hi hz w) (hn _ _ _ _ _ _ _ h (Tr.var hc.mem hid t hr) (VR.mkAdr (updH_same _ _ _) (by simp [updν])))

theorem op_box0 (hE : EnvTy P E) (hc : Core c σ a.tmps w M ν) {t : TypeId} {x : Operand} (ho : o.op = .box t x) {K : OpK α} {τ : Ty} {id : Nat}
    (h : asVK true (σ.ρ x) σ.H τ (fun y rd ups => newK σ.H id (.obj τ y) (K (.adr id []) (id :: rd) (ups ++ [(id, some (.obj τ y))]))) = some r) (hn : Goes1 c σ a o w M ν K r next) : o.wp P a w next Q := by
  obtain ⟨y, rd, ups, M', h, htr, hV, hz, _⟩ := asVK_sound (.refl _) hc.mem (hc.ev x) h
  obtain ⟨hid, h⟩ := newK_inv h
  have hid' : upsH σ.H ups id = none := hz.none hid
  have htr2 := htr.trans (Tr.var htr.mem hid' t hV.cells)
  refine wp_of_run (run_box_op ho w) (hn _ _ _ _ _ (fun b => M' b ∨ b = w.heap.size) (updν ν id (.pointer (some ⟨w.heap.size, 0, none⟩))) h ?_ ?_)
  · rw [upsH_append]; exact htr2
  · rw [upsH_append]; exact VR.mkAdr (updH_same _ _ _) (by simp [updν])

theorem op_box (hE : EnvTy P E) (hc : Core c σ a.tmps w M ν) {t : TypeId} {x : Operand} (ho : o.op = .box t x) {K : OpK α} {τ : Ty} {id : Nat}
    (h : (match lkOf E τ id, σ.ρ x with
      | some ([.fld m], e), .nval υ y n => cond (Nat.beq m n) (castK υ τ y fun y => newL σ.H id τ y [.fld m] e K) (asVK true (σ.ρ x) σ.H τ (fun y rd ups => newK σ.H id (.obj τ y) (K (.adr id []) (id :: rd) (ups ++ [(id, some (.obj τ y))]))))
      | _, _ => asVK true (σ.ρ x) σ.H τ (fun y rd ups => newK σ.H id (.obj τ y) (K (.adr id []) (id :: rd) (ups ++ [(id, some (.obj τ y))])))) = some r) (hn : Goes1 c σ a o w M ν K r next) : o.wp P a w next Q := by
  split at h
  · rename_i m e υ y n hlk hx
    cases hb : Nat.beq m n
    · rw [hb] at h
      exact op_box0 hE hc ho h hn
    · rw [hb] at h
      have hmn := Nat.eq_of_beq_eq_true hb
      subst hmn
      simp only [cond_true] at h
      obtain ⟨e1, h⟩ := castK_inv h
      subst e1
      obtain ⟨hid, hid1, h⟩ := newL_inv h
      have hv := hc.ev x
      rw [hx] at hv
      simp only [VR] at hv
      obtain ⟨hV, cs, ad, hva, hz⟩ := hv
      have hcs : (a.eval x).cells.toList = cs.toList := by rw [hva]; rfl
      obtain ⟨M', ν', htr, hν⟩ := Tr.newL hc.mem hid hid1 t hV.cells (lkOf_inv hlk) (ad := ad) (by rw [hcs]; simpa [offP] using hz)
      refine wp_of_run (run_box_op ho w) (hn _ _ _ _ _ M' ν' h htr ?_)
      exact VR.mkAdrL (by show updH _ (id + 1) _ id = _; rw [updH_ne _ _ (by omega), updH_same]) hν
  · exact op_box0 hE hc ho h hn

theorem inb_inv {i : Int} {n : Nat} (h : inb i n = true) : 0 ≤ i ∧ i < (n : Int) := by rw [inb_eq] at h; simpa using h

theorem cond_inv' {b : Bool} {K : Option α} (h : cond b none K = some r) : b = false ∧ K = some r := by
  cases b
  · exact ⟨rfl, h⟩
  · cases h

/-- What is loaded lies in memory. -/
theorem loadK_sound (hm : Mem c σ.H w M ν) {x : AVal} {u : Value} (hv : VR w M σ.H ν x u) {K : (υ : Ty) → υ.den → List Nat → Option α} (h : loadK x σ.H K = some r) :
    ∃ υ y rd, K υ y rd = some r ∧ ∃ b off cs, u = .pointer (some ⟨b, off, none⟩) ∧ At w b off cs ∧ Rd w M υ cs y := by
  unfold loadK at h
  split at h
  · simp only [VR] at hv
    obtain ⟨b, off, rfl, _, _, cs, ha, hr⟩ := hv
    exact ⟨_, _, _, h, b, off, cs, rfl, ha, hr⟩
  · rename_i id p
    simp only [VR] at hv
    obtain ⟨e, he, har⟩ := hv
    have hent := hm.ent id e he
    rw [he] at h
    cases e with
    | obj τ x =>
      obtain ⟨υ, y, o', hp, hK⟩ := getP_inv h
      simp only [AR] at har
      obtain ⟨hi, b, hb, rfl⟩ := har
      simp only [ER] at hent
      obtain ⟨b', cs, t, hb', hg, _, hr⟩ := hent
      rw [hb] at hb'; cases hb'
      have := hp.eq.2
      subst this
      exact ⟨υ, y, _, hK, b, _, _, rfl, At.of_block hg _ _, hp.rd hi hr⟩
    | own e l =>
      simp only [AR] at har
      obtain ⟨i, q, rfl, hil, hi, b, n, cp, hb, rfl⟩ := har
      obtain ⟨υ, y, o', hp, hK⟩ := getP_inv h
      simp only [ER] at hent
      rcases hent with ⟨rfl, _⟩ | ⟨b', cs, t, cap, hb', hg, _, hc0, hl, hml, hs, hr⟩
      · simp at hil
      · rw [hb] at hb'; cases hb'
        have := hp.eq.2
        subst this
        have h1 := hr i hil
        rw [← getElem_getD l i e.zero hil] at h1
        have h2 := hp.rd hi h1
        have h3 := hp.bound hi
        rw [List.drop_take, List.drop_drop, List.take_take, Nat.min_eq_left (by omega)] at h2
        exact ⟨υ, y, _, hK, b, _, _, rfl, At.of_block hg _ _, h2⟩
    | frz e l =>
      simp only [AR] at har
      obtain ⟨i, q, rfl, hil, hi, b, n, cp, hb, rfl⟩ := har
      obtain ⟨υ, y, o', hp, hK⟩ := getP_inv h
      simp only [ER] at hent
      have hrd := hent.1
      simp only [Rd, List.cons.injEq, and_true] at hrd
      obtain ⟨a0, cap, ha0, _, hr⟩ := hrd
      obtain ⟨b', off, rfl, _, _, cs, hat, hrr⟩ := hr i hil
      rw [hb] at ha0; cases ha0
      have := hp.eq.2
      subst this
      rw [Nat.zero_add] at hat
      have hrr' : Rd w M e cs (List.getD l i e.zero) := by rw [getElem_getD l i e.zero hil]; exact hrr
      have h2 := hp.rd hi hrr'
      have h3 := hp.bound hi
      have hlc := hrr'.length
      refine ⟨υ, y, _, hK, b, _, _, rfl, ?_, h2⟩
      -- the cells in the middle
      intro j v hj
      rw [List.getElem?_take] at hj
      split at hj
      · rw [List.getElem?_drop] at hj
        have := hat _ v hj
        rwa [← Nat.add_assoc] at this
      · cases hj
    | lnk _ _ _ _ => cases h
    | gone => cases h
  · cases h

/-- What lies in a variable with a link: the cells of a value, but for the link's. -/
theorem Mem.linked {H : Nat → Option Ent} (hm : Mem c H w M ν) {id : Nat} {τ : Ty} {x : τ.den} {q : List Step} {j : Nat} (hid : H id = some (.lnk τ x q j)) :
    ∃ b cs t cs0 e, ν id = .pointer (some ⟨b, 0, none⟩) ∧ w.heap[b]? = some (.cells cs t (0, 0)) ∧ M b ∧ Rd w M τ cs0 x ∧ cs.toList = spl cs0 (offP q τ) [ν j] ∧ (ν j).oneCell' = true ∧ pathQ q τ (.slice e) = true ∧ offP q τ < cs0.length ∧ H j ≠ none := by
  have hent := hm.ent id _ hid
  simp only [ER] at hent
  obtain ⟨b, cs, t, cs0, u, hb, hg, hM, hr, hcs, h1, e, hq⟩ := hent
  obtain ⟨hj, b', hb', hcell⟩ := hm.lnk id _ _ _ _ hid
  rw [hb] at hb'; cases hb'
  obtain ⟨y, o, hp⟩ := pathQ_pth hq x
  have hlt : offP q τ < cs0.length := by
    have := hp.bound (pathQ_inb hq).1
    have h2 := hp.eq.2
    have h3 := hr.length
    have : (Ty.slice e).size = 1 := rfl
    omega
  have hu : u = ν j := by
    rw [cell_of hg, ← Array.getElem?_toList, hcs, spl_get hlt] at hcell
    exact Option.some.inj hcell
  subst hu
  exact ⟨b, cs, t, cs0, e, hb, hg, hM, hr, hcs, h1, hq, hlt, hj⟩

/-- The slice behind a link, as a value of the variable. -/
theorem frzK_sound {H : Nat → Option Ent} (hm : Mem c H w M ν) {id : Nat} {τ : Ty} {x : τ.den} {q : List Step} {j : Nat} (hid : H id = some (.lnk τ x q j)) {k : τ.den → Ups → Option α} (h : frzK j q τ x H k = some r) :
    ∃ z ups M', k z ups = some r ∧ Tr c H w M ν (upsH H ups) w M' ν ∧ Fz H (upsH H ups) ∧ ((∃ e l, H j = some (.frz e l) ∧ ups = []) ∨ ∃ e l, H j = some (.own e l) ∧ ups = [(j, some (.frz e l))]) ∧ ∃ b cs t, ν id = .pointer (some ⟨b, 0, none⟩) ∧ w.heap[b]? = some (.cells cs t (0, 0)) ∧ M' b ∧ Rd w M' τ cs.toList z := by
  obtain ⟨b, cs, t, cs0, e0, hb, hg, hM, hr, hcs, h1, hq, hlt, hj⟩ := hm.linked hid
  have hinb := (pathQ_inb hq).1
  unfold frzK at h
  split at h
  · rename_i e l hjl
    obtain ⟨z, hz, hty, hbd, hset⟩ := setP_inv h
    obtain ⟨M', htr, hV, hM'⟩ := Tr.freeze hm hjl
    refine ⟨z, _, M', hz, htr, fun i => ?_, .inr ⟨e, l, hjl, rfl⟩, b, cs, t, hb, hg, ?_, ?_⟩
    · by_cases hi : i = j
      · subst hi; exact .inr ⟨e, l, hjl, updH_same _ _ _⟩
      · exact .inl (updH_ne _ _ hi)
    · refine (hM' b).2 ⟨hM, fun hjb => ?_⟩
      have hne : j ≠ id := fun e => by rw [e, hid] at hjl; cases hjl
      exact hm.dis j id _ _ b hne hjl trivial hid trivial hjb (by rw [hb]; rfl)
    · rw [hcs]
      exact hset w M' cs0 [ν j] hinb (hr.keep htr.keep) (V.slice.1 hV)
  · rename_i e l hjl
    obtain ⟨z, hz, hty, hbd, hset⟩ := setP_inv h
    have hent := hm.ent j _ hjl
    simp only [ER] at hent
    refine ⟨z, _, M, hz, .refl hm, .refl H, .inl ⟨e, l, hjl, rfl⟩, b, cs, t, hb, hg, hM, ?_⟩
    rw [hcs]
    exact hset w M cs0 [ν j] hinb hr hent.1
  · cases h

theorem pathQ_lay {τ υ : Ty} {t : TypeId} (hE : EnvTy P E) (ht : E.ty t = some τ) (h : pathQ ([] : List Step) υ τ = true) : υ = τ := of_decide_eq_true h

theorem Rd.slice_cell {e : Ty} {v : Value} {cs : List Value} {l : List e.den} (h : Rd w M (.slice e) cs l) : ∃ a n cap, cs = [.slice a n cap] := by
  simp only [Rd] at h
  obtain ⟨a, cap, rfl, _⟩ := h
  exact ⟨a, _, cap, rfl⟩

/-- A load of one cell. -/
theorem run_load_cell {ρ : Operand → Value} {t : TypeId} {x : Operand} (ho : o.op = .load t x) {τ : Ty} (h : Lay P τ t) (ha : τ.isAgg = false) {b off : Nat} {v : Value} (hx : ρ x = .pointer (some ⟨b, off, none⟩)) (hc : w.cell? ⟨b, off, none⟩ = some v) :
    (execOp ρ o).run P w = .ok (.value v) w := by
  have : (loadVar t ⟨b, off, none⟩).run P w = .ok v w := by
    simp [loadVar, run_isAgg h, ha, load, Sem.run, hc]
  simp [execOp, ho, hx, Instr.loadAt, Instr.sureAddr, this]

theorem op_load0 (hE : EnvTy P E) (hc : Core c σ a.tmps w M ν) {t : TypeId} {x : Operand} (ho : o.op = .load t x) {K : OpK α} {τ : Ty} (ht : E.ty t = some τ)
    (h : loadK (σ.ρ x) σ.H (fun υ y rd => castK υ τ y fun z => K (.val τ z) rd []) = some r) (hn : Goes1 c σ a o w M ν K r next) : o.wp P a w next Q := by
  obtain ⟨υ, y, rd, h, b, off, cs, hu, hat, hr⟩ := loadK_sound hc.mem (hc.ev x) h
  obtain ⟨e, h⟩ := castK_inv h
  subst e
  refine wp_of_run (run_load_op ho (hE.ty t _ ht) hu hat hr) (hn _ _ _ _ _ _ _ h (.refl hc.mem) ?_)
  simp only [VR]
  exact V.ofCells hr

theorem op_load (hE : EnvTy P E) (hc : Core c σ a.tmps w M ν) {t : TypeId} {x : Operand} (ho : o.op = .load t x) {K : OpK α} {τ : Ty} (ht : E.ty t = some τ)
    (h : loadL τ (σ.ρ x) σ.H K = some r) (hn : Goes1 c σ a o w M ν K r next) : o.wp P a w next Q := by
  unfold loadL at h
  simp only at h
  split at h
  · rename_i id p hx
    split at h
    · rename_i υ z q j hid
      have hv := hc.ev x
      rw [hx] at hv
      simp only [VR] at hv
      obtain ⟨e1, he1, har⟩ := hv
      rw [hid] at he1; cases he1
      simp only [AR] at har
      obtain ⟨hi, b, hb, hu⟩ := har
      obtain ⟨b', cs, te, cs0, e0, hb', hg, hM, hr, hcs, h1, hq, hlt, hj⟩ := hc.mem.linked hid
      rw [hb] at hb'; cases hb'
      cases hp : peq p q
      · rw [hp] at h
        cases hpp : ppre p q
        · -- past the link
          rw [hpp] at h
          simp only [cond_false] at h
          obtain ⟨υ', y, o', hpth, h⟩ := getP_inv h
          obtain ⟨e2, h⟩ := castK_inv h
          subst e2
          have hap := hpth.apart hi hq hpp
          have ho' := hpth.eq.2
          subst ho'
          have hbd := hpth.bound hi
          have hlen := hr.length
          have hrd : Rd w M υ' ((cs.toList.drop (offP p υ)).take υ'.size) y := by
            rw [hcs, spl_out (by simp only [List.length_singleton]; omega) (by simp only [List.length_singleton]; omega)]
            exact hpth.rd hi hr
          refine wp_of_run (run_load_op ho (hE.ty t _ ht) hu (At.of_block hg _ _) hrd) (hn _ _ _ _ _ M ν h (.refl hc.mem) ?_)
          simp only [VR]
          exact V.ofCells hrd
        · -- a part with the link
          rw [hpp] at h
          simp only [cond_false, cond_true] at h
          obtain ⟨z', ups, M', h, htr, _, _, b2, cs2, t2, hb2, hg2, hM2, hr2⟩ := frzK_sound hc.mem hid h
          rw [hb] at hb2; cases hb2
          rw [hg] at hg2; cases hg2
          obtain ⟨υ', y, o', hpth, h⟩ := getP_inv h
          obtain ⟨e2, h⟩ := castK_inv h
          subst e2
          have ho' := hpth.eq.2
          subst ho'
          have hrd := hpth.rd hi hr2
          refine wp_of_run (run_load_op ho (hE.ty t _ ht) hu (At.of_block hg _ _) hrd) (hn _ _ _ _ _ M' ν h htr ?_)
          simp only [VR]
          exact V.ofCells hrd
      · -- the link itself
        rw [hp] at h
        have := peq_eq hp
        subst this
        simp only [cond_true] at h
        obtain ⟨hpq, hK⟩ := cond_inv h
        have hτ : τ = .slice e0 := (pathQ_inb hpq).2.symm.trans (pathQ_inb hq).2
        subst hτ
        have hcell : w.cell? ⟨b, offP p υ, none⟩ = some (ν j) := by rw [cell_of hg, ← Array.getElem?_toList, hcs, spl_get hlt]
        refine wp_of_run (run_load_cell ho (hE.ty t _ ht) rfl hu hcell) (hn _ _ _ _ _ M ν hK (.refl hc.mem) ?_)
        simp only [VR]
        exact ⟨hj, trivial⟩
    · exact op_load0 hE hc ho ht h hn
  · exact op_load0 hE hc ho ht h hn

end VM
end

section
/- The value machine, tenth text: more operations: stores, addresses, numbers. -/
namespace VM
open Go
variable {P : Program} {E : Env} {o : Oper} {a : Act} {w : World} {M : Nat → Prop} {ν : Nat → Value} {σ : St} {c : Ctx} {α : Type} {r : α} {next : Act → World → Prop} {Q : Exit → Act → World → Prop}

theorem Fz.own {H H1 : Nat → Option Ent} (h : Fz H H1) {i : Nat} {e : Ty} {l : List e.den} (hi : H i = some (.own e l)) : H1 i = some (.own e l) ∨ H1 i = some (.frz e l) := by
  rcases h i with h' | ⟨e', l', h1, h2⟩
  · exact .inl (by rw [h', hi])
  · rw [hi] at h1; cases h1; exact .inr h2

theorem op_store0 (hE : EnvTy P E) (hc : Core c σ a.tmps w M ν) {t : TypeId} {x y : Operand} (ho : o.op = .store t x y) {K : OpK α} {τ : Ty} (ht : E.ty t = some τ)
    (h : storeK τ (σ.ρ x) (σ.ρ y) σ.H K = some r) (hn : Goes1 c σ a o w M ν K r next) : o.wp P a w next Q := by
  unfold storeK at h
  split at h
  · rename_i id p hx
    obtain ⟨z, rd, ups, M', h, htr, hV, hz, hrd⟩ := asVK_sound (.refl _) hc.mem (hc.ev y) h
    have hv := hc.ev x
    rw [hx] at hv
    have hvz := VR.keep htr.keep htr.goes hv
    have hlay := hE.ty t τ ht
    have hcl := hV.cells.length
    rw [Array.length_toList] at hcl
    split at h
    · rename_i υ x0 hid
      have hid1 := hz.obj hid
      obtain ⟨x1, hK, hty, hbd, hset⟩ := setP_inv h
      simp only [VR] at hvz
      obtain ⟨e1, he1, har⟩ := hvz
      rw [hid1] at he1; cases he1
      simp only [AR] at har
      obtain ⟨hi, b, hb, hu⟩ := har
      have hent := htr.mem.ent id _ hid1
      simp only [ER] at hent
      obtain ⟨b', cs, te, hb', hg, hM, hr⟩ := hent
      rw [hb] at hb'; cases hb'
      have hbd := hbd hi
      have hlc := hr.length
      rw [Array.length_toList] at hlc
      have hrun := run_store_op (P := P) ho hlay hu hg hcl (by omega) hV.cells.oneCell
      rw [Array.length_toList] at hrun
      have htr2 : Tr c (upsH σ.H ups) w M' ν (updH (upsH σ.H ups) id (some (.obj υ x1))) (w.setRow b (spl cs.toList (offP p υ) (a.eval y).cells.toList).toArray) M' ν := by
        refine Tr.write (e' := .obj υ x1) htr.mem hid1 trivial trivial rfl (by rw [hb]; rfl) hg fun M'' hk hM'' => ?_
        simp only [ER]
        refine ⟨b, _, te, hb, setRow_heap w b cs _ te _ hg, hM'', ?_⟩
        exact (hset w M' cs.toList _ hi hr hV.cells).keep hk
      refine wp_of_skip hrun ?_
      refine hn _ _ _ _ _ M' ν hK ?_ (by simp [VR])
      rw [upsH_append]
      have := htr.trans htr2
      unfold spl at this
      rw [Array.length_toList] at this
      exact this
    · rename_i e l hid
      split at h
      · rename_i i q h0
        obtain ⟨hnot, h⟩ := cond_inv' h
        have hid1 : upsH σ.H ups id = some (.own e l) := by rw [hrd id hnot]; exact hid
        obtain ⟨y1, hK, hty, hbd, hset⟩ := setP_inv h
        simp only [VR] at hvz
        obtain ⟨e1, he1, har⟩ := hvz
        rw [hid1] at he1; cases he1
        simp only [AR] at har
        obtain ⟨i', q', hpq, hil, hi, b, n, cp, hb, hu⟩ := har
        cases hpq
        have hent := htr.mem.ent id _ hid1
        simp only [ER] at hent
        rcases hent with ⟨rfl, _⟩ | ⟨b', cs, te, cap, hb', hg, hM, hc0, hl, hml, hs, hr⟩
        · simp at hil
        · rw [hb] at hb'; cases hb'
          have hbd := hbd hi
          have hm1 := mul_lt_of (s := e.size) hil
          have hm2 : l.length * e.size ≤ cp * e.size := Nat.mul_le_mul_right _ hl
          have hrun := run_store_op (P := P) ho hlay hu hg hcl (by omega) hV.cells.oneCell
          rw [Array.length_toList] at hrun
          have hri := hr i hil
          rw [← getElem_getD l i e.zero hil] at hri
          have hnew := hset w M' _ _ hi hri hV.cells
          have hch : ((cs.toList.drop (i * e.size)).take e.size).length = e.size := hri.length
          -- twice in one
          have hspl : spl cs.toList (i * e.size) (spl ((cs.toList.drop (i * e.size)).take e.size) (offP q e) (a.eval y).cells.toList) = spl cs.toList (i * e.size + offP q e) (a.eval y).cells.toList := by
            have hl3 := hnew.length
            have e1 : cs.toList = cs.toList.take (i * e.size) ++ (((cs.toList.drop (i * e.size)).take e.size) ++ cs.toList.drop (i * e.size + e.size)) := by
              rw [← List.drop_drop, List.take_append_drop, List.take_append_drop]
            have hlt : (cs.toList.take (i * e.size)).length = i * e.size := by rw [List.length_take, Array.length_toList]; omega
            conv => rhs; rw [e1]
            rw [show i * e.size + offP q e = (cs.toList.take (i * e.size)).length + offP q e from by rw [hlt], spl_right, spl_left (by rw [hch, Array.length_toList]; omega)]
            generalize spl ((cs.toList.drop (i * e.size)).take e.size) (offP q e) (a.eval y).cells.toList = m at hl3 ⊢
            unfold spl
            rw [hl3, List.append_assoc]
          have htr2 : Tr c (upsH σ.H ups) w M' ν (updH (upsH σ.H ups) id (some (.own e (List.set l i y1)))) (w.setRow b (spl cs.toList (i * e.size + offP q e) (a.eval y).cells.toList).toArray) M' ν := by
            refine Tr.write (e' := .own e (List.set l i y1)) htr.mem hid1 trivial trivial ⟨rfl, by rw [List.length_set]⟩ (by rw [hb]; simp [blk]; omega) hg fun M'' hk hM'' => ?_
            simp only [ER]
            refine .inr ⟨b, _, te, cp, by rw [List.length_set]; exact hb, setRow_heap w b cs _ te _ hg, hM'', hc0, by rw [List.length_set]; exact hl, hml, ?_, ?_⟩
            · rw [← hspl, List.size_toArray, length_spl (by rw [hnew.length, Array.length_toList]; omega), Array.length_toList]; exact hs
            · have h9 : cs.toList.length = cp * e.size := by rw [Array.length_toList, hs]
              have h10 := RdL.set (w := w) (M := M') (cs := cs.toList) (l := l) hr (by rw [h9]; exact hm2) hil hnew
              rw [hspl] at h10
              exact fun j hj => (h10 j hj).keep hk
          refine wp_of_skip hrun ?_
          refine hn _ _ _ _ _ M' ν hK ?_ (by simp [VR])
          rw [upsH_append]
          have := htr.trans htr2
          unfold spl at this
          rw [Array.length_toList] at this
          exact this
      · cases h
    · cases h
  · cases h

theorem Fz.lnk {H H1 : Nat → Option Ent} (h : Fz H H1) {i : Nat} {τ : Ty} {x : τ.den} {p : List Step} {j : Nat} (hi : H i = some (.lnk τ x p j)) : H1 i = some (.lnk τ x p j) := by
  rcases h i with h' | ⟨e', l', h1, h2⟩
  · rw [h', hi]
  · rw [hi] at h1; cases h1

theorem spl_at {β : Type} {l a : List β} {o : Nat} (hl : o + a.length ≤ l.length) (i : Nat) : (spl l o a)[i]? = if o ≤ i ∧ i < o + a.length then a[i - o]? else l[i]? := by
  unfold spl
  by_cases h1 : i < o
  · rw [if_neg (by omega), List.append_assoc, List.getElem?_append_left (by simp; omega), List.getElem?_take, if_pos h1]
  · by_cases h2 : i < o + a.length
    · rw [if_pos (by omega), List.getElem?_append_left (by simp; omega), List.getElem?_append_right (by simp; omega)]
      simp [Nat.min_eq_left (show o ≤ l.length by omega)]
    · rw [if_neg (by omega), List.getElem?_append_right (by simp; omega)]
      simp only [List.length_append, List.length_take, Nat.min_eq_left (show o ≤ l.length by omega), List.getElem?_drop]
      congr 1; omega

/-- A replacement over another one. -/
theorem spl_over {β : Type} {l a b : List β} {o o' : Nat} (h : o' ≤ o ∧ o + a.length ≤ o' + b.length) (h1 : o + a.length ≤ l.length) (h2 : o' + b.length ≤ l.length) : spl (spl l o a) o' b = spl l o' b := by
  have l1 := length_spl (a := l) (o := o) (new := a) h1
  apply List.ext_getElem?
  intro i
  rw [spl_at (by omega), spl_at (by omega), spl_at (by omega)]
  by_cases c1 : o' ≤ i ∧ i < o' + b.length
  · rw [if_pos c1, if_pos c1]
  · rw [if_neg c1, if_neg c1, if_neg (by omega)]

theorem spl_twice {β : Type} {l : List β} {o : Nat} {u v : β} (h : o < l.length) : spl (spl l o [u]) o [v] = spl l o [v] :=
  spl_over (by simp) (by simp; omega) (by simp; omega)

/-- Two replacements that lie apart. -/
theorem spl_comm {β : Type} {l a b : List β} {o o' : Nat} (h : o + a.length ≤ o' ∨ o' + b.length ≤ o) (h1 : o + a.length ≤ l.length) (h2 : o' + b.length ≤ l.length) : spl (spl l o a) o' b = spl (spl l o' b) o a := by
  have l1 := length_spl (a := l) (o := o) (new := a) h1
  have l2 := length_spl (a := l) (o := o') (new := b) h2
  apply List.ext_getElem?
  intro i
  rw [spl_at (by omega), spl_at (by omega), spl_at (by omega), spl_at (by omega)]
  by_cases c1 : o' ≤ i ∧ i < o' + b.length
  · rw [if_pos c1, if_neg (by omega), if_pos c1]
  · rw [if_neg c1]
    by_cases c2 : o ≤ i ∧ i < o + a.length
    · rw [if_pos c2, if_pos c2]
    · rw [if_neg c2, if_neg c2, if_neg c1]

theorem setFldK_fld {m : (υ : Ty) → υ.den → (υ.den → Option α) → Option α} : ∀ {τ : Ty} {x : τ.den} {n : Nat} {k : τ.den → Option α}, setFldK τ x n m k = some r → ∃ υ y o k', Fld τ x n υ y o ∧ m υ y k' = some r := fun h => by
  obtain ⟨υ, y, o, k', h1, h2, _⟩ := setFldK_inv h
  exact ⟨υ, y, o, k', h1, h2⟩

/-- Where one may store, there is a path. -/
theorem setP_pth {υ : Ty} {u : υ.den} : ∀ {p : List Step} {τ : Ty} {x : τ.den} {k : τ.den → Option α}, setP υ u p τ x k = some r → ∃ y o, Pth p τ x υ y o
  | [], τ, x, k, h => by
    obtain ⟨e, _⟩ := castK_inv (h : castK υ τ u k = some r)
    subst e
    exact ⟨x, 0, .nil x⟩
  | .fld n :: p, τ, x, k, h => by
    obtain ⟨υ', y, o, k', hf, hm⟩ := setFldK_fld (h : setFldK τ x n _ k = some r)
    obtain ⟨y', o', hp⟩ := setP_pth (k := k') hm
    exact ⟨y', _, .fld hf hp⟩
  | .idx i :: p, τ, x, k, h => by
    cases τ with
    | arr n e =>
      obtain ⟨y', o', hp⟩ := setP_pth (p := p) (τ := e) (x := List.getD x i e.zero) (k := fun z => k (List.set x i z)) h
      exact ⟨y', _, .idx hp⟩
    | _ => simp [setP, setIdxK] at h

/-- A path ahead of a link reaches over it. -/
theorem pre_range : ∀ {p q : List Step} {τ e : Ty}, ppre p q = true → pathQ q τ (.slice e) = true → offP p τ ≤ offP q τ ∧ offP q τ + 1 ≤ offP p τ + (tyP p τ).size
  | [], q, τ, e, _, hq => by
    obtain ⟨_, _, hpth⟩ := pathQ_pth hq τ.zero
    have := hpth.bound (pathQ_inb hq).1
    have h2 := hpth.eq.2
    have : (Ty.slice e).size = 1 := rfl
    simp only [offP, tyP]
    omega
  | .fld a :: p, .fld b :: q, τ, e, hp, hq => by
    simp only [ppre, Bool.and_eq_true] at hp
    have := Nat.eq_of_beq_eq_true hp.1
    subst this
    unfold pathQ at hq
    split at hq
    · rename_i c hc
      obtain ⟨_, _, hf⟩ := fldQ_fld hc τ.zero
      have := hf.eq.1
      subst this
      have := pre_range hp.2 hq
      simp only [offP, tyP]
      omega
    · cases hq
  | .fld _ :: _, [], _, _, hp, _ | .fld _ :: _, .idx _ :: _, _, _, hp, _ | .idx _ :: _, _, _, _, hp, _ => by simp [ppre] at hp

theorem ER.own_slice {H : Nat → Option Ent} (hm : Mem c H w M ν) {k : Nat} {e : Ty} {l : List e.den} (hk : H k = some (.own e l)) : ∃ ad cp, ν k = .slice ad l.length cp := by
  have := hm.ent k _ hk
  simp only [ER] at this
  rcases this with ⟨rfl, a, hv⟩ | ⟨b, cs, t, cap, hv, _⟩
  · exact ⟨a, 0, hv⟩
  · exact ⟨_, cap, hv⟩

/-- A slice of one's own is stored at a path: a link. 'cs0': a value's cells. -/
theorem link_sound (hE : EnvTy P E) (hc : Core c σ a.tmps w M ν) {t : TypeId} {x y : Operand} (ho : o.op = .store t x y) {K : OpK α} {τ : Ty} (ht : E.ty t = some τ) {id k : Nat} {q : List Step} {e : Ty} {υ : Ty} {z : υ.den}
    (hx : σ.ρ x = .adr id q) (hy : σ.ρ y = .ref k) {en : Ent} (hid : σ.H id = some en) (hen : en.mut) (hlike : en.like (.lnk υ z q k)) (hq : pathQ q υ (.slice e) = true)
    (hmem : ∃ b cs te cs0 u, ν id = .pointer (some ⟨b, 0, none⟩) ∧ w.heap[b]? = some (.cells cs te (0, 0)) ∧ Rd w M υ cs0 z ∧ cs.toList = spl cs0 (offP q υ) [u])
    (h : linkK τ id k e q υ z σ.H K = some r) (hn : Goes1 c σ a o w M ν K r next) : o.wp P a w next Q := by
  unfold linkK at h
  split at h
  · rename_i e' l hk
    obtain ⟨e1, h1⟩ := sameK_inv h
    clear h
    subst e1
    obtain ⟨e2, h2⟩ := sameK_inv h1
    clear h1
    subst e2
    obtain ⟨z', hK, hty, hbd, hset⟩ := setP_inv h2
    obtain ⟨b, cs, te, cs0, u, hb, hg, hr, hcs⟩ := hmem
    have hinb := (pathQ_inb hq).1
    obtain ⟨ad, cp, hνk⟩ := ER.own_slice hc.mem hk
    have hyv := hc.ev y
    rw [hy] at hyv
    simp only [VR] at hyv
    have hyv := hyv.2
    have hbd := hbd hinb
    have hlen := hr.length
    have hs1 : (Ty.slice e').size = 1 := rfl
    have hlt : offP q υ < cs0.length := by omega
    have hcl : cs.toList.length = cs0.length := by rw [hcs]; exact length_spl (by simp; omega)
    have hv := hc.ev x
    rw [hx] at hv
    simp only [VR] at hv
    obtain ⟨e3, he3, har⟩ := hv
    rw [hid] at he3; cases he3
    have har := har.like hlike
    simp only [AR] at har
    obtain ⟨_, b', hb', hu⟩ := har
    rw [hb] at hb'; cases hb'
    have hyc : (a.eval y).cells.toList = [ν k] := by rw [hyv, hνk]; rfl
    have hsz : (a.eval y).cells.size = (Ty.slice e').size := by rw [← Array.length_toList, hyc]; rfl
    have hrun := run_store_op (P := P) ho (hE.ty t _ ht) hu hg hsz (by rw [← Array.length_toList]; omega) (by rw [hyc, hνk]; simp [Value.oneCell'])
    have hnew : (cs.toList.take (offP q υ) ++ (a.eval y).cells.toList ++ cs.toList.drop (offP q υ + (a.eval y).cells.toList.length)) = spl cs0 (offP q υ) [ν k] := by
      rw [hyc]
      show spl cs.toList (offP q υ) [ν k] = _
      rw [hcs, spl_twice hlt]
    rw [hnew] at hrun
    have hrz : Rd w M υ (spl cs0 (offP q υ) [.slice none 0 0]) z' := hset w M cs0 [.slice none 0 0] hinb hr (Rd.zero w M (.slice e'))
    have htr : Tr c σ.H w M ν (updH σ.H id (some (.lnk υ z' q k))) (w.setRow b (spl cs0 (offP q υ) [ν k]).toArray) M ν := by
      refine Tr.write (e' := .lnk υ z' q k) hc.mem hid hen trivial (by cases en <;> simp only [Ent.like] at hlike ⊢ <;> exact hlike) (by rw [hb]; rfl) hg (fun M'' hk' hM'' => ?_) (fun τ' x' p' j' hl => ?_)
      · simp only [ER]
        refine ⟨b, _, te, spl cs0 (offP q υ) [.slice none 0 0], ν k, hb, setRow_heap w b cs _ te _ hg, hM'', hrz.keep hk', ?_, by rw [hνk]; rfl, e', hq⟩
        rw [spl_twice hlt]
      · cases hl
        refine ⟨by rw [hk]; simp, b, hb, ?_⟩
        rw [cell_of (setRow_heap w b cs _ te _ hg), ← Array.getElem?_toList]
        show (spl cs0 (offP q υ) [ν k])[offP q υ]? = _
        rw [spl_get hlt]
    exact wp_of_skip hrun (hn _ _ _ _ _ M ν hK htr (by simp [VR]))
  · cases h

theorem op_store (hE : EnvTy P E) (hc : Core c σ a.tmps w M ν) {t : TypeId} {x y : Operand} (ho : o.op = .store t x y) {K : OpK α} {τ : Ty} (ht : E.ty t = some τ)
    (h : storeL E τ (σ.ρ x) (σ.ρ y) σ.H K = some r) (hn : Goes1 c σ a o w M ν K r next) : o.wp P a w next Q := by
  have hold : storeK τ (σ.ρ x) (σ.ρ y) σ.H K = some r → o.wp P a w next Q := fun h => op_store0 hE hc ho ht h hn
  unfold storeL at h
  simp only at h
  split at h
  · rename_i id p hx
    have hx' := hx
    split at h
    · rename_i υ z hid
      split at h
      · rename_i q e k hlk hy
        cases hp : peq p q
        · rw [hp] at h; exact hold h
        · rw [hp] at h
          simp only [cond_true] at h
          have := peq_eq hp
          subst this
          have hq := lkOf_inv hlk
          have hent := hc.mem.ent id _ hid
          simp only [ER] at hent
          obtain ⟨b, cs, te, hb, hg, hM, hr⟩ := hent
          have hlt : offP p υ < cs.toList.length := by
            obtain ⟨_, _, hpth⟩ := pathQ_pth hq z
            have := hpth.bound (pathQ_inb hq).1
            have h2 := hpth.eq.2
            have := hr.length
            have : (Ty.slice e).size = 1 := rfl
            omega
          refine link_sound hE hc ho ht hx hy hid trivial rfl hq ⟨b, cs, te, cs.toList, cs.toList[offP p υ], hb, hg, hr, ?_⟩ h hn
          exact (spl_self (List.getElem?_eq_getElem hlt)).symm
      · exact hold h
    · rename_i υ z q j hid
      obtain ⟨b, cs, te, cs0, e0, hb, hg, hM, hr, hcs, h1, hq, hlt, hj⟩ := hc.mem.linked hid
      have hput : asVK true (σ.ρ y) σ.H τ (fun y rd ups => setP τ y p υ z fun z => K .any (id :: rd) (ups ++ [(id, some (cond (ppre p q) (.obj υ z) (.lnk υ z q j)))])) = some r → o.wp P a w next Q := by
        intro h
        obtain ⟨u, rd, ups, M', h, htr, hV, hz, hrd⟩ := asVK_sound (.refl _) hc.mem (hc.ev y) h
        have hid1 := hz.lnk hid
        have hv := hc.ev x
        rw [hx] at hv
        have hvz := VR.keep htr.keep htr.goes hv
        simp only [VR] at hvz
        obtain ⟨e1, he1, har⟩ := hvz
        rw [hid1] at he1; cases he1
        simp only [AR] at har
        obtain ⟨hi, b1, hb1, hu⟩ := har
        rw [hb] at hb1; cases hb1
        obtain ⟨b2, cs2, te2, cs3, e3, hb2, hg2, hM2, hr2, hcs2, h12, hq2, hlt2, hj2⟩ := htr.mem.linked hid1
        rw [hb] at hb2; cases hb2
        rw [hg] at hg2; cases hg2
        obtain ⟨z', hK, hty, hbd, hset⟩ := setP_inv h
        have hbd := hbd hi
        have hlc := hr2.length
        have hcl : cs.toList.length = cs3.length := by rw [hcs2]; exact length_spl (by simp; omega)
        have hcy := hV.cells.length
        rw [Array.length_toList] at hcy
        have hcy2 : (a.eval y).cells.toList.length = τ.size := by rw [Array.length_toList]; exact hcy
        have hrun := run_store_op (P := P) ho (hE.ty t _ ht) hu hg hcy (by rw [← Array.length_toList]; omega) hV.cells.oneCell
        have hfold : cs.toList.take (offP p υ) ++ (a.eval y).cells.toList ++ cs.toList.drop (offP p υ + (a.eval y).cells.toList.length) = spl cs.toList (offP p υ) (a.eval y).cells.toList := rfl
        rw [hfold] at hrun
        have hzr := hset w M' cs3 _ hi hr2 hV.cells
        have fin : ∀ e', e'.mut → Ent.like (.lnk υ z q j) e' → K .any (id :: rd) (ups ++ [(id, some e')]) = some r → (∀ M'', Keeps w M' (w.setRow b (spl cs.toList (offP p υ) (a.eval y).cells.toList).toArray) M'' → M'' b → ER (w.setRow b (spl cs.toList (offP p υ) (a.eval y).cells.toList).toArray) M'' (ν id) e') →
            (∀ τ' x' p' j', e' = .lnk τ' x' p' j' → (upsH σ.H ups) j' ≠ none ∧ ∃ b', ν id = .pointer (some ⟨b', 0, none⟩) ∧ (w.setRow b (spl cs.toList (offP p υ) (a.eval y).cells.toList).toArray).cell? ⟨b', offP p' τ', none⟩ = some (ν j')) → o.wp P a w next Q := by
          intro e' hm' hl' hK her hlk
          have htr2 := Tr.write (e' := e') htr.mem hid1 trivial hm' hl' (by rw [hb]; rfl) hg her hlk
          refine wp_of_skip hrun (hn _ _ _ _ _ M' ν hK ?_ (by simp [VR]))
          rw [upsH_append]
          exact htr.trans htr2
        cases hpp : ppre p q
        · rw [hpp] at hK
          simp only [cond_false] at hK
          obtain ⟨yy, oo, hpth⟩ : ∃ y o, Pth p υ z τ y o := setP_pth h
          have hap := hpth.apart hi hq hpp
          have hoo := hpth.eq.2
          subst hoo
          have hcomm : spl cs.toList (offP p υ) (a.eval y).cells.toList = spl (spl cs3 (offP p υ) (a.eval y).cells.toList) (offP q υ) [ν j] := by
            rw [hcs2]
            exact spl_comm (by simp only [List.length_singleton]; omega) (by simp only [List.length_singleton]; omega) (by omega)
          have hl3 := length_spl (a := cs3) (o := offP p υ) (new := (a.eval y).cells.toList) (by omega)
          refine fin (.lnk υ z' q j) trivial rfl hK (fun M'' hk hM'' => ?_) (fun τ' x' p' j' hl => ?_)
          · simp only [ER]
            exact ⟨b, _, te, _, ν j, hb, setRow_heap w b cs _ te _ hg, hM'', hzr.keep hk, hcomm, h1, e0, hq⟩
          · cases hl
            refine ⟨hj2, b, hb, ?_⟩
            rw [cell_of (setRow_heap w b cs _ te _ hg), ← Array.getElem?_toList]
            show (spl cs.toList (offP p υ) (a.eval y).cells.toList)[offP q υ]? = _
            rw [hcomm, spl_get (by omega)]
        · rw [hpp] at hK
          simp only [cond_true] at hK
          refine fin (.obj υ z') trivial rfl hK (fun M'' hk hM'' => ?_) (fun τ' x' p' j' hl => by cases hl)
          simp only [ER]
          refine ⟨b, _, te, hb, setRow_heap w b cs _ te _ hg, hM'', ?_⟩
          show Rd _ _ υ (spl cs.toList (offP p υ) (a.eval y).cells.toList) z'
          have hin := pre_range hpp hq
          rw [hty] at hin
          have ho : spl cs.toList (offP p υ) (a.eval y).cells.toList = spl cs3 (offP p υ) (a.eval y).cells.toList := by
            rw [hcs2]
            exact spl_over (by simp only [List.length_singleton]; omega) (by simp only [List.length_singleton]; omega) (by omega)
          have h9 := hzr.keep hk
          rw [← ho] at h9
          exact h9
      split at h
      · rename_i q' e k hlk hy
        cases hp : (peq p q && peq q q')
        · rw [hp] at h; exact hput h
        · rw [hp] at h
          simp only [cond_true] at h
          rw [Bool.and_eq_true] at hp
          have := peq_eq hp.1
          subst this
          have := peq_eq hp.2
          subst this
          refine link_sound hE hc ho ht hx hy hid trivial rfl (lkOf_inv hlk) ⟨b, cs, te, cs0, ν j, hb, hg, hr, hcs⟩ h hn
      · exact hput h
    · exact hold h
  · exact hold h

theorem op_storeN (hE : EnvTy P E) (hc : Core c σ a.tmps w M ν) {t : TypeId} {x y : Operand} (ho : o.op = .store t x y) {K : OpK α} {τ : Ty} (ht : E.ty t = some τ)
    (h : storeN E τ (σ.ρ x) (σ.ρ y) σ.H K = some r) (hn : Goes1 c σ a o w M ν K r next) : o.wp P a w next Q := by
  unfold storeN at h
  split at h
  · rename_i id υ z n hx hy
    split at h
    · rename_i m e hlk
      cases hmn : Nat.beq m n
      · rw [hmn] at h
        simp only [cond_false] at h
        exact op_store hE hc ho ht h hn
      · rw [hmn] at h
        simp only [cond_true] at h
        have hmn := Nat.eq_of_beq_eq_true hmn
        subst hmn
        obtain ⟨e1, h1⟩ := sameK_inv h
        clear h
        subst e1
        have hq := lkOf_inv hlk
        have hyv := hc.ev y
        rw [hy] at hyv
        simp only [VR] at hyv
        obtain ⟨hV, cs, ad, hva, hz⟩ := hyv
        have hcy : (a.eval y).cells = cs := by rw [hva]; rfl
        -- the entry
        obtain ⟨en, hid, hen, hK⟩ : ∃ en : Ent, σ.H id = some en ∧ (∃ z0, en = .obj τ z0 ∨ ∃ q j, en = .lnk τ z0 q j) ∧ σ.H (id + 2) = none ∧ K .any [id, id + 2] [(id, some (.lnk τ z [.fld m] (id + 2))), (id + 2, some (.own e []))] = some r := by
          unfold placeK at h1
          split at h1
          · rename_i υ z0 hid
            obtain ⟨e2, h2⟩ := sameK_inv h1
            clear h1
            subst e2
            obtain ⟨h3, h4⟩ := newK_inv h2
            exact ⟨_, hid, ⟨z0, .inl rfl⟩, h3, h4⟩
          · rename_i υ z0 q j hid
            obtain ⟨e2, h2⟩ := sameK_inv h1
            clear h1
            subst e2
            obtain ⟨h3, h4⟩ := newK_inv h2
            exact ⟨_, hid, ⟨z0, .inr ⟨q, j, rfl⟩⟩, h3, h4⟩
          · cases h1
          · cases h1
          · cases h1
        obtain ⟨hk, hK⟩ := hK
        have hmut : en.mut := by rcases hen with ⟨z0, rfl | ⟨q, j, rfl⟩⟩ <;> trivial
        have hlike : en.like (.obj τ z) := by rcases hen with ⟨z0, rfl | ⟨q, j, rfl⟩⟩ <;> rfl
        obtain ⟨b, cs0, te, hb, hg, hsz⟩ : ∃ b cs0 te, ν id = .pointer (some ⟨b, 0, none⟩) ∧ w.heap[b]? = some (.cells cs0 te (0, 0)) ∧ cs0.toList.length = τ.size := by
          rcases hen with ⟨z0, rfl | ⟨q, j, rfl⟩⟩
          · have := hc.mem.ent id _ hid
            simp only [ER] at this
            obtain ⟨b, cs0, te, h2, h3, _, h5⟩ := this
            exact ⟨b, cs0, te, h2, h3, h5.length⟩
          · obtain ⟨b, cs0, te, cs1, _, h2, h3, _, h5, h6, _, _, h7, _⟩ := hc.mem.linked hid
            refine ⟨b, cs0, te, h2, h3, ?_⟩
            rw [h6, length_spl (by simp only [List.length_singleton]; omega), h5.length]
        have hv := hc.ev x
        rw [hx] at hv
        simp only [VR] at hv
        obtain ⟨e3, he3, har⟩ := hv
        rw [hid] at he3; cases he3
        have har := har.like hlike
        simp only [AR] at har
        obtain ⟨_, b', hb', hu⟩ := har
        rw [hb] at hb'; cases hb'
        have hcl := hV.cells.length
        have hrun := run_store_op (P := P) ho (hE.ty t _ ht) hu hg (by rw [← Array.length_toList]; exact hcl) (by rw [← Array.length_toList, hsz]; simp [offP]) hV.cells.oneCell
        have hfold : cs0.toList.take (offP [] τ) ++ (a.eval y).cells.toList ++ cs0.toList.drop (offP [] τ + (a.eval y).cells.toList.length) = (a.eval y).cells.toList := by
          simp only [offP, List.take_zero, List.nil_append, Nat.zero_add]
          rw [List.drop_of_length_le (by omega), List.append_nil]
        rw [hfold] at hrun
        have hset := setRow_heap w b cs0 (a.eval y).cells.toList.toArray te _ hg
        have htr := Tr.write (e' := .obj τ z) (new := (a.eval y).cells.toList.toArray) hc.mem hid hmut trivial hlike (by rw [hb]; rfl) hg (fun M'' hk' hM'' => by
          simp only [ER]
          exact ⟨b, _, te, hb, hset, hM'', hV.cells.keep hk'⟩)
        have hne : id + 2 ≠ id := by omega
        have htr2 := Tr.relink htr.mem (id := id) (k := id + 2) (by rw [updH_ne _ _ hne]; exact hk) (updH_same _ _ _) hb hset hq (ad := ad) (by rw [hcy]; simpa [offP] using hz)
        have e1 : upsH (updH σ.H id (some (.obj τ z))) [(id, some (.lnk τ z [.fld m] (id + 2))), (id + 2, some (.own e []))] = upsH σ.H [(id, some (.lnk τ z [.fld m] (id + 2))), (id + 2, some (.own e []))] := by
          show updH (updH (updH σ.H id _) id _) (id + 2) _ = updH (updH σ.H id _) (id + 2) _
          rw [updH_twice]
        rw [e1] at htr2
        exact wp_of_skip hrun (hn _ _ _ _ _ _ _ hK (htr.trans htr2) (by simp [VR]))
    · exact op_store hE hc ho ht h hn
  · exact op_store hE hc ho ht h hn

end VM
end

section
/- The value machine, eleventh text: addresses, fields, elements. -/
namespace VM
open Go
variable {P : Program} {E : Env} {o : Oper} {a : Act} {w : World} {M : Nat → Prop} {ν : Nat → Value} {σ : St} {c : Ctx} {α : Type} {r : α} {next : Act → World → Prop} {Q : Exit → Act → World → Prop}

theorem nb {n : Nat} (h : Nat.beq n 0 = false) : n ≠ 0 := by rw [← Bool.not_eq_true, Nat.beq_eq] at h; exact h

theorem At.sub {b off : Nat} {cs : List Value} (h : At w b off cs) (o n : Nat) : At w b (off + o) ((cs.drop o).take n) := by
  intro j v hj
  rw [List.getElem?_take] at hj
  split at hj
  · rw [List.getElem?_drop] at hj
    have := h _ v hj
    rwa [← Nat.add_assoc] at this
  · cases hj

/-- What type stands at a place. -/
def entTy : Ent → List Step → Option Ty
  | .obj τ _, p => some (tyP p τ)
  | .lnk τ _ _ _, p => some (tyP p τ)
  | .own e _, .idx _ :: p | .frz e _, .idx _ :: p => some (tyP p e)
  | _, _ => none

theorem placeK_inv {id : Nat} {p : List Step} {H : Nat → Option Ent} {k : Ty → Option α} (h : placeK id p H k = some r) : ∃ e υ, H id = some e ∧ entTy e p = some υ ∧ k υ = some r := by
  unfold placeK at h
  split at h
  · rename_i τ x hid
    obtain ⟨υ, y, o, hp, hk⟩ := getP_inv h
    exact ⟨_, υ, hid, by simp [entTy, hp.eq.1], hk⟩
  · rename_i τ x _ _ hid
    obtain ⟨υ, y, o, hp, hk⟩ := getP_inv h
    exact ⟨_, υ, hid, by simp [entTy, hp.eq.1], hk⟩
  · rename_i e l hid
    split at h
    · obtain ⟨υ, y, o, hp, hk⟩ := getP_inv h
      exact ⟨_, υ, hid, by simp [entTy, hp.eq.1], hk⟩
    · cases h
  · rename_i e l hid
    split at h
    · obtain ⟨υ, y, o, hp, hk⟩ := getP_inv h
      exact ⟨_, υ, hid, by simp [entTy, hp.eq.1], hk⟩
    · cases h
  · cases h

/-- One step further. -/
theorem AR.step {v : Value} {p : List Step} {u : Value} {e : Ent} {υ : Ty} (h : AR v p u e) (ht : entTy e p = some υ) (s : Step) (hs : InbP [s] υ) :
    ∃ b off, u = .pointer (some ⟨b, off, none⟩) ∧ AR v (p ++ [s]) (.pointer (some ⟨b, off + offP [s] υ, none⟩)) e := by
  cases e with
  | obj τ x =>
    simp only [entTy, Option.some.injEq] at ht
    simp only [AR] at h ⊢
    obtain ⟨hi, b, hb, rfl⟩ := h
    subst ht
    exact ⟨b, _, rfl, (InbP_append p [s] τ).2 ⟨hi, hs⟩, b, hb, by rw [offP_append]⟩
  | lnk τ x _ _ =>
    simp only [entTy, Option.some.injEq] at ht
    simp only [AR] at h ⊢
    obtain ⟨hi, b, hb, rfl⟩ := h
    subst ht
    exact ⟨b, _, rfl, (InbP_append p [s] τ).2 ⟨hi, hs⟩, b, hb, by rw [offP_append]⟩
  | own e l =>
    simp only [AR] at h ⊢
    obtain ⟨i, q, rfl, hil, hi, b, n, cp, hb, rfl⟩ := h
    simp only [entTy, Option.some.injEq] at ht
    subst ht
    exact ⟨b, _, rfl, i, q ++ [s], rfl, hil, (InbP_append q [s] e).2 ⟨hi, hs⟩, b, n, cp, hb, by rw [offP_append, Nat.add_assoc]⟩
  | frz e l =>
    simp only [AR] at h ⊢
    obtain ⟨i, q, rfl, hil, hi, b, n, cp, hb, rfl⟩ := h
    simp only [entTy, Option.some.injEq] at ht
    subst ht
    exact ⟨b, _, rfl, i, q ++ [s], rfl, hil, (InbP_append q [s] e).2 ⟨hi, hs⟩, b, n, cp, hb, by rw [offP_append, Nat.add_assoc]⟩
  | gone => simp [entTy] at ht

theorem op_fieldAddr_adr (hE : EnvTy P E) (hc : Core c σ a.tmps w M ν) {t : TypeId} {x : Operand} {n : Nat} (ho : o.op = .fieldAddr t x n) {K : OpK α} {τ : Ty} (ht : E.ty t = some τ) {id : Nat} {p : List Step} (hx : σ.ρ x = .adr id p)
    (h : placeK id p σ.H (fun υ => sameK υ τ (fldK τ τ.zero n fun υ' _ => cond (Nat.beq υ'.size 0) none (K (.adr id (p ++ [.fld n])) [id] []))) = some r) (hn : Goes1 c σ a o w M ν K r next) : o.wp P a w next Q := by
  obtain ⟨e, υ, hid, het, h⟩ := placeK_inv h
  obtain ⟨he_, h_⟩ := sameK_inv h
  clear h
  subst he_
  have h := h_
  clear h_
  obtain ⟨υ', y, of, hf, h⟩ := fldK_inv h
  obtain ⟨hz, h⟩ := cond_inv' h
  have hv := hc.ev x
  rw [hx] at hv
  simp only [VR] at hv
  obtain ⟨e', he', har⟩ := hv
  rw [hid] at he'; cases he'
  obtain ⟨b, off, hu, har'⟩ := har.step het (.fld n) trivial
  obtain ⟨fs, f, hus, hff, hfo, hfl⟩ := (hE.ty t υ ht).fld hf
  obtain ⟨v, hrun, hvv⟩ := run_fieldAddr_op (P := P) ho (w := w) hus hff hfl (nb hz) hu
  refine wp_of_run hrun (hn _ _ _ _ _ M ν h (.refl hc.mem) ?_)
  simp only [VR]
  refine ⟨e, hid, ?_⟩
  rw [hvv, hfo, hf.eq.2]
  simpa [offP] using har'

theorem op_fieldAddr_iadr (hE : EnvTy P E) (hc : Core c σ a.tmps w M ν) {t : TypeId} {x : Operand} {n : Nat} (ho : o.op = .fieldAddr t x n) {K : OpK α} {τ : Ty} (ht : E.ty t = some τ) {υ : Ty} {z : υ.den} (hx : σ.ρ x = .iadr υ z)
    (h : sameK υ τ (fldK υ z n fun υ y => cond (Nat.beq υ.size 0) none (K (.iadr υ y) [] [])) = some r) (hn : Goes1 c σ a o w M ν K r next) : o.wp P a w next Q := by
  obtain ⟨he, h1⟩ := sameK_inv h
  subst he
  obtain ⟨υ', y, of, hf, h⟩ := fldK_inv h1
  obtain ⟨hz, h⟩ := cond_inv' h
  have hv := hc.ev x
  rw [hx] at hv
  simp only [VR] at hv
  obtain ⟨b, off, hu, hb, hM, cs, hat, hr⟩ := hv
  obtain ⟨fs, f, hus, hff, hfo, hfl⟩ := (hE.ty t υ ht).fld hf
  obtain ⟨v, hrun, hvv⟩ := run_fieldAddr_op (P := P) ho (w := w) hus hff hfl (nb hz) hu
  refine wp_of_run hrun (hn _ _ _ _ _ M ν h (.refl hc.mem) ?_)
  simp only [VR]
  exact ⟨b, off + f.offset, hvv, hb, hM, _, by rw [hfo]; exact hat.sub of υ'.size, hf.rd hr⟩

theorem V.agg {τ : Ty} (ha : τ.isAgg = true) {v : Value} {x : τ.den} (h : V w M τ v x) : ∃ cs, v = .agg cs ∧ Rd w M τ cs.toList x := by
  unfold V at h; rw [if_pos ha] at h; exact h

theorem Fld.agg {τ : Ty} {x : τ.den} {n : Nat} {υ : Ty} {y : υ.den} {o : Nat} (h : Fld τ x n υ y o) : τ.isAgg = true := by cases h <;> rfl

theorem op_field (hE : EnvTy P E) (hc : Core c σ a.tmps w M ν) {t : TypeId} {x : Operand} {n : Nat} (ho : o.op = .field t x n) {K : OpK α} {τ : Ty} (ht : E.ty t = some τ) {υ : Ty} {z : υ.den} (hx : σ.ρ x = .val υ z)
    (h : sameK υ τ (fldK υ z n fun υ y => K (.val υ y) [] []) = some r) (hn : Goes1 c σ a o w M ν K r next) : o.wp P a w next Q := by
  obtain ⟨he, h1⟩ := sameK_inv h
  subst he
  obtain ⟨υ', y, of, hf, h⟩ := fldK_inv h1
  have hv := hc.ev x
  rw [hx] at hv
  simp only [VR] at hv
  obtain ⟨cs, hu, hr⟩ := hv.agg hf.agg
  obtain ⟨fs, f, hus, hff, hfo, hfl⟩ := (hE.ty t υ ht).fld hf
  have hr' := hf.rd hr
  refine wp_of_run (run_field_op ho hus hff hfl hu (by rw [hfo]; exact hr')) (hn _ _ _ _ _ M ν h (.refl hc.mem) ?_)
  simp only [VR]
  rw [hfo]
  exact V.ofCells hr'

theorem op_indexAddr (hE : EnvTy P E) (hc : Core c σ a.tmps w M ν) {t : TypeId} {x i : Operand} (ho : o.op = .indexAddr t x i) {K : OpK α} {τ : Ty} (ht : E.ty t = some τ)
    (h : indexAddrK τ (σ.ρ x) (σ.ρ i) σ.H K = some r) (hn : Goes1 c σ a o w M ν K r next) : o.wp P a w next Q := by
  unfold indexAddrK at h
  obtain ⟨k, n, hi, h2⟩ := intK_inv h
  clear h
  have h := h2
  clear h2
  have hiv := hc.ev i
  rw [hi] at hiv
  have hiv := hiv.int
  have hv := hc.ev x
  have hlay := hE.ty t τ ht
  split at h
  · -- a slice
    rename_i e
    obtain ⟨e', hus, hle⟩ := hlay.slice
    split at h
    · rename_i υ l hx
      obtain ⟨e1, h⟩ := castK_inv h
      subst e1
      obtain ⟨hin, h⟩ := cond_inv h
      obtain ⟨h0, h1⟩ := inb_inv hin
      have h1 : n < (List.length l : Int) := h1
      rw [hx] at hv
      simp only [VR] at hv
      have hv := V.slice.1 hv
      simp only [Rd, List.cons.injEq, and_true] at hv
      obtain ⟨ad, cap, hu, hcap, hr⟩ := hv
      obtain ⟨b, off, rfl, hb, hM, cs, hat, hrd⟩ := hr n.toNat (by omega)
      refine wp_of_run (run_indexAddr_slice ho hus hle hu hiv h0 h1) (hn _ _ _ _ _ M ν h (.refl hc.mem) ?_)
      simp only [VR]
      refine ⟨b, _, rfl, hb, hM, cs, hat, ?_⟩
      have : Rd w M e cs (List.getD l n.toNat e.zero) := by rw [getElem_getD l n.toNat e.zero (by omega)]; exact hrd
      exact this
    · rename_i id hx
      rw [hx] at hv
      simp only [VR] at hv
      obtain ⟨_, hu⟩ := hv
      split at h
      · rename_i e2 l hid
        obtain ⟨he_, h_⟩ := sameK_inv h
        clear h
        subst he_
        have h := h_
        clear h_
        obtain ⟨hin, h⟩ := cond_inv h
        obtain ⟨h0, h1⟩ := inb_inv hin
        have hent := hc.mem.ent id _ hid
        simp only [ER] at hent
        rcases hent with ⟨rfl, _⟩ | ⟨b, cs, te, cap, hb, hg, hM, hc0, hl, hml, hs, hr⟩
        · simp at h1; omega
        · rw [hb] at hu
          refine wp_of_run (run_indexAddr_slice ho hus hle hu hiv h0 h1) (hn _ _ _ _ _ M ν h (.refl hc.mem) ?_)
          simp only [VR]
          refine ⟨_, hid, ?_⟩
          simp only [AR]
          exact ⟨n.toNat, [], rfl, by omega, trivial, b, _, _, hb, by simp [offP]⟩
      · rename_i e2 l hid
        obtain ⟨he_, h_⟩ := sameK_inv h
        clear h
        subst he_
        have h := h_
        clear h_
        obtain ⟨hin, h⟩ := cond_inv h
        obtain ⟨h0, h1⟩ := inb_inv hin
        have hent := hc.mem.ent id _ hid
        simp only [ER] at hent
        obtain ⟨hrd, hhd⟩ := hent
        simp only [Rd, List.cons.injEq, and_true] at hrd
        obtain ⟨ad, cap, hb, hcap, hr⟩ := hrd
        rcases hhd with ⟨rfl, _⟩ | ⟨b, n2, c2, hb2⟩
        · simp at h1; omega
        · rw [hb] at hb2; cases hb2
          rw [hb] at hu
          refine wp_of_run (run_indexAddr_slice ho hus hle hu hiv h0 h1) (hn _ _ _ _ _ M ν h (.refl hc.mem) ?_)
          simp only [VR]
          refine ⟨_, hid, ?_⟩
          simp only [AR]
          exact ⟨n.toNat, [], rfl, by omega, trivial, b, _, _, hb, by simp [offP]⟩
      · cases h
    · cases h
  · -- an array
    rename_i len e
    obtain ⟨e', hus, hle⟩ := hlay.arr
    split at h
    · rename_i id p hx
      obtain ⟨en, υ, hid, het, h⟩ := placeK_inv h
      obtain ⟨he_, h_⟩ := sameK_inv h
      clear h
      subst he_
      have h := h_
      clear h_
      obtain ⟨hin, h⟩ := cond_inv h
      obtain ⟨h0, h1⟩ := inb_inv hin
      rw [hx] at hv
      simp only [VR] at hv
      obtain ⟨en', he', har⟩ := hv
      rw [hid] at he'; cases he'
      obtain ⟨b, off, hu, har'⟩ := har.step het (.idx n.toNat) ⟨⟨len, e, rfl, by omega⟩, trivial⟩
      refine wp_of_run (run_indexAddr_arr ho hus hle hu hiv h0 h1) (hn _ _ _ _ _ M ν h (.refl hc.mem) ?_)
      simp only [VR]
      refine ⟨en, hid, ?_⟩
      simpa [offP, elT] using har'
    · rename_i υ l hx
      obtain ⟨e1, h⟩ := castK_inv h
      subst e1
      obtain ⟨hin, h⟩ := cond_inv h
      obtain ⟨h0, h1⟩ := inb_inv hin
      rw [hx] at hv
      simp only [VR] at hv
      obtain ⟨b, off, hu, hb, hM, cs, hat, hr⟩ := hv
      refine wp_of_run (run_indexAddr_arr ho hus hle hu hiv h0 h1) (hn _ _ _ _ _ M ν h (.refl hc.mem) ?_)
      simp only [VR]
      exact ⟨b, _, rfl, hb, hM, _, hat.sub _ e.size, hr.idx (by omega)⟩
    · cases h
  · cases h

theorem op_nilCheck_adr (hc : Core c σ a.tmps w M ν) {x : Operand} (ho : o.op = .nilCheck x) {K : OpK α} {id : Nat} {p : List Step} (hx : σ.ρ x = .adr id p)
    (h : K (.adr id p) [] [] = some r) (hn : Goes1 c σ a o w M ν K r next) : o.wp P a w next Q := by
  have hv := hc.ev x
  have hv' := hv
  rw [hx] at hv
  simp only [VR] at hv
  obtain ⟨e, he, har⟩ := hv
  obtain ⟨ad, hu⟩ := har.ptr
  refine wp_of_run (run_nilCheck_op ho hu) (hn _ _ _ _ _ M ν h (.refl hc.mem) ?_)
  rw [← hu, ← hx]; exact hv'

theorem op_nilCheck_iadr (hc : Core c σ a.tmps w M ν) {x : Operand} (ho : o.op = .nilCheck x) {K : OpK α} {τ : Ty} {z : τ.den} (hx : σ.ρ x = .iadr τ z)
    (h : K (.iadr τ z) [] [] = some r) (hn : Goes1 c σ a o w M ν K r next) : o.wp P a w next Q := by
  have hv := hc.ev x
  have hv' := hv
  rw [hx] at hv
  simp only [VR] at hv
  obtain ⟨b, off, hu, _⟩ := hv
  refine wp_of_run (run_nilCheck_op ho hu) (hn _ _ _ _ _ M ν h (.refl hc.mem) ?_)
  rw [← hu, ← hx]; exact hv'

theorem VRs.get {H : Nat → Option Ent} : ∀ {as' : List AVal} {vs : List Value}, VRs w M H ν as' vs → ∀ {i : Nat} {x : AVal}, as'[i]? = some x → ∃ v, vs[i]? = some v ∧ VR w M H ν x v
  | [], _, _, i, x, hx => by simp at hx
  | y :: as', [], h, _, _, _ => by simp [VRs] at h
  | y :: as', v :: vs, h, 0, x, hx => by
    simp only [VRs] at h
    simp at hx; subst hx
    exact ⟨v, rfl, h.1⟩
  | y :: as', v :: vs, h, i + 1, x, hx => by
    simp only [VRs] at h
    exact VRs.get h.2 (by simpa using hx)

theorem op_extract (hc : Core c σ a.tmps w M ν) {x : Operand} {i : Nat} (ho : o.op = .extract x i) {K : OpK α} {vs : List AVal} {v : AVal} (hx : σ.ρ x = .tup vs) (hi : vs[i]? = some v)
    (h : K v [] [] = some r) (hn : Goes1 c σ a o w M ν K r next) : o.wp P a w next Q := by
  have hv := hc.ev x
  rw [hx] at hv
  simp only [VR] at hv
  obtain ⟨us, hu, hvs⟩ := hv
  obtain ⟨u, hui, hvu⟩ := hvs.get hi
  exact wp_of_run (run_extract_op ho hu hui) (hn _ _ _ _ _ M ν h (.refl hc.mem) hvu)

theorem Core.evs (hc : Core c σ a.tmps w M ν) : ∀ xs : List Operand, VRs w M σ.H ν (xs.map σ.ρ) (xs.map a.eval)
  | [] => by simp [VRs]
  | x :: xs => by simp only [List.map_cons, VRs]; exact ⟨hc.ev x, hc.evs xs⟩

theorem capFz_sound : ∀ {as' : List AVal} {vs : List Value} {H : Nat → Option Ent} {M : Nat → Prop} {K : List AVal → List Nat → Ups → Option α}, Mem c H w M ν → VRs w M H ν as' vs → capFz H as' K = some r →
    ∃ cs rd ups M', K cs rd ups = some r ∧ Tr c H w M ν (upsH H ups) w M' ν ∧ VRs w M' (upsH H ups) ν cs vs
  | [], vs, H, M, K, hm, hv, h => ⟨[], [], [], M, h, .refl hm, hv⟩
  | x :: xs, [], H, M, K, hm, hv, h => by simp [VRs] at hv
  | x :: xs, v :: vs, H, M, K, hm, hv, h => by
    simp only [VRs] at hv
    unfold capFz at h
    split at h
    · rename_i id
      split at h
      · rename_i τ z hid
        obtain ⟨M1, b, ht, hb, hlt, hM, cs0, hat, hrd⟩ := Tr.fix hm hid
        obtain ⟨cs, rd, ups, M2, hK, ht2, hv2⟩ := capFz_sound ht.mem (VRs.keep ht.keep ht.goes hv.2) h
        refine ⟨_, _, _, M2, hK, ht.trans ht2, ?_⟩
        have h1 : VR w M1 (updH H id (some .gone)) ν (.iadr τ z) v := by
          have hv1 := hv.1
          simp only [VR] at hv1 ⊢
          obtain ⟨e, he, har⟩ := hv1
          rw [hid] at he; cases he
          simp only [AR] at har
          obtain ⟨_, b', hb', hv1⟩ := har
          rw [hb] at hb'; cases hb'
          exact ⟨b, 0, hv1, hlt, hM, cs0, hat, hrd⟩
        simp only [VRs]
        exact ⟨VR.keep ht2.keep ht2.goes h1, hv2⟩
      · cases h
    · obtain ⟨cs, rd, ups, M2, hK, ht2, hv2⟩ := capFz_sound hm hv.2 h
      refine ⟨_, _, _, M2, hK, ht2, ?_⟩
      simp only [VRs]
      exact ⟨VR.keep ht2.keep ht2.goes hv.1, hv2⟩

theorem op_makeFunc (hc : Core c σ a.tmps w M ν) {f : FuncId} {first caps : Array Operand} (ho : o.op = .makeFunc (.func f) first caps) {K : OpK α}
    (h : cond first.isEmpty (capFz σ.H (caps.toList.map σ.ρ) fun cs rd ups => K (.clo f cs) rd ups) none = some r) (hn : Goes1 c σ a o w M ν K r next) : o.wp P a w next Q := by
  obtain ⟨hf, h⟩ := cond_inv h
  obtain ⟨cs, rd, ups, M', hK, ht, hv⟩ := capFz_sound hc.mem (hc.evs _) h
  refine wp_of_run (run_makeFunc_op ho (by simpa using hf)) (hn _ _ _ _ _ M' ν hK ht ?_)
  simp only [VR]
  exact ⟨caps.toList.map a.eval, by congr 1; apply Array.ext'; simp, hv⟩

theorem op_convert (hE : EnvTy P E) (hc : Core c σ a.tmps w M ν) {s d : TypeId} {x : Operand} (ho : o.op = .convert s d x) {K : OpK α} {τ : Ty} {k : IntKind} (hs : E.ty s = some τ) (hd : E.ty d = some (.int k))
    (h : intK (σ.ρ x) (fun _ n => K (.val (.int k) (W k n)) [] []) = some r) (hn : Goes1 c σ a o w M ν K r next) : o.wp P a w next Q := by
  obtain ⟨k', n, hx, h⟩ := intK_inv h
  have hv := hc.ev x
  rw [hx] at hv
  refine wp_of_run (run_convert_op ho (hE.ty s τ hs).isSome (hE.ty d _ hd).int hv.int) (hn _ _ _ _ _ M ν h (.refl hc.mem) ?_)
  rw [W_eq]; exact .mkInt k _

end VM
end

section
/- The value machine, twelfth text: numbers, comparisons, lengths. -/
namespace VM
open Go
variable {P : Program} {E : Env} {o : Oper} {a : Act} {w : World} {M : Nat → Prop} {ν : Nat → Value} {σ : St} {c : Ctx} {α : Type} {r : α} {next : Act → World → Prop} {Q : Exit → Act → World → Prop}

theorem shK_sound {b : BinOp} {k k' : IntKind} {x y : Int} {t : TypeId} {K : AVal → Option α} (h : shK b k x y K = some r) :
    ∃ z, K (.val (.int k) z) = some r ∧ (binOp b t (.int k x) (.int k' y)).run P w = .ok (.int k z) w := by
  unfold shK at h
  split at h
  · obtain ⟨h0, h⟩ := cond_inv' h
    rw [ltB_eq] at h0
    have h0 : ¬ y < 0 := by simpa using h0
    refine ⟨_, h, ?_⟩
    rw [W_eq, shl_eq]
    simp [binOp, Op.shift, h0]
  · obtain ⟨h0, h⟩ := cond_inv' h
    rw [ltB_eq] at h0
    have h0 : ¬ y < 0 := by simpa using h0
    refine ⟨_, h, ?_⟩
    rw [shr_eq]
    simp [binOp, Op.shift, h0]
  · cases h

theorem arithK_sound {b : BinOp} {k : IntKind} {x y : Int} {t : TypeId} {K : AVal → Option α} (h : arithK b k x y K = some r) :
    ∃ v u, K v = some r ∧ (binOp b t (.int k x) (.int k y)).run P w = .ok u w ∧ ∀ H, VR w M H ν v u := by
  unfold arithK at h
  split at h
  · exact ⟨_, _, h, by simp [binOp, Op.intArith, W_eq], fun H => .mkInt _ _⟩
  · exact ⟨_, _, h, by simp [binOp, Op.intArith, W_eq], fun H => .mkInt _ _⟩
  · exact ⟨_, _, h, by simp [binOp, Op.intArith, W_eq], fun H => .mkInt _ _⟩
  · obtain ⟨h0, h⟩ := cond_inv' h
    rw [eqB_eq] at h0
    have h0 : ¬ y = 0 := by simpa using h0
    exact ⟨_, _, h, by simp [binOp, Op.intDiv, W_eq, quo_eq, h0], fun H => .mkInt _ _⟩
  · obtain ⟨h0, h⟩ := cond_inv' h
    rw [eqB_eq] at h0
    have h0 : ¬ y = 0 := by simpa using h0
    exact ⟨_, _, h, by simp [binOp, Op.intDiv, rem_eq, h0], fun H => .mkInt _ _⟩
  · exact ⟨_, _, h, by simp [binOp, Op.intBits, bitw_eq], fun H => .mkInt _ _⟩
  · exact ⟨_, _, h, by simp [binOp, Op.intBits, bitw_eq], fun H => .mkInt _ _⟩
  · exact ⟨_, _, h, by simp [binOp, Op.intBits, bitw_eq], fun H => .mkInt _ _⟩
  · exact ⟨_, _, h, by simp [binOp, Op.intBits, bitw_eq], fun H => .mkInt _ _⟩
  · exact ⟨_, .bool (decide (x = y)), h, by simp [binOp, Op.intCmp]; rfl, fun H => by rw [eqB_eq]; exact .mkBool _⟩
  · exact ⟨_, .bool (!decide (x = y)), h, by simp [binOp, Op.intCmp]; rfl, fun H => by rw [eqB_eq]; exact .mkBool _⟩
  · exact ⟨_, _, h, by simp [binOp, Op.intCmp, ltB_eq], fun H => .mkBool _⟩
  · exact ⟨_, _, h, by simp [binOp, Op.intCmp, leB_eq], fun H => .mkBool _⟩
  · exact ⟨_, _, h, by simp [binOp, Op.intCmp, ltB_eq], fun H => .mkBool _⟩
  · exact ⟨_, _, h, by simp [binOp, Op.intCmp, leB_eq], fun H => .mkBool _⟩
  · cases h


theorem binVK_inv {t : Option Ty} {op : BinOp} {τ : Ty} {x : τ.den} {υ : Ty} {y : υ.den} {K : AVal → Option α} (h : binVK t op τ x υ y K = some r) :
    (∃ (k k' : IntKind) (m n : Int), AVal.val τ x = .val (.int k) m ∧ AVal.val υ y = .val (.int k') n ∧ (cond (isSh op) (shK op k m n K) (if k = k' then arithK op k m n K else none)) = some r) ∨
    (∃ z : τ.den, AVal.val υ y = .val τ z ∧ t = some τ ∧ τ.comparable = true ∧ ((op = .eql ∧ K (.val .bool (teq τ x z)) = some r) ∨ (op = .neq ∧ K (.val .bool (!teq τ x z)) = some r))) := by
  unfold binVK at h
  split at h
  · exact .inl ⟨_, _, _, _, rfl, rfl, h⟩
  · right
    split at h
    · cases h
    · obtain ⟨e, h1⟩ := sameK_inv h
      clear h
      subst e
      obtain ⟨hc, h⟩ := cond_inv h1
      clear h1
      split at h
      · obtain ⟨e, h1⟩ := castK_inv h
        subst e
        exact ⟨_, rfl, rfl, hc, .inl ⟨rfl, h1⟩⟩
      · obtain ⟨e, h1⟩ := castK_inv h
        subst e
        exact ⟨_, rfl, rfl, hc, .inr ⟨rfl, h1⟩⟩
      · cases h

theorem run_eq_bool {t : TypeId} (hu : P.underlying t = some .bool) (x y : Bool) (w : World) : (Op.equal t (.bool x) (.bool y)).run P w = .ok (x == y) w := by
  unfold Op.equal
  obtain ⟨n, hn⟩ : ∃ n, Op.maxDepth = n + 1 := ⟨9999, rfl⟩
  rw [hn]
  simp [Op.equalIn, run_underlying hu]
theorem run_eql_bool {t : TypeId} (hu : P.underlying t = some .bool) (x y : Bool) : (binOp .eql t (.bool x) (.bool y)).run P w = .ok (.bool (x == y)) w := by
  simp [binOp, run_eq_bool hu]
theorem run_neq_bool {t : TypeId} (hu : P.underlying t = some .bool) (x y : Bool) : (binOp .neq t (.bool x) (.bool y)).run P w = .ok (.bool (!(x == y))) w := by
  simp [binOp, run_eq_bool hu]
theorem strb (x y : ByteArray) : (x.toList == y.toList) = decide (x.toList = y.toList) := by
  rw [Bool.eq_iff_iff]; simp
theorem run_eql_str {t : TypeId} (x y : ByteArray) : (binOp .eql t (.string x) (.string y)).run P w = .ok (.bool (decide (x.toList = y.toList))) w := by
  simp [binOp, Op.stringOp, strb]
theorem run_neq_str {t : TypeId} (x y : ByteArray) : (binOp .neq t (.string x) (.string y)).run P w = .ok (.bool (!decide (x.toList = y.toList))) w := by
  simp [binOp, Op.stringOp, strb]

theorem op_binOp (hE : EnvTy P E) (hc : Core c σ a.tmps w M ν) {b : BinOp} {t t' : TypeId} {x y : Operand} (ho : o.op = .binOp b t x y t') {K : OpK α}
    (h : valK (σ.ρ x) (fun τ x => valK (σ.ρ y) fun υ y => binVK (E.ty t) b τ x υ y fun v => K v [] []) = some r) (hn : Goes1 c σ a o w M ν K r next) : o.wp P a w next Q := by
  have hx := hc.ev x
  have hy := hc.ev y
  unfold valK at h
  split at h
  · rename_i τ x' hxe
    split at h
    · rename_i υ y' hye
      rw [hxe] at hx; rw [hye] at hy
      rcases binVK_inv h with ⟨k, k', m, n, e1, e2, h1⟩ | ⟨z, e2, ht, hcm, h1⟩
      · rw [e1] at hx; rw [e2] at hy
        have hx := hx.int
        have hy := hy.int
        cases hs : isSh b
        · rw [hs] at h1
          replace h1 : (if k = k' then arithK b k m n (fun v => K v [] []) else none) = some r := h1
          split at h1
          · rename_i hk; subst hk
            obtain ⟨v, u, hK, hrun, hVR⟩ := arithK_sound (P := P) (w := w) (M := M) (ν := ν) (t := t) h1
            exact wp_of_run (run_binOp_op ho (by rw [hx, hy]; exact run_eqGuard_int w) (by rw [hx, hy]; exact hrun)) (hn _ [] [] _ _ _ _ hK (.refl hc.mem) (hVR _))
          · cases h1
        · rw [hs] at h1
          replace h1 : shK b k m n (fun v => K v [] []) = some r := h1
          obtain ⟨z, hK, hrun⟩ := shK_sound (P := P) (w := w) (k' := k') (t := t) h1
          exact wp_of_run (run_binOp_op ho (by rw [hx, hy]; exact run_eqGuard_int w) (by rw [hx, hy]; exact hrun)) (hn _ [] [] _ _ _ _ hK (.refl hc.mem) (.mkInt _ _))
      · rw [e2] at hy
        have key : (eqGuard b t x y (a.eval x) (a.eval y)).run P w = .ok () w ∧ (binOp .eql t (a.eval x) (a.eval y)).run P w = .ok (.bool (teq τ x' z)) w ∧ (binOp .neq t (a.eval x) (a.eval y)).run P w = .ok (.bool (!teq τ x' z)) w := by
          by_cases hag : τ.isAgg = true
          · simp only [VR] at hx hy
            exact hE.eq t τ ht hcm hag w M _ _ _ _ b x y hx hy
          · have hl := hE.ty t τ ht
            cases τ with
            | int k => 
              rw [hx.int, hy.int]
              refine ⟨run_eqGuard_int w, ?_, ?_⟩
              · simp [binOp, Op.intCmp, teq, eqB_eq]; rfl
              · simp [binOp, Op.intCmp, teq, eqB_eq]; rfl
            | bool => rw [hx.bool, hy.bool]; exact ⟨run_eqGuard_bool w, run_eql_bool hl.bool _ _, run_neq_bool hl.bool _ _⟩
            | str => rw [hx.str, hy.str]; exact ⟨run_eqGuard_str w, by rw [run_eql_str]; simp [teq, strEq_eq], by rw [run_neq_str]; simp [teq, strEq_eq]⟩
            | slice e => simp [Ty.comparable] at hcm
            | unit => simp [Ty.isAgg] at hag
            | pair _ _ => simp [Ty.isAgg] at hag
            | arr _ _ => simp [Ty.isAgg] at hag
        obtain ⟨hg, h2, h3⟩ := key
        rcases h1 with ⟨rfl, hK⟩ | ⟨rfl, hK⟩
        · exact wp_of_run (run_binOp_op ho hg h2) (hn _ [] [] _ _ _ _ hK (.refl hc.mem) (.mkBool _))
        · exact wp_of_run (run_binOp_op ho hg h3) (hn _ [] [] _ _ _ _ hK (.refl hc.mem) (.mkBool _))
    · cases h
  · cases h

theorem op_unOp (hc : Core c σ a.tmps w M ν) {u : UnOp} {t : TypeId} {x : Operand} (ho : o.op = .unOp u t x) {K : OpK α}
    (h : unVK u (σ.ρ x) (fun v => K v [] []) = some r) (hn : Goes1 c σ a o w M ν K r next) : o.wp P a w next Q := by
  have hx := hc.ev x
  unfold unVK at h
  split at h
  · rename_i k n hxe
    rw [hxe] at hx
    refine wp_of_run (run_unOp_op ho (v := .int k (k.wrap (0 - n))) ?_) (hn _ [] [] _ _ _ _ h (.refl hc.mem) (by rw [W_eq]; exact .mkInt _ _))
    rw [hx.int]; simp [Op.unary, Op.intArith]
  · rename_i k n hxe
    rw [hxe] at hx
    refine wp_of_run (run_unOp_op ho (v := .int k (bitw .xor k (if k.signed then -1 else k.max) n)) ?_) (hn _ [] [] _ _ _ _ h (.refl hc.mem) (.mkInt _ _))
    rw [hx.int, bitw_eq]; simp [Op.unary, Op.intBits]
  · rename_i b hxe
    rw [hxe] at hx
    refine wp_of_run (run_unOp_op ho (v := .bool (!b)) ?_) (hn _ [] [] _ _ _ _ h (.refl hc.mem) (.mkBool _))
    rw [hx.bool]; simp [Op.unary]
  · cases h

end VM
end

section
/- The value machine, thirteenth text: lengths, min and max, elements of arrays and strings, new slices. -/
namespace VM
open Go
variable {P : Program} {E : Env} {o : Oper} {a : Act} {w : World} {M : Nat → Prop} {ν : Nat → Value} {σ : St} {c : Ctx} {α : Type} {r : α} {next : Act → World → Prop} {Q : Exit → Act → World → Prop}

theorem run_len_op {args : Array Operand} {ts : Array TypeId} {t : TypeId} {x : Operand} {n : Nat} (ho : o.op = .call { callee := .builtin .len, args, argTypes := ts }) (ha : args.toList = [x]) (_ht : ts.toList.head? = some t)
    (hl : ∀ ty, (Builtin.len_ ts ty #[a.eval x]).run P w = .ok (goInt n) w) : (execOp a.eval o).run P w = .ok (.value (.int .i64 n)) w := by
  obtain ⟨cs, hr⟩ := run_builtin_op (P := P) (ρ := a.eval) ho (w := w)
  rw [hr]
  have : args.map a.eval = #[a.eval x] := by apply Array.ext'; simp [ha]
  rw [this]
  simp [builtin, hl, goInt]

theorem len_str {ts : Array TypeId} {t ty : TypeId} (ht : ts[0]? = some t) (hu : P.underlying t = some .string) (s : ByteArray) : (Builtin.len_ ts ty #[.string s]).run P w = .ok (goInt s.size) w := by
  simp [Builtin.len_, ht, run_underlying hu]
theorem len_arr {ts : Array TypeId} {t ty e : TypeId} {n : Nat} (ht : ts[0]? = some t) (hu : P.underlying t = some (.array n e)) (v : Value) : (Builtin.len_ ts ty #[v]).run P w = .ok (goInt n) w := by
  simp [Builtin.len_, ht, run_underlying hu]
theorem len_slice {ts : Array TypeId} {t ty e : TypeId} (ht : ts[0]? = some t) (hu : P.underlying t = some (.slice e)) (ad : Option Addr) (n cp : Nat) : (Builtin.len_ ts ty #[.slice ad n cp]).run P w = .ok (goInt n) w := by
  simp [Builtin.len_, ht, run_underlying hu]

theorem ER.own_head {e : Ty} {l : List e.den} {v : Value} (h : ER w M v (.own e l)) : ∃ ad cp, v = .slice ad l.length cp := by
  simp only [ER] at h
  rcases h with ⟨rfl, a, hv⟩ | ⟨b, cs, t, cap, hv, _⟩
  · exact ⟨a, 0, hv⟩
  · exact ⟨_, cap, hv⟩
theorem ER.frz_head {e : Ty} {l : List e.den} {v : Value} (h : ER w M v (.frz e l)) : ∃ ad cp, v = .slice ad l.length cp := by
  simp only [ER] at h
  have h := h.1
  simp only [Rd, List.cons.injEq, and_true] at h
  obtain ⟨a, cap, hv, _⟩ := h
  exact ⟨a, cap, hv⟩

theorem op_len (hE : EnvTy P E) (hc : Core c σ a.tmps w M ν) {args : Array Operand} {ts : Array TypeId} {x : Operand} (ho : o.op = .call { callee := .builtin .len, args, argTypes := ts }) (ha : args.toList = [x]) {K : OpK α} {τ : Ty}
    (ht : (ts.toList.head?).bind E.ty = some τ) (h : lenK τ (σ.ρ x) σ.H K = some r) (hn : Goes1 c σ a o w M ν K r next) : o.wp P a w next Q := by
  obtain ⟨t, ht1, ht2⟩ := Option.bind_eq_some_iff.1 ht
  have ht3 : ts[0]? = some t := by rw [← ht1, ← Array.getElem?_toList, List.head?_eq_getElem?]
  have hl := hE.ty t τ ht2
  have hv := hc.ev x
  unfold lenK at h
  split at h
  · rename_i e e' l hx
    obtain ⟨_, hu, _⟩ := hl.slice
    rw [hx] at hv
    simp only [VR] at hv
    have hv := V.slice.1 hv
    simp only [Rd, List.cons.injEq, and_true] at hv
    obtain ⟨ad, cap, hv, _⟩ := hv
    refine wp_of_run (run_len_op ho ha ht1 (n := List.length l) fun ty => by rw [hv]; exact len_slice ht3 hu _ _ _) (hn _ [] [] _ _ _ _ h (.refl hc.mem) (.mkInt _ _))
  · rename_i n e n' e' l hx
    obtain ⟨_, hu, _⟩ := hl.arr
    refine wp_of_run (run_len_op ho ha ht1 (n := n) fun ty => len_arr ht3 hu _) (hn _ [] [] _ _ _ _ h (.refl hc.mem) (.mkInt _ _))
  · rename_i s hx
    rw [hx] at hv
    refine wp_of_run (run_len_op ho ha ht1 (n := ByteArray.size s) fun ty => by rw [hv.str]; exact len_str ht3 hl.str _) (hn _ [] [] _ _ _ _ h (.refl hc.mem) (.mkInt _ _))
  · rename_i e hx
    obtain ⟨_, hu, _⟩ := hl.slice
    rw [hx] at hv
    simp only [VR] at hv
    obtain ⟨ad, hv⟩ := hv
    refine wp_of_run (run_len_op ho ha ht1 (n := 0) fun ty => by rw [hv]; exact len_slice ht3 hu _ _ _) (hn _ [] [] _ _ _ _ h (.refl hc.mem) (.mkInt _ _))
  · rename_i e id hx
    obtain ⟨_, hu, _⟩ := hl.slice
    rw [hx] at hv
    simp only [VR] at hv
    split at h
    · rename_i e' l hid
      obtain ⟨ad, cap, hh⟩ := (hc.mem.ent id _ hid).own_head
      refine wp_of_run (run_len_op ho ha ht1 (n := l.length) fun ty => by rw [hv.2, hh]; exact len_slice ht3 hu _ _ _) (hn _ [id] [] _ _ _ _ h (.refl hc.mem) (.mkInt _ _))
    · rename_i e' l hid
      obtain ⟨ad, cap, hh⟩ := (hc.mem.ent id _ hid).frz_head
      refine wp_of_run (run_len_op ho ha ht1 (n := l.length) fun ty => by rw [hv.2, hh]; exact len_slice ht3 hu _ _ _) (hn _ [id] [] _ _ _ _ h (.refl hc.mem) (.mkInt _ _))
    · cases h
  · cases h

theorem mm_sound {H : Nat → Option Ent} (up : Bool) : ∀ (xs : List AVal) (x : AVal) (v : Value) (vs : List Value) (K : AVal → Option α), VR w M H ν x v → VRs w M H ν xs vs → mmK up x xs K = some r →
    ∃ x' v', K x' = some r ∧ (vs.foldlM (if up then Builtin.max2 else Builtin.min2) v).run P w = .ok v' w ∧ VR w M H ν x' v'
  | [], x, v, [], K, hx, _, h => ⟨x, v, h, by simp, hx⟩
  | [], _, _, _ :: _, _, _, hs, _ => by simp [VRs] at hs
  | _ :: _, _, _, [], _, _, hs, _ => by simp [VRs] at hs
  | y :: xs, x, v, u :: vs, K, hx, hs, h => by
    simp only [VRs] at hs
    obtain ⟨hy, hs⟩ := hs
    unfold mmK at h
    obtain ⟨k, m, e1, h1⟩ := intK_inv h
    obtain ⟨k', n, e2, h2⟩ := intK_inv h1
    clear h h1
    split at h2
    · rename_i hk
      subst hk
      rw [e1] at hx; rw [e2] at hy
      have hx := hx.int
      have hy := hy.int
      obtain ⟨x', v', hK, hrun, hV⟩ := mm_sound up xs _ (.int k (cond up (mx m n) (mn m n))) vs K (.mkInt _ _) hs h2
      refine ⟨x', v', hK, ?_, hV⟩
      rw [List.foldlM_cons, Sem.run_bind]
      have : ((if up then Builtin.max2 else Builtin.min2) v u).run P w = .ok (.int k (cond up (mx m n) (mn m n))) w := by
        rw [hx, hy]
        cases up
        · simp [Builtin.min2, mn_eq]
        · simp [Builtin.max2, mx_eq]
      rw [this]
      exact hrun
    · cases h2

theorem op_mm (hc : Core c σ a.tmps w M ν) (up : Bool) {args : Array Operand} {ts : Array TypeId} {x : Operand} {xs : List Operand} (ho : o.op = .call { callee := .builtin (if up then .max else .min), args, argTypes := ts }) (ha : args.toList = x :: xs) {K : OpK α}
    (h : mmK up (σ.ρ x) (xs.map σ.ρ) (fun v => K v [] []) = some r) (hn : Goes1 c σ a o w M ν K r next) : o.wp P a w next Q := by
  obtain ⟨x', v', hK, hrun, hV⟩ := mm_sound (P := P) up (xs.map σ.ρ) (σ.ρ x) (a.eval x) (xs.map a.eval) _ (hc.ev x) (hc.evs xs) h
  refine wp_of_run ?_ (hn _ [] [] _ _ _ _ hK (.refl hc.mem) hV)
  obtain ⟨cs, hr⟩ := run_builtin_op (P := P) (ρ := a.eval) ho (w := w)
  rw [hr]
  have hm : (args.map a.eval).toList = a.eval x :: xs.map a.eval := by simp [ha]
  cases up
  · simp only [Bool.false_eq_true, if_false, builtin, Builtin.min_, hm, Sem.run_bind] at hrun ⊢
    rw [hrun]; simp
  · simp only [if_true, builtin, Builtin.max_, hm, Sem.run_bind] at hrun ⊢
    rw [hrun]; simp

theorem run_index_str {ρ : Operand → Value} {t : TypeId} {x i : Operand} (ho : o.op = .index t x i) {k : IntKind} {n : Int} {s : ByteArray}
    (hu : P.underlying t = some .string) (hx : ρ x = .string s) (hi : ρ i = .int k n) (h0 : 0 ≤ n) (h1 : n < (s.size : Int)) :
    (execOp ρ o).run P w = .ok (.value (.int .u8 ((s.data.getD n.toNat 0).toNat : Int))) w := by
  have hlt : n.toNat < s.size := by omega
  have hs : s[n.toNat]? = some (s[n.toNat]'hlt) := by simp [hlt]
  have he : s[n.toNat]'hlt = s.data.getD n.toNat 0 := by
    have hlt' : n.toNat < s.data.size := hlt
    rw [Array.getD, dif_pos hlt']; rfl
  simp [execOp, ho, hx, hi, Instr.index, asIntOf, run_underlying hu, h0, hs, he]

theorem op_index (hE : EnvTy P E) (hc : Core c σ a.tmps w M ν) {t : TypeId} {x i : Operand} (ho : o.op = .index t x i) {K : OpK α} {τ : Ty} (ht : E.ty t = some τ)
    (h : indexK τ (σ.ρ x) (σ.ρ i) (fun v => K v [] []) = some r) (hn : Goes1 c σ a o w M ν K r next) : o.wp P a w next Q := by
  unfold indexK at h
  obtain ⟨k, n, hi, h2⟩ := intK_inv h
  clear h
  have h := h2
  clear h2
  have hiv := hc.ev i
  rw [hi] at hiv
  have hiv := hiv.int
  have hv := hc.ev x
  have hlay := hE.ty t τ ht
  split at h
  · rename_i len e υ l hx
    obtain ⟨e', hus, hle⟩ := hlay.arr
    obtain ⟨e1, h⟩ := castK_inv h
    subst e1
    obtain ⟨hin, h⟩ := cond_inv h
    obtain ⟨h0, h1⟩ := inb_inv hin
    rw [hx] at hv
    simp only [VR] at hv
    obtain ⟨cs, hu, hr⟩ := hv.agg rfl
    have hr' := hr.idx (i := n.toNat) (by omega)
    refine wp_of_run (run_index_arr ho hus hle hu hiv h0 h1 hr') (hn _ [] [] _ _ _ _ h (.refl hc.mem) ?_)
    simp only [VR]
    exact V.ofCells hr'
  · rename_i s hx
    obtain ⟨hin, h⟩ := cond_inv h
    obtain ⟨h0, h1⟩ := inb_inv hin
    rw [hx] at hv
    refine wp_of_run (run_index_str ho hlay.str hv.str hiv h0 h1) (hn _ [] [] _ _ _ _ h (.refl hc.mem) (.mkInt _ _))
  · cases h

theorem length_zcells (τ : Ty) : τ.zcells.length = τ.size := (Rd.zero default (fun _ => False) τ).length

theorem madeCells_chunk {z : Array Value} {n i s : Nat} (hz : z.size = s) (hi : i * s + s ≤ n) : ((madeCells z n).toList.drop (i * s)).take s = z.toList := by
  apply List.ext_getElem?
  intro j
  rw [List.getElem?_take]
  split
  · rename_i hj
    rw [List.getElem?_drop, Array.getElem?_toList, Array.getElem?_toList]
    simp only [madeCells, Array.getElem?_map]
    rw [Array.getElem?_range, if_pos (by omega)]
    simp only [Option.map_some]
    have : (i * s + j) % z.size = j := by rw [hz, Nat.mul_comm, Nat.mul_add_mod, Nat.mod_eq_of_lt hj]
    rw [this, Array.getElem?_eq_getElem (by omega), getElem!_pos z j (by omega)]
  · rename_i hj
    rw [Array.getElem?_toList, Array.getElem?_eq_none (by omega)]

theorem RdL.made (w : World) (M : Nat → Prop) (e : Ty) {n l : Nat} (h : l * e.size ≤ n) : RdL w M e (madeCells (ofCells e e.zcells).cells n).toList (List.replicate l e.zero) := by
  intro i hi
  rw [List.length_replicate] at hi
  have := mul_lt_of (s := e.size) hi
  rw [madeCells_chunk (by rw [← Array.length_toList, ofCells_zero, length_zcells]) (by omega), ofCells_zero, List.getElem_replicate]
  exact Rd.zero w M e

theorem run_makeSlice_op {ρ : Operand → Value} {t : TypeId} {x y : Operand} (ho : o.op = .makeSlice t x y) {v : Value} {w' : World} (h : (Instr.makeSlice t (ρ x) (ρ y)).run P w = .ok v w') : (execOp ρ o).run P w = .ok (.value v) w' := by
  simp [execOp, ho, h]

theorem op_makeSlice (hE : EnvTy P E) (hc : Core c σ a.tmps w M ν) {t : TypeId} {x y : Operand} (ho : o.op = .makeSlice t x y) {K : OpK α} {e : Ty} (ht : E.ty t = some (.slice e)) {id : Nat}
    (h : intK (σ.ρ x) (fun _ l => intK (σ.ρ y) fun _ c => cond (okMake l c)
        (newK σ.H id (.own e []) (K (.ref id) [id] [(id, some (.own e (List.replicate l.toNat e.zero)))])) none) = some r) (hn : Goes1 c σ a o w M ν K r next) : o.wp P a w next Q := by
  obtain ⟨k, l, hx, h1⟩ := intK_inv h
  obtain ⟨k', n, hy, h2⟩ := intK_inv h1
  clear h h1
  obtain ⟨hk, h⟩ := cond_inv h2
  obtain ⟨hid, h⟩ := newK_inv h
  rw [okMake_eq] at hk
  obtain ⟨h0, h1, h3⟩ := of_decide_eq_true hk
  simp only [big] at h3
  obtain ⟨e', hu, hle⟩ := (hE.ty t _ ht).slice
  obtain ⟨i, hi, hs, hz, hb⟩ := hle.base
  have hxv := hc.ev x
  have hyv := hc.ev y
  rw [hx] at hxv; rw [hy] at hyv
  have hbytes : (i.bytes : Int) * n ≤ 281474976710656 := by
    have h4 : (i.bytes : Int) ≤ 2048 := by omega
    have : (i.bytes : Int) * n ≤ 2048 * n := Int.mul_le_mul_of_nonneg_right h4 (by omega)
    omega
  have hrun := run_make (P := P) w t e' i _ hu hi hz k k' l n h0 h1 hbytes (by omega)
  have hlen : (List.replicate l.toNat e.zero).length = l.toNat := List.length_replicate
  have htr := Tr.row hc.mem hid e' (e := e) (cs := madeCells (ofCells e e.zcells).cells (n.toNat * i.size)) (l := List.replicate l.toNat e.zero) (cap := n.toNat) (by rw [hlen]; omega) (by simp [maxLen]; omega)
    (by rw [size_madeCells, hs]) (RdL.made w M e (Nat.mul_le_mul (by omega) (by omega)))
  refine wp_of_run (run_makeSlice_op ho (by rw [hxv.int, hyv.int]; exact hrun)) (hn _ _ _ _ _ _ _ h htr ?_)
  simp only [VR]
  exact ⟨by show updH σ.H id _ id ≠ none; rw [updH_same]; simp, by simp [updν]⟩

end VM
end

