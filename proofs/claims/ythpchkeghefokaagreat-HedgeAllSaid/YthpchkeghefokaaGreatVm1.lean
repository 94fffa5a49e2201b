/- A part of the proof of HedgeAll of layer 22: a machine that reads a function of the program as an equation between values. -/
import Derived.Test.YthpchkeghefokaaGreatVm0
import Derived.WalkLawsBesides
import Derived.Great.BuildSlice
import Derived.Laws.Tables
set_option linter.all false
section
/- The value machine, fourth text: a state that fits a world, and how it goes on: freezing, new blocks, stores, appends. -/
namespace VM
open Go

/-- What a call was entered with: the first new block; the world; what its caller may still write; what the call may write of what there was. -/
structure Ctx where
  B : Nat
  w0 : World
  M0 : Nat → Prop
  may : Nat → Prop
  arg : Nat → Value

structure Mem (c : Ctx) (H : Nat → Option Ent) (w : World) (M : Nat → Prop) (ν : Nat → Value) : Prop where
  ent : ∀ i e, H i = some e → ER w M (ν i) e
  dis : ∀ i j e e' b, i ≠ j → H i = some e → e.mut → H j = some e' → e'.mut → blk (ν i) = some b → blk (ν j) ≠ some b
  new : ∀ i e b, H i = some e → e.mut → blk (ν i) = some b → c.B ≤ b ∨ c.may b
  old : ∀ i e l b, H i = some (.own e l) → blk (ν i) = some b → ¬ c.M0 b
  lnk : ∀ i τ x p j, H i = some (.lnk τ x p j) → H j ≠ none ∧ ∃ b, ν i = .pointer (some ⟨b, 0, none⟩) ∧ w.cell? ⟨b, offP p τ, none⟩ = some (ν j)
  sub : ∀ b, c.M0 b → M b
  lim : ∀ b, M b → b < w.heap.size
  frame : ∀ b, b < c.B → ¬ c.may b → w.heap[b]? = c.w0.heap[b]?
  size : c.B ≤ w.heap.size
  lim0 : (∀ b, c.M0 b → b < c.B) ∧ ∀ b, c.may b → ¬ c.M0 b
  os : w.os = c.w0.os
  tape : w.tape = c.w0.tape
  output : w.output = c.w0.output

structure Tr (c : Ctx) (H : Nat → Option Ent) (w : World) (M : Nat → Prop) (ν : Nat → Value) (H' : Nat → Option Ent) (w' : World) (M' : Nat → Prop) (ν' : Nat → Value) : Prop where
  mem : Mem c H' w' M' ν'
  keep : Keeps w M w' M'
  goes : Goes H ν H' ν'

theorem Ent.like.trans {a b d : Ent} (h : a.like b) (k : b.like d) : a.like d := by
  cases a <;> cases b <;> cases d <;> simp only [Ent.like] at h k ⊢ <;> first
    | exact h.trans k
    | exact ⟨h.1.trans k.1, h.2.trans k.2⟩

theorem Goes.trans {H H' H'' : Nat → Option Ent} {ν ν' ν'' : Nat → Value} (h : Goes H ν H' ν') (k : Goes H' ν' H'' ν'') : Goes H ν H'' ν'' := by
  refine ⟨fun i e he => ?_, fun i hi => ?_⟩
  · obtain ⟨e', he', l⟩ := h.ent i e he
    obtain ⟨e'', he'', l'⟩ := k.ent i e' he'
    exact ⟨e'', he'', l.trans l'⟩
  · obtain ⟨e, he⟩ := Option.ne_none_iff_exists'.1 hi
    obtain ⟨e', he', _⟩ := h.ent i e he
    rw [k.head i (by simp [he']), h.head i hi]

theorem Tr.trans {c : Ctx} {H H' H'' : Nat → Option Ent} {w w' w'' : World} {M M' M'' : Nat → Prop} {ν ν' ν'' : Nat → Value}
    (h : Tr c H w M ν H' w' M' ν') (k : Tr c H' w' M' ν' H'' w'' M'' ν'') : Tr c H w M ν H'' w'' M'' ν'' :=
  ⟨k.mem, h.keep.trans k.keep, h.goes.trans k.goes⟩

theorem Tr.refl {c : Ctx} {H : Nat → Option Ent} {w : World} {M : Nat → Prop} {ν : Nat → Value} (h : Mem c H w M ν) : Tr c H w M ν H w M ν :=
  ⟨h, .refl w M, .refl H ν⟩

theorem updH_same (H : Nat → Option Ent) (d : Nat) (v : Option Ent) : updH H d v d = v := by simp [updH]
theorem updH_ne (H : Nat → Option Ent) {d i : Nat} (v : Option Ent) (h : i ≠ d) : updH H d v i = H i := by
  have : Nat.beq i d = false := by rw [← Bool.not_eq_true, Nat.beq_eq]; exact h
  simp [updH, this]

def upsH (H : Nat → Option Ent) : Ups → (Nat → Option Ent)
  | [] => H
  | u :: r => upsH (updH H u.1 u.2) r

theorem puts_H (ups : Ups) : ∀ σ : St, (σ.puts ups).H = upsH σ.H ups := by
  induction ups with
  | nil => intro σ; rfl
  | cons u r ih => intro σ; exact ih _
theorem puts_T (ups : Ups) : ∀ σ : St, (σ.puts ups).T = σ.T := by
  induction ups with
  | nil => intro σ; rfl
  | cons u r ih => intro σ; exact ih _
theorem upsH_append (a b : Ups) : ∀ H, upsH H (a ++ b) = upsH (upsH H a) b := by
  induction a with
  | nil => intro H; rfl
  | cons u r ih => intro H; exact ih _

theorem updH_some {H : Nat → Option Ent} {id j : Nat} {v : Ent} (h : H j ≠ none) : updH H id (some v) j ≠ none := by
  by_cases hj : j = id
  · subst hj; rw [updH_same]; simp
  · rw [updH_ne _ _ hj]; exact h

/-- Links stay while nothing is written and an entry becomes one that is none. -/
theorem lnk_upd {H : Nat → Option Ent} {w : World} {ν : Nat → Value} (h : ∀ i τ x p j, H i = some (.lnk τ x p j) → H j ≠ none ∧ ∃ b, ν i = .pointer (some ⟨b, 0, none⟩) ∧ w.cell? ⟨b, offP p τ, none⟩ = some (ν j)) {id : Nat} {v : Ent} (hv : ∀ τ x p j, v ≠ .lnk τ x p j) :
    ∀ i τ x p j, updH H id (some v) i = some (.lnk τ x p j) → updH H id (some v) j ≠ none ∧ ∃ b, ν i = .pointer (some ⟨b, 0, none⟩) ∧ w.cell? ⟨b, offP p τ, none⟩ = some (ν j) := by
  intro i τ x p j hi
  by_cases hii : i = id
  · subst hii; rw [updH_same] at hi; cases hi; exact absurd rfl (hv _ _ _ _)
  · rw [updH_ne _ _ hii] at hi
    obtain ⟨h1, h2⟩ := h i τ x p j hi
    exact ⟨updH_some h1, h2⟩

/-! ### Nothing is written -/

/-- An entry is done with. -/
theorem Tr.gone {c : Ctx} {H : Nat → Option Ent} {w : World} {M : Nat → Prop} {ν : Nat → Value} (h : Mem c H w M ν) (id : Nat) : Tr c H w M ν (updH H id (some .gone)) w M ν := by
  refine ⟨⟨fun i e he => ?_, fun i j e e' b hij hi hm hj hm' => ?_, fun i e b hi hm => ?_, fun i e l b hi => ?_, lnk_upd h.lnk (fun _ _ _ _ => by simp), h.sub, h.lim, h.frame, h.size, h.lim0, h.os, h.tape, h.output⟩, .refl w M, ⟨fun i e he => ?_, fun _ _ => rfl⟩⟩
  · by_cases hid : i = id
    · subst hid; rw [updH_same] at he; cases he; simp [ER]
    · rw [updH_ne _ _ hid] at he; exact h.ent i e he
  · by_cases hid : i = id
    · subst hid; rw [updH_same] at hi; cases hi; simp [Ent.mut] at hm
    · by_cases hjd : j = id
      · subst hjd; rw [updH_same] at hj; cases hj; simp [Ent.mut] at hm'
      · rw [updH_ne _ _ hid] at hi; rw [updH_ne _ _ hjd] at hj; exact h.dis i j e e' b hij hi hm hj hm'
  · by_cases hid : i = id
    · subst hid; rw [updH_same] at hi; cases hi; simp [Ent.mut] at hm
    · rw [updH_ne _ _ hid] at hi; exact h.new i e b hi hm
  · by_cases hid : i = id
    · subst hid; rw [updH_same] at hi; cases hi
    · rw [updH_ne _ _ hid] at hi; exact h.old i e l b hi
  · by_cases hid : i = id
    · subst hid; exact ⟨.gone, updH_same _ _ _, by cases e <;> simp [Ent.like]⟩
    · exact ⟨e, by rw [updH_ne _ _ hid]; exact he, .refl e⟩

theorem cell_of {w : World} {b : Nat} {cs : Array Value} {t : TypeId} {fz : Nat × Nat} (h : w.heap[b]? = some (.cells cs t fz)) (o : Nat) : w.cell? ⟨b, o, none⟩ = cs[o]? := by
  simp [World.cell?, h]

theorem At.of_block {w : World} {b : Nat} {cs : Array Value} {t : TypeId} {fz : Nat × Nat} (h : w.heap[b]? = some (.cells cs t fz)) (o n : Nat) :
    At w b o ((cs.toList.drop o).take n) := by
  intro j v hj
  rw [cell_of h]
  rw [List.getElem?_take] at hj
  split at hj
  · rw [List.getElem?_drop] at hj; simpa using hj
  · cases hj

theorem lt_of_block {w : World} {b : Nat} {o : Obj} (h : w.heap[b]? = some o) : b < w.heap.size := (Array.getElem?_eq_some_iff.1 h).1

theorem ER.keep {w w' : World} {M M' : Nat → Prop} {v : Value} (k : Keeps w M w' M') : ∀ {e : Ent},
    (e.mut → ∀ b, blk v = some b → w'.heap[b]? = w.heap[b]? ∧ M' b) → ER w M v e → ER w' M' v e
  | .obj τ x, hm, h => by
    simp only [ER] at h ⊢
    obtain ⟨b, cs, t, rfl, hb, hM, hr⟩ := h
    obtain ⟨h1, h2⟩ := hm trivial b rfl
    exact ⟨b, cs, t, rfl, h1.trans hb, h2, hr.keep k⟩
  | .lnk τ x p j, hm, h => by
    simp only [ER] at h ⊢
    obtain ⟨b, cs, t, cs0, u, rfl, hb, hM, hr, h3⟩ := h
    obtain ⟨h1, h2⟩ := hm trivial b rfl
    exact ⟨b, cs, t, cs0, u, rfl, h1.trans hb, h2, hr.keep k, h3⟩
  | .own e l, hm, h => by
    simp only [ER] at h ⊢
    rcases h with h | ⟨b, cs, t, cap, rfl, hb, hM, hc, hl, hml, hs, hr⟩
    · exact .inl h
    · obtain ⟨h1, h2⟩ := hm trivial b (by simp [blk]; omega)
      exact .inr ⟨b, cs, t, cap, rfl, h1.trans hb, h2, hc, hl, hml, hs, fun i hi => (hr i hi).keep k⟩
  | .frz e l, _, h => by
    simp only [ER] at h ⊢
    exact ⟨h.1.keep k, h.2⟩
  | .gone, _, _ => by simp [ER]

theorem ER.memM {w : World} {M : Nat → Prop} {v : Value} {e : Ent} (h : ER w M v e) (hm : e.mut) {b : Nat} (hb : blk v = some b) : M b := by
  cases e with
  | obj τ x => simp only [ER] at h; obtain ⟨b', cs, t, hv, hb', hM, _⟩ := h; rw [hv] at hb; simp only [blk, Option.some.injEq] at hb; subst hb; exact hM
  | lnk τ x p j => simp only [ER] at h; obtain ⟨b', cs, t, _, _, hv, hb', hM, _⟩ := h; rw [hv] at hb; simp only [blk, Option.some.injEq] at hb; subst hb; exact hM
  | own e1 l1 =>
    simp only [ER] at h
    rcases h with ⟨_, a, hv⟩ | ⟨b', cs, t, cap, hv, hb', hM, hc, _⟩
    · rw [hv] at hb; cases a <;> simp [blk] at hb
    · rw [hv] at hb; simp only [blk] at hb; split at hb
      · cases hb
      · simp only [Option.some.injEq] at hb; subst hb; exact hM
  | frz _ _ => simp [Ent.mut] at hm
  | gone => simp [Ent.mut] at hm

/-- A slice of one's own is not written any more. -/
theorem Tr.freeze {c : Ctx} {H : Nat → Option Ent} {w : World} {M : Nat → Prop} {ν : Nat → Value} (h : Mem c H w M ν) {id : Nat} {e : Ty} {l : List e.den} (hid : H id = some (.own e l)) :
    ∃ M', Tr c H w M ν (updH H id (some (.frz e l))) w M' ν ∧ V w M' (.slice e) (ν id) l ∧ ∀ b, M' b ↔ (M b ∧ blk (ν id) ≠ some b) := by
  have hk : Keeps w M w (fun b => M b ∧ blk (ν id) ≠ some b) := ⟨Nat.le_refl _, fun _ _ _ => rfl, fun _ _ h => h.1⟩
  have he := h.ent id _ hid
  have hrd : Rd w (fun b => M b ∧ blk (ν id) ≠ some b) (.slice e) [ν id] l := by
    simp only [ER] at he
    simp only [Rd]
    rcases he with ⟨rfl, a, hv⟩ | ⟨b, cs, t, cap, hv, hb, hM, hc, hl, hml, hs, hr⟩
    · exact ⟨a, 0, by rw [hv]; rfl, Nat.le_refl _, fun i hi => absurd hi (by simp)⟩
    · refine ⟨_, cap, by rw [hv], hl, fun i hi => ⟨b, 0, rfl, lt_of_block hb, fun hm => hm.2 (by rw [hv]; simp [blk]; omega), _, ?_, (hr i hi).keep hk⟩⟩
      rw [Nat.zero_add]
      exact At.of_block hb _ _
  refine ⟨fun b => M b ∧ blk (ν id) ≠ some b, ⟨⟨fun i e' hi => ?_, fun i j e1 e2 b hij hi hm hj hm' => ?_, fun i e1 b hi hm => ?_, fun i e1 l1 b hi => ?_, lnk_upd h.lnk (fun _ _ _ _ => by simp), fun b hb => ⟨h.sub b hb, fun hm => h.old id e l b hid hm hb⟩, fun b hb => h.lim b hb.1, h.frame, h.size, h.lim0, h.os, h.tape, h.output⟩, hk, ⟨fun i e' hi => ?_, fun _ _ => rfl⟩⟩, ?_, fun _ => Iff.rfl⟩
  · by_cases hii : i = id
    · subst hii; rw [updH_same] at hi; cases hi
      simp only [ER]
      refine ⟨hrd, ?_⟩
      simp only [ER] at he
      rcases he with ⟨rfl, a, hv⟩ | ⟨b, cs, t, cap, hv, _⟩
      · exact .inl ⟨rfl, a, 0, 0, hv⟩
      · exact .inr ⟨b, _, cap, hv⟩
    · rw [updH_ne _ _ hii] at hi
      refine (h.ent i e' hi).keep hk (fun hm b hb => ⟨rfl, ?_, ?_⟩)
      · exact (h.ent i e' hi).memM hm hb
      · exact h.dis i id e' (.own e l) b hii hi hm hid trivial hb
  · by_cases hii : i = id
    · subst hii; rw [updH_same] at hi; cases hi; simp [Ent.mut] at hm
    · by_cases hjj : j = id
      · subst hjj; rw [updH_same] at hj; cases hj; simp [Ent.mut] at hm'
      · rw [updH_ne _ _ hii] at hi; rw [updH_ne _ _ hjj] at hj; exact h.dis i j e1 e2 b hij hi hm hj hm'
  · by_cases hii : i = id
    · subst hii; rw [updH_same] at hi; cases hi; simp [Ent.mut] at hm
    · rw [updH_ne _ _ hii] at hi; exact h.new i e1 b hi hm
  · by_cases hii : i = id
    · subst hii; rw [updH_same] at hi; cases hi
    · rw [updH_ne _ _ hii] at hi; exact h.old i e1 l1 b hi
  · by_cases hii : i = id
    · subst hii; rw [hid] at hi; cases hi; exact ⟨_, updH_same _ _ _, rfl, rfl⟩
    · exact ⟨e', by rw [updH_ne _ _ hii]; exact hi, .refl e'⟩
  · unfold V; rw [if_neg (by simp [Ty.isAgg])]; exact hrd

/-- A variable of one's own is not written any more. -/
theorem Tr.fix {c : Ctx} {H : Nat → Option Ent} {w : World} {M : Nat → Prop} {ν : Nat → Value} (h : Mem c H w M ν) {id : Nat} {τ : Ty} {x : τ.den} (hid : H id = some (.obj τ x)) :
    ∃ M' b, Tr c H w M ν (updH H id (some .gone)) w M' ν ∧ ν id = .pointer (some ⟨b, 0, none⟩) ∧ b < w.heap.size ∧ ¬ M' b ∧ ∃ cs, At w b 0 cs ∧ Rd w M' τ cs x := by
  have he := h.ent id _ hid
  simp only [ER] at he
  obtain ⟨b0, cs, t, hv, hb, hM, hr⟩ := he
  have hbl : blk (ν id) = some b0 := by rw [hv]; rfl
  have hk : Keeps w M w (fun b => M b ∧ b ≠ b0) := ⟨Nat.le_refl _, fun _ _ _ => rfl, fun _ _ h => h.1⟩
  have hM0 : ¬ c.M0 b0 := fun hm => (h.new id _ b0 hid trivial hbl).elim (fun hB => by have := h.lim0.1 b0 hm; omega) (fun hB => h.lim0.2 b0 hB hm)
  refine ⟨fun b => M b ∧ b ≠ b0, b0, ⟨⟨fun i e' hi => ?_, fun i j e1 e2 b hij hi hm hj hm' => ?_, fun i e1 b hi hm => ?_, fun i e1 l1 b hi => ?_, lnk_upd h.lnk (fun _ _ _ _ => by simp), fun b hb' => ⟨h.sub b hb', fun e => hM0 (e ▸ hb')⟩, fun b hb' => h.lim b hb'.1, h.frame, h.size, h.lim0, h.os, h.tape, h.output⟩, hk, ⟨fun i e' hi => ?_, fun _ _ => rfl⟩⟩, hv, lt_of_block hb, fun hm => hm.2 rfl, cs.toList, ?_, hr.keep hk⟩
  · by_cases hii : i = id
    · subst hii; rw [updH_same] at hi; cases hi; simp [ER]
    · rw [updH_ne _ _ hii] at hi
      refine (h.ent i e' hi).keep hk (fun hm b hb' => ⟨rfl, ?_, ?_⟩)
      · exact (h.ent i e' hi).memM hm hb'
      · intro e
        exact h.dis i id e' (.obj τ x) b hii hi hm hid trivial hb' (by rw [hbl, e])
  · by_cases hii : i = id
    · subst hii; rw [updH_same] at hi; cases hi; simp [Ent.mut] at hm
    · by_cases hjj : j = id
      · subst hjj; rw [updH_same] at hj; cases hj; simp [Ent.mut] at hm'
      · rw [updH_ne _ _ hii] at hi; rw [updH_ne _ _ hjj] at hj; exact h.dis i j e1 e2 b hij hi hm hj hm'
  · by_cases hii : i = id
    · subst hii; rw [updH_same] at hi; cases hi; simp [Ent.mut] at hm
    · rw [updH_ne _ _ hii] at hi; exact h.new i e1 b hi hm
  · by_cases hii : i = id
    · subst hii; rw [updH_same] at hi; cases hi
    · rw [updH_ne _ _ hii] at hi; exact h.old i e1 l1 b hi
  · by_cases hii : i = id
    · subst hii; rw [hid] at hi; cases hi; exact ⟨_, updH_same _ _ _, trivial⟩
    · exact ⟨e', by rw [updH_ne _ _ hii]; exact hi, .refl e'⟩
  · have := At.of_block hb 0 cs.toList.length
    rwa [List.drop_zero, List.take_length] at this

end VM
end

section
/- The value machine, fifth text: new entries, stores, values out of what temporaries hold. -/
namespace VM
open Go

theorem heap_new (w : World) (o : Obj) : (w.alloc o).heap[w.heap.size]? = some o := by
  show (w.heap.push o)[w.heap.size]? = some o
  simp
theorem heap_oldb (w : World) (o : Obj) {i : Nat} (h : i < w.heap.size) : (w.alloc o).heap[i]? = w.heap[i]? := by
  show (w.heap.push o)[i]? = w.heap[i]?
  rw [Array.getElem?_push, if_neg (Nat.ne_of_lt h)]
theorem size_alloc (w : World) (o : Obj) : (w.alloc o).heap.size = w.heap.size + 1 := by
  show (w.heap.push o).size = _
  simp

def updν (ν : Nat → Value) (d : Nat) (v : Value) : Nat → Value := fun i => if i = d then v else ν i

/-- Links stay where their cells do. -/
theorem lnk_keep {c : Ctx} {H : Nat → Option Ent} {w w' : World} {M : Nat → Prop} {ν ν' : Nat → Value} (h : Mem c H w M ν) {H' : Nat → Option Ent}
    (hν : ∀ i, H i ≠ none → ν' i = ν i) (hn : ∀ i, H i ≠ none → H' i ≠ none)
    (hi : ∀ i τ x p j, H' i = some (.lnk τ x p j) → (H i = some (.lnk τ x p j) ∧ ∀ b, ν i = .pointer (some ⟨b, 0, none⟩) → w'.heap[b]? = w.heap[b]?) ∨ (H' j ≠ none ∧ ∃ b, ν' i = .pointer (some ⟨b, 0, none⟩) ∧ w'.cell? ⟨b, offP p τ, none⟩ = some (ν' j))) :
    ∀ i τ x p j, H' i = some (.lnk τ x p j) → H' j ≠ none ∧ ∃ b, ν' i = .pointer (some ⟨b, 0, none⟩) ∧ w'.cell? ⟨b, offP p τ, none⟩ = some (ν' j) := by
  intro i τ x p j he
  rcases hi i τ x p j he with ⟨h1, hb⟩ | h1
  · obtain ⟨h2, b, h3, h4⟩ := h.lnk i τ x p j h1
    refine ⟨hn j h2, b, by rw [hν i (by rw [h1]; simp)]; exact h3, ?_⟩
    rw [hν j h2, World.cell?_of_block (w := w) (hb b h3)]
    exact h4
  · exact h1

theorem updH_nn {H : Nat → Option Ent} {id : Nat} {v : Ent} : ∀ i, H i ≠ none → updH H id (some v) i ≠ none := fun _ h => updH_some h

theorem updH_lnk {H : Nat → Option Ent} {id : Nat} {v : Ent} (hv : ∀ τ x p j, v ≠ .lnk τ x p j) {i : Nat} {τ : Ty} {x : τ.den} {p : List Step} {j : Nat} (h : updH H id (some v) i = some (.lnk τ x p j)) : H i = some (.lnk τ x p j) := by
  by_cases hii : i = id
  · subst hii; rw [updH_same] at h; cases h; exact absurd rfl (hv _ _ _ _)
  · rw [updH_ne _ _ hii] at h; exact h

/-- An entry in a block that is new. -/
theorem Tr.alloc {c : Ctx} {H : Nat → Option Ent} {w : World} {M : Nat → Prop} {ν : Nat → Value} (h : Mem c H w M ν) {id : Nat} (hid : H id = none) (o : Obj) (v : Value) (e : Ent) (hm : e.mut) (hnl : ∀ τ x p j, e ≠ .lnk τ x p j)
    (hb : blk v = none ∨ blk v = some w.heap.size) (her : ER (w.alloc o) (fun b => M b ∨ b = w.heap.size) v e) :
    Tr c H w M ν (updH H id (some e)) (w.alloc o) (fun b => M b ∨ b = w.heap.size) (updν ν id v) := by
  have hk : Keeps w M (w.alloc o) (fun b => M b ∨ b = w.heap.size) :=
    ⟨by rw [size_alloc]; omega, fun b hb _ => heap_oldb w o hb, fun b hb h' => h'.resolve_right (by omega)⟩
  have hν : ∀ i, i ≠ id → updν ν id v i = ν i := fun i hi => by simp [updν, hi]
  have hνs : updν ν id v id = v := by simp [updν]
  have hlt : ∀ i e' b, H i = some e' → e'.mut → blk (ν i) = some b → b < w.heap.size := fun i e' b hi hm' hb' => h.lim b ((h.ent i e' hi).memM hm' hb')
  refine ⟨⟨fun i e' hi => ?_, fun i j e1 e2 b hij hi hm1 hj hm2 => ?_, fun i e1 b hi hm1 => ?_, fun i e1 l1 b hi => ?_, lnk_keep h (fun i hi => hν i (fun e => hi (e ▸ hid))) updH_nn (fun i τ x p j hi => .inl ⟨updH_lnk hnl hi, fun b hb => heap_oldb w o (hlt i _ b (updH_lnk hnl hi) trivial (by rw [hb]; rfl))⟩), fun b hb => .inl (h.sub b hb), fun b hb' => ?_, fun b hb1 hb2 => ?_, ?_, h.lim0, h.os, h.tape, h.output⟩, hk, ⟨fun i e' hi => ?_, fun i hi => ?_⟩⟩
  · by_cases hii : i = id
    · subst hii; rw [updH_same] at hi; cases hi; rw [hνs]; exact her
    · rw [updH_ne _ _ hii] at hi; rw [hν i hii]
      exact (h.ent i e' hi).keep hk fun hm' b hb' => ⟨heap_oldb w o (hlt i e' b hi hm' hb'), .inl ((h.ent i e' hi).memM hm' hb')⟩
  · by_cases hii : i = id
    · subst hii; rw [updH_same] at hi; cases hi; rw [hνs]
      intro hb1
      have hjj : j ≠ i := Ne.symm hij
      rw [updH_ne _ _ hjj] at hj; rw [hν j hjj]
      intro hb2
      have := hlt j e2 b hj hm2 hb2
      rcases hb with hb | hb <;> rw [hb] at hb1 <;> simp at hb1
      omega
    · rw [updH_ne _ _ hii] at hi; rw [hν i hii]
      by_cases hjj : j = id
      · subst hjj; rw [hνs]
        intro hb1 hb2
        have := hlt i e1 b hi hm1 hb1
        rcases hb with hb | hb <;> rw [hb] at hb2 <;> simp at hb2
        omega
      · rw [updH_ne _ _ hjj] at hj; rw [hν j hjj]; exact h.dis i j e1 e2 b hij hi hm1 hj hm2
  · by_cases hii : i = id
    · subst hii; rw [hνs]
      intro hb1
      rcases hb with hb | hb <;> rw [hb] at hb1 <;> simp at hb1
      subst hb1; exact .inl h.size
    · rw [updH_ne _ _ hii] at hi; rw [hν i hii]; exact h.new i e1 b hi hm1
  · by_cases hii : i = id
    · subst hii; rw [hνs]
      intro hb1 h0
      rcases hb with hb | hb <;> rw [hb] at hb1 <;> simp at hb1
      have := h.lim0.1 b h0
      have := h.size
      omega
    · rw [updH_ne _ _ hii] at hi; rw [hν i hii]; exact h.old i e1 l1 b hi
  · rw [size_alloc]
    rcases hb' with hb' | hb'
    · have := h.lim b hb'; omega
    · omega
  · rw [heap_oldb w o (Nat.lt_of_lt_of_le hb1 h.size)]; exact h.frame b hb1 hb2
  · rw [size_alloc]; have := h.size; omega
  · by_cases hii : i = id
    · subst hii; rw [hid] at hi; cases hi
    · exact ⟨e', by rw [updH_ne _ _ hii]; exact hi, .refl e'⟩
  · have hii : i ≠ id := fun e => hi (e ▸ hid)
    exact hν i hii

/-- A new variable. -/
theorem Tr.var {c : Ctx} {H : Nat → Option Ent} {w : World} {M : Nat → Prop} {ν : Nat → Value} (h : Mem c H w M ν) {id : Nat} (hid : H id = none) (t : TypeId) {τ : Ty} {cs : Array Value} {x : τ.den} (hr : Rd w M τ cs.toList x) :
    Tr c H w M ν (updH H id (some (.obj τ x))) (w.alloc (.cells cs t)) (fun b => M b ∨ b = w.heap.size) (updν ν id (.pointer (some ⟨w.heap.size, 0, none⟩))) := by
  refine Tr.alloc h hid _ _ _ trivial (fun _ _ _ _ => by simp) (.inr rfl) ?_
  simp only [ER]
  have hk : Keeps w M (w.alloc (.cells cs t)) (fun b => M b ∨ b = w.heap.size) :=
    ⟨by rw [size_alloc]; omega, fun b hb _ => heap_oldb w _ hb, fun b hb h' => h'.resolve_right (by omega)⟩
  exact ⟨w.heap.size, cs, t, rfl, heap_new w _, .inr rfl, hr.keep hk⟩

/-- A new slice of one's own. -/
theorem Tr.row {c : Ctx} {H : Nat → Option Ent} {w : World} {M : Nat → Prop} {ν : Nat → Value} (h : Mem c H w M ν) {id : Nat} (hid : H id = none) (t : TypeId) {e : Ty} {cs : Array Value} {l : List e.den} {cap : Nat}
    (hl : l.length ≤ cap) (hm : cap ≤ maxLen) (hs : cs.size = cap * e.size) (hr : ∀ i (hi : i < l.length), Rd w M e ((cs.toList.drop (i * e.size)).take e.size) l[i]) :
    Tr c H w M ν (updH H id (some (.own e l))) (w.alloc (.cells cs t)) (fun b => M b ∨ b = w.heap.size) (updν ν id (.slice (some ⟨w.heap.size, 0, none⟩) l.length cap)) := by
  have hk : Keeps w M (w.alloc (.cells cs t)) (fun b => M b ∨ b = w.heap.size) :=
    ⟨by rw [size_alloc]; omega, fun b hb _ => heap_oldb w _ hb, fun b hb h' => h'.resolve_right (by omega)⟩
  refine Tr.alloc h hid _ _ _ trivial (fun _ _ _ _ => by simp) ?_ ?_
  · simp only [blk]; split
    · exact .inl rfl
    · exact .inr rfl
  · simp only [ER]
    by_cases hc : cap = 0
    · subst hc
      have hl0 : l = [] := List.eq_nil_of_length_eq_zero (by omega)
      subst hl0
      exact .inl ⟨rfl, _, rfl⟩
    · exact .inr ⟨w.heap.size, cs, t, cap, rfl, heap_new w _, .inr rfl, by omega, hl, hm, hs, fun i hi => (hr i hi).keep hk⟩

/-- A draw changes nothing. -/
theorem Tr.drew {c : Ctx} {H : Nat → Option Ent} {w : World} {M : Nat → Prop} {ν : Nat → Value} (h : Mem c H w M ν) : Tr c H w M ν H w.drew M ν := by
  have hk : Keeps w M w.drew M := ⟨Nat.le_refl _, fun _ _ _ => rfl, fun _ _ h => h⟩
  exact ⟨⟨fun i e he => (h.ent i e he).keep hk fun hm b hb => ⟨rfl, (h.ent i e he).memM hm hb⟩, h.dis, h.new, h.old, h.lnk, h.sub, h.lim, h.frame, h.size, h.lim0, h.os, h.tape, h.output⟩, hk, .refl H ν⟩

theorem size_setRow (w : World) (g : Nat) (cs : Array Value) : (w.setRow g cs).heap.size = w.heap.size := by simp [World.setRow]

/-- A store into an entry's block. -/
theorem Tr.write {c : Ctx} {H : Nat → Option Ent} {w : World} {M : Nat → Prop} {ν : Nat → Value} (h : Mem c H w M ν) {id : Nat} {e e' : Ent} (hid : H id = some e) (hm : e.mut) (hm' : e'.mut) (hl : e.like e')
    {b : Nat} (hb : blk (ν id) = some b) {cs new : Array Value} {t : TypeId} (hg : w.heap[b]? = some (.cells cs t (0, 0)))
    (her : ∀ M', Keeps w M (w.setRow b new) M' → M' b → ER (w.setRow b new) M' (ν id) e')
    (hlk : ∀ τ x p j, e' = .lnk τ x p j → H j ≠ none ∧ ∃ b', ν id = .pointer (some ⟨b', 0, none⟩) ∧ (w.setRow b new).cell? ⟨b', offP p τ, none⟩ = some (ν j) := by intro _ _ _ _ h; cases h) :
    Tr c H w M ν (updH H id (some e')) (w.setRow b new) M ν := by
  have hMb : M b := (h.ent id e hid).memM hm hb
  have hk : Keeps w M (w.setRow b new) M :=
    ⟨by rw [size_setRow]; exact Nat.le_refl _, fun b' _ hm => setRow_other w b b' new (fun e => hm (e ▸ hMb)), fun _ _ h => h⟩
  refine ⟨⟨fun i e1 hi => ?_, fun i j e1 e2 b1 hij hi hm1 hj hm2 => ?_, fun i e1 b1 hi hm1 => ?_, fun i e1 l1 b1 hi => ?_, lnk_keep h (fun _ _ => rfl) updH_nn (fun i τ x p j hi => ?_), h.sub, fun b1 hb1 => by rw [size_setRow]; exact h.lim b1 hb1, fun b1 hb1 hb2 => ?_, by rw [size_setRow]; exact h.size, h.lim0, h.os, h.tape, h.output⟩, hk, ⟨fun i e1 hi => ?_, fun i hi => rfl⟩⟩
  · by_cases hii : i = id
    · subst hii; rw [updH_same] at hi; cases hi; exact her M hk hMb
    · rw [updH_ne _ _ hii] at hi
      exact (h.ent i e1 hi).keep hk fun hm1 b1 hb1 => ⟨setRow_other w b b1 new (fun e' => h.dis i id e1 e b1 hii hi hm1 hid hm hb1 (e' ▸ hb)), (h.ent i e1 hi).memM hm1 hb1⟩
  · by_cases hii : i = id
    · subst hii; rw [updH_same] at hi; cases hi
      have hjj : j ≠ i := Ne.symm hij
      rw [updH_ne _ _ hjj] at hj
      exact h.dis i j e e2 b1 hij hid hm hj hm2
    · rw [updH_ne _ _ hii] at hi
      by_cases hjj : j = id
      · subst hjj; exact h.dis i j e1 e b1 hij hi hm1 hid hm
      · rw [updH_ne _ _ hjj] at hj; exact h.dis i j e1 e2 b1 hij hi hm1 hj hm2
  · by_cases hii : i = id
    · subst hii; exact h.new i e b1 hid hm
    · rw [updH_ne _ _ hii] at hi; exact h.new i e1 b1 hi hm1
  · by_cases hii : i = id
    · subst hii; rw [updH_same] at hi; cases hi
      cases e with
      | own e0 l0 => exact h.old i e0 l0 b1 hid
      | obj _ _ => simp [Ent.like] at hl
      | lnk _ _ _ _ => simp [Ent.like] at hl
      | frz _ _ => simp [Ent.mut] at hm
      | gone => simp [Ent.mut] at hm
    · rw [updH_ne _ _ hii] at hi; exact h.old i e1 l1 b1 hi
  · by_cases hii : i = id
    · subst hii; rw [updH_same] at hi; cases hi
      obtain ⟨h1, h2⟩ := hlk _ _ _ _ rfl
      exact .inr ⟨updH_some h1, h2⟩
    · rw [updH_ne _ _ hii] at hi
      exact .inl ⟨hi, fun b1 hb1 => setRow_other w b b1 new (fun e1 => h.dis i id _ e b1 hii hi trivial hid hm (by rw [hb1]; rfl) (e1 ▸ hb))⟩
  · rw [setRow_other w b b1 new]
    · exact h.frame b1 hb1 hb2
    · intro hbb; subst hbb
      rcases h.new id e b1 hid hm hb with h' | h'
      · omega
      · exact hb2 h'
  · by_cases hii : i = id
    · subst hii; rw [hid] at hi; cases hi; exact ⟨e', updH_same _ _ _, hl⟩
    · exact ⟨e1, by rw [updH_ne _ _ hii]; exact hi, .refl e1⟩

/-- A slice of one's own under a new number and a new header. -/
theorem Tr.rename {c : Ctx} {H : Nat → Option Ent} {w : World} {M : Nat → Prop} {ν : Nat → Value} (h : Mem c H w M ν) {j id : Nat} {e e' : Ty} {l : List e.den} {l' : List e'.den} (hj : H j = some (.own e l)) (hid : H id = none)
    {v : Value} (hb : blk v = none ∨ blk v = blk (ν j)) (her : ER w M v (.own e' l')) :
    Tr c H w M ν (updH (updH H j (some .gone)) id (some (.own e' l'))) w M (updν ν id v) := by
  have hne : j ≠ id := fun e => by rw [e, hid] at hj; cases hj
  have h1 := (Tr.gone h j).mem
  have hid1 : updH H j (some .gone) id = none := by rw [updH_ne _ _ (Ne.symm hne)]; exact hid
  have hν : ∀ i, i ≠ id → updν ν id v i = ν i := fun i hi => by simp [updν, hi]
  have hνs : updν ν id v id = v := by simp [updν]
  refine ⟨⟨fun i e1 hi => ?_, fun i k e1 e2 b1 hij hi hm1 hk hm2 => ?_, fun i e1 b1 hi hm1 => ?_, fun i e1 l1 b1 hi => ?_, lnk_keep h1 (fun i hi => hν i (fun e => hi (e ▸ hid1))) updH_nn (fun i τ x p j hi => .inl ⟨updH_lnk (fun _ _ _ _ => by simp) hi, fun _ _ => rfl⟩), h.sub, h.lim, h.frame, h.size, h.lim0, h.os, h.tape, h.output⟩, .refl w M, ⟨fun i e1 hi => ?_, fun i hi => ?_⟩⟩
  · by_cases hii : i = id
    · subst hii; rw [updH_same] at hi; cases hi; rw [hνs]; exact her
    · rw [updH_ne _ _ hii] at hi; rw [hν i hii]; exact h1.ent i e1 hi
  · by_cases hii : i = id
    · subst hii; rw [updH_same] at hi; cases hi; rw [hνs]
      have hkk : k ≠ i := Ne.symm hij
      rw [updH_ne _ _ hkk] at hk; rw [hν k hkk]
      intro hb1
      rcases hb with hb | hb
      · rw [hb] at hb1; cases hb1
      · rw [hb] at hb1
        by_cases hkj : k = j
        · subst hkj; rw [updH_same] at hk; cases hk; simp [Ent.mut] at hm2
        · rw [updH_ne _ _ hkj] at hk; exact h.dis j k _ e2 b1 (Ne.symm hkj) hj trivial hk hm2 hb1
    · rw [updH_ne _ _ hii] at hi; rw [hν i hii]
      by_cases hkk : k = id
      · subst hkk; rw [hνs]
        intro hb1 hb2
        rcases hb with hb | hb
        · rw [hb] at hb2; cases hb2
        · rw [hb] at hb2
          by_cases hij' : i = j
          · subst hij'; rw [updH_same] at hi; cases hi; simp [Ent.mut] at hm1
          · rw [updH_ne _ _ hij'] at hi; exact h.dis j i _ e1 b1 (Ne.symm hij') hj trivial hi hm1 hb2 hb1
      · rw [updH_ne _ _ hkk] at hk; rw [hν k hkk]; exact h1.dis i k e1 e2 b1 hij hi hm1 hk hm2
  · by_cases hii : i = id
    · subst hii; rw [hνs]; intro hb1
      rcases hb with hb | hb
      · rw [hb] at hb1; cases hb1
      · rw [hb] at hb1; exact h.new j _ b1 hj trivial hb1
    · rw [updH_ne _ _ hii] at hi; rw [hν i hii]; exact h1.new i e1 b1 hi hm1
  · by_cases hii : i = id
    · subst hii; rw [hνs]; intro hb1
      rcases hb with hb | hb
      · rw [hb] at hb1; cases hb1
      · rw [hb] at hb1; exact h.old j e l b1 hj hb1
    · rw [updH_ne _ _ hii] at hi; rw [hν i hii]; exact h1.old i e1 l1 b1 hi
  · by_cases hij' : i = j
    · subst hij'; exact ⟨.gone, by rw [updH_ne _ _ hne, updH_same], by cases e1 <;> simp [Ent.like]⟩
    · have hii : i ≠ id := fun e => by rw [e, hid] at hi; cases hi
      exact ⟨e1, by rw [updH_ne _ _ hii, updH_ne _ _ hij']; exact hi, .refl e1⟩
  · exact hν i (fun e => hi (e ▸ hid))

/-- An entry is told in other words. -/
theorem Tr.turn {c : Ctx} {H : Nat → Option Ent} {w : World} {M : Nat → Prop} {ν : Nat → Value} (h : Mem c H w M ν) {id : Nat} {e e' : Ent} (hid : H id = some e) (hm : e.mut) (hm' : e'.mut) (hl : e.like e') (hno : ∀ e0 l0, e' ≠ .own e0 l0)
    (her : ER w M (ν id) e') (hlk : ∀ τ x p j, e' = .lnk τ x p j → H j ≠ none ∧ ∃ b', ν id = .pointer (some ⟨b', 0, none⟩) ∧ w.cell? ⟨b', offP p τ, none⟩ = some (ν j)) :
    Tr c H w M ν (updH H id (some e')) w M ν := by
  refine ⟨⟨fun i e1 hi => ?_, fun i j e1 e2 b1 hij hi hm1 hj hm2 => ?_, fun i e1 b1 hi hm1 => ?_, fun i e1 l1 b1 hi => ?_, lnk_keep h (fun _ _ => rfl) updH_nn (fun i τ x p j hi => ?_), h.sub, h.lim, h.frame, h.size, h.lim0, h.os, h.tape, h.output⟩, .refl w M, ⟨fun i e1 hi => ?_, fun i hi => rfl⟩⟩
  · by_cases hii : i = id
    · subst hii; rw [updH_same] at hi; cases hi; exact her
    · rw [updH_ne _ _ hii] at hi; exact h.ent i e1 hi
  · by_cases hii : i = id
    · subst hii; rw [updH_same] at hi; cases hi
      have hjj : j ≠ i := Ne.symm hij
      rw [updH_ne _ _ hjj] at hj
      exact h.dis i j e e2 b1 hij hid hm hj hm2
    · rw [updH_ne _ _ hii] at hi
      by_cases hjj : j = id
      · subst hjj; exact h.dis i j e1 e b1 hij hi hm1 hid hm
      · rw [updH_ne _ _ hjj] at hj; exact h.dis i j e1 e2 b1 hij hi hm1 hj hm2
  · by_cases hii : i = id
    · subst hii; exact h.new i e b1 hid hm
    · rw [updH_ne _ _ hii] at hi; exact h.new i e1 b1 hi hm1
  · by_cases hii : i = id
    · subst hii; rw [updH_same] at hi; cases hi; exact absurd rfl (hno _ _)
    · rw [updH_ne _ _ hii] at hi; exact h.old i e1 l1 b1 hi
  · by_cases hii : i = id
    · subst hii; rw [updH_same] at hi; cases hi
      obtain ⟨h1, h2⟩ := hlk _ _ _ _ rfl
      exact .inr ⟨updH_some h1, h2⟩
    · rw [updH_ne _ _ hii] at hi; exact .inl ⟨hi, fun _ _ => rfl⟩
  · by_cases hii : i = id
    · subst hii; rw [hid] at hi; cases hi; exact ⟨e', updH_same _ _ _, hl⟩
    · exact ⟨e1, by rw [updH_ne _ _ hii]; exact hi, .refl e1⟩

/-- A slice without elements under a new number. -/
theorem Tr.nothing {c : Ctx} {w : World} {M : Nat → Prop} {ν : Nat → Value} {H : Nat → Option Ent} (h : Mem c H w M ν) {id : Nat} (hid : H id = none) (e : Ty) (ad : Option Addr) :
    Tr c H w M ν (updH H id (some (.own e []))) w M (updν ν id (.slice ad 0 0)) := by
  have hν : ∀ i, i ≠ id → updν ν id (.slice ad 0 0) i = ν i := fun i hi => by simp [updν, hi]
  have hνs : updν ν id (.slice ad 0 0) id = .slice ad 0 0 := by simp [updν]
  have hb : blk (.slice ad 0 0) = none := by cases ad <;> simp [blk]
  refine ⟨⟨fun i e1 hi => ?_, fun i k e1 e2 b1 hij hi hm1 hk hm2 => ?_, fun i e1 b1 hi hm1 => ?_, fun i e1 l1 b1 hi => ?_, lnk_keep h (fun i hi => hν i (fun e => hi (e ▸ hid))) updH_nn (fun i τ x p j hi => .inl ⟨updH_lnk (fun _ _ _ _ => by simp) hi, fun _ _ => rfl⟩), h.sub, h.lim, h.frame, h.size, h.lim0, h.os, h.tape, h.output⟩, .refl w M, ⟨fun i e1 hi => ?_, fun i hi => hν i (fun e => hi (e ▸ hid))⟩⟩
  · by_cases hii : i = id
    · subst hii; rw [updH_same] at hi; cases hi; rw [hνs]; simp only [ER]; exact .inl ⟨trivial, ad, rfl⟩
    · rw [updH_ne _ _ hii] at hi; rw [hν i hii]; exact h.ent i e1 hi
  · by_cases hii : i = id
    · subst hii; rw [hνs, hb]; intro h'; cases h'
    · rw [updH_ne _ _ hii] at hi; rw [hν i hii]
      by_cases hkk : k = id
      · subst hkk; rw [hνs, hb]; intro _ h'; cases h'
      · rw [updH_ne _ _ hkk] at hk; rw [hν k hkk]; exact h.dis i k e1 e2 b1 hij hi hm1 hk hm2
  · by_cases hii : i = id
    · subst hii; rw [hνs, hb]; intro h'; cases h'
    · rw [updH_ne _ _ hii] at hi; rw [hν i hii]; exact h.new i e1 b1 hi hm1
  · by_cases hii : i = id
    · subst hii; rw [hνs, hb]; intro h'; cases h'
    · rw [updH_ne _ _ hii] at hi; rw [hν i hii]; exact h.old i e1 l1 b1 hi
  · have hii : i ≠ id := fun e => by rw [e, hid] at hi; cases hi
    exact ⟨e1, by rw [updH_ne _ _ hii]; exact hi, .refl e1⟩


end VM
end

section
/- The value machine, sixth text: what an operation does to a world that fits. -/
namespace VM
open Go

theorem castK_inv {α : Type} {υ τ : Ty} {y : υ.den} {k : τ.den → Option α} {r : α} (h : castK υ τ y k = some r) : ∃ e : υ = τ, k (e ▸ y) = some r := by
  unfold castK at h
  split at h
  · rename_i e; exact ⟨e, h⟩
  · cases h

theorem sameK_inv {α : Type} {υ τ : Ty} {k : Option α} {r : α} (h : sameK υ τ k = some r) : υ = τ ∧ k = some r := by
  unfold sameK at h
  split at h
  · rename_i e; exact ⟨e, h⟩
  · cases h

theorem V.slice {w : World} {M : Nat → Prop} {e : Ty} {v : Value} {l : List e.den} : V w M (.slice e) v l ↔ Rd w M (.slice e) [v] l := by
  unfold V; rw [if_neg (by simp [Ty.isAgg])]

/-- The same entries, but for some that have been frozen. -/
def Fz (H H1 : Nat → Option Ent) : Prop := ∀ i, H1 i = H i ∨ ∃ e l, H i = some (.own e l) ∧ H1 i = some (.frz e l)

theorem Fz.refl (H : Nat → Option Ent) : Fz H H := fun _ => .inl rfl
theorem Fz.none {H H1 : Nat → Option Ent} (h : Fz H H1) {i : Nat} (hi : H i = none) : H1 i = none := by
  rcases h i with h' | ⟨e, l, h', _⟩
  · rw [h', hi]
  · rw [hi] at h'; cases h'
theorem Fz.obj {H H1 : Nat → Option Ent} (h : Fz H H1) {i : Nat} {τ : Ty} {x : τ.den} (hi : H i = some (.obj τ x)) : H1 i = some (.obj τ x) := by
  rcases h i with h' | ⟨e, l, h', _⟩
  · rw [h', hi]
  · rw [hi] at h'; cases h'

theorem updH_self {H : Nat → Option Ent} {id : Nat} {e : Option Ent} (h : H id = e) : updH H id e = H := by
  funext i
  by_cases hi : i = id
  · subst hi; rw [updH_same, h]
  · rw [updH_ne _ _ hi]

theorem asVK_sound {α : Type} {c : Ctx} {H H1 : Nat → Option Ent} {w : World} {M : Nat → Prop} {ν : Nat → Value} (hz : Fz H H1) (hm : Mem c H1 w M ν) {a : AVal} {v : Value} (hv : VR w M H1 ν a v) {τ : Ty}
    {k : τ.den → List Nat → Ups → Option α} {r : α} (h : asVK true a H τ k = some r) :
    ∃ y rd ups M', k y rd ups = some r ∧ Tr c H1 w M ν (upsH H1 ups) w M' ν ∧ V w M' τ v y ∧ Fz H (upsH H1 ups) ∧ ∀ i, rd.contains i = false → upsH H1 ups i = H1 i := by
  unfold asVK at h
  split at h
  · -- a value
    obtain ⟨e, h⟩ := castK_inv h
    subst e
    simp only [VR] at hv
    exact ⟨_, [], [], M, h, .refl hm, hv, hz, fun _ _ => rfl⟩
  · -- a value with an empty field
    obtain ⟨e, h⟩ := castK_inv h
    subst e
    simp only [VR] at hv
    exact ⟨_, [], [], M, h, .refl hm, hv.1, hz, fun _ _ => rfl⟩
  · -- the empty slice
    split at h
    · rename_i e k' _
      simp only [VR] at hv
      obtain ⟨a, rfl⟩ := hv
      refine ⟨[], [], [], M, h, .refl hm, V.slice.2 ?_, hz, fun _ _ => rfl⟩
      simp only [Rd]
      exact ⟨a, 0, rfl, Nat.le_refl _, fun i hi => absurd hi (by simp)⟩
    · cases h
  · rename_i id
    simp only [VR] at hv
    obtain ⟨_, rfl⟩ := hv
    split at h
    · rename_i e l hid
      obtain ⟨e', h⟩ := castK_inv h
      subst e'
      rcases hz id with h1 | ⟨e1, l1, h1, h2⟩
      · rw [hid] at h1
        obtain ⟨M', htr, hV, _⟩ := Tr.freeze hm h1
        refine ⟨_, _, _, M', h, htr, hV, fun i => ?_, fun i hi => updH_ne _ _ (by simpa using hi)⟩
        show updH H1 id (some (.frz e l)) i = H i ∨ _
        by_cases hi : i = id
        · subst hi; exact .inr ⟨e, l, hid, updH_same _ _ _⟩
        · rw [updH_ne _ _ hi]
          rcases hz i with h' | ⟨e2, l2, h2, h3⟩
          · exact .inl h'
          · exact .inr ⟨e2, l2, h2, by show updH H1 id _ i = _; rw [updH_ne _ _ hi]; exact h3⟩
      · rw [hid] at h1; cases h1
        have := hm.ent id _ h2
        simp only [ER] at this
        refine ⟨_, _, [(id, some (.frz e l))], M, h, ?_, V.slice.2 this.1, ?_, fun i hi => updH_ne _ _ (by simpa using hi)⟩
        · show Tr c H1 w M ν (updH H1 id (some (.frz e l))) w M ν
          rw [updH_self h2]; exact .refl hm
        · show Fz H (updH H1 id (some (.frz e l)))
          rw [updH_self h2]; exact hz
    · rename_i e l hid
      obtain ⟨e', h⟩ := castK_inv h
      subst e'
      have h1 : H1 id = some (.frz e l) := by
        rcases hz id with h1 | ⟨e1, l1, h1, h2⟩
        · rw [h1, hid]
        · rw [hid] at h1; cases h1
      have := hm.ent id _ h1
      simp only [ER] at this
      exact ⟨_, _, _, M, h, .refl hm, V.slice.2 this.1, hz, fun _ _ => rfl⟩
    · cases h
  · cases h

/-- What a slice's elements are read from, while nothing is written. -/
def Src (w : World) (M : Nat → Prop) (e : Ty) (v : Value) (l : List e.den) : Prop :=
  ∃ a cap, v = .slice a l.length cap ∧ ∀ i (h : i < l.length), ∃ b off cs, a = some ⟨b, off, none⟩ ∧ At w b (off + i * e.size) cs ∧ Rd w M e cs l[i]

theorem Src.of_V {w : World} {M : Nat → Prop} {e : Ty} {v : Value} {l : List e.den} (h : V w M (.slice e) v l) : Src w M e v l := by
  have h := V.slice.1 h
  simp only [Rd, List.cons.injEq, and_true] at h
  obtain ⟨a, cap, rfl, _, hr⟩ := h
  refine ⟨a, cap, rfl, fun i hi => ?_⟩
  obtain ⟨b, off, ha, _, _, cs, hat, hrd⟩ := hr i hi
  exact ⟨b, off, cs, ha, hat, hrd⟩

theorem readK_sound {α : Type} {c : Ctx} {H : Nat → Option Ent} {w : World} {M : Nat → Prop} {ν : Nat → Value} (hm : Mem c H w M ν) {a : AVal} {v : Value} (hv : VR w M H ν a v) {e : Ty}
    {k : List e.den → List Nat → Ups → Option α} {r : α} (h : asVK false a H (.slice e) k = some r) :
    ∃ y rd, k y rd [] = some r ∧ Src w M e v y := by
  unfold asVK at h
  split at h
  · obtain ⟨e', h⟩ := castK_inv h
    subst e'
    simp only [VR] at hv
    exact ⟨_, [], h, .of_V hv⟩
  · obtain ⟨e', h⟩ := castK_inv h
    subst e'
    simp only [VR] at hv
    exact ⟨_, [], h, .of_V hv.1⟩
  · have h : k [] [] [] = some r := h
    simp only [VR] at hv
    obtain ⟨a, rfl⟩ := hv
    exact ⟨[], [], h, a, 0, rfl, fun i hi => absurd hi (by simp)⟩
  · rename_i id
    simp only [VR] at hv
    obtain ⟨_, rfl⟩ := hv
    split at h
    · rename_i e1 l hid
      obtain ⟨e', h⟩ := castK_inv h
      cases e'
      refine ⟨_, _, h, ?_⟩
      have := hm.ent id _ hid
      simp only [ER] at this
      rcases this with ⟨rfl, a, hv⟩ | ⟨b, cs, t, cap, hv, hb, hM, hc, hl, hml, hs, hr⟩
      · exact ⟨a, 0, hv, fun i hi => absurd hi (by simp)⟩
      · refine ⟨_, cap, hv, fun i hi => ⟨b, 0, _, rfl, ?_, hr i hi⟩⟩
        rw [Nat.zero_add]
        exact At.of_block hb _ _
    · rename_i e1 l hid
      obtain ⟨e', h⟩ := castK_inv h
      cases e'
      have := hm.ent id _ hid
      simp only [ER] at this
      exact ⟨_, _, h, .of_V (V.slice.2 this.1)⟩
    · cases h
  · cases h

/-- All cells of what is read. -/
theorem Src.cells {w : World} {M : Nat → Prop} {e : Ty} {v : Value} {l : List e.den} (h : Src w M e v l) (hne : l ≠ []) :
    ∃ b off cap news, v = .slice (some ⟨b, off, none⟩) l.length cap ∧ news.length = l.length * e.size ∧ At w b off news ∧
      (∀ i (hi : i < l.length), Rd w M e ((news.drop (i * e.size)).take e.size) l[i]) ∧ ∀ u ∈ news, u.oneCell' = true := by
  obtain ⟨a, cap, rfl, hr⟩ := h
  have h0 : 0 < l.length := List.length_pos_iff.2 hne
  obtain ⟨b, off, _, ha, _⟩ := hr 0 h0
  subst ha
  -- the cells, element by element
  have key : ∀ n, n ≤ l.length → ∃ news : List Value, news.length = n * e.size ∧ At w b off news ∧
      (∀ i (hi : i < l.length), i < n → Rd w M e ((news.drop (i * e.size)).take e.size) l[i]) ∧ ∀ u ∈ news, u.oneCell' = true := by
    intro n
    induction n with
    | zero => exact fun _ => ⟨[], by simp, fun j v hj => by simp at hj, fun i _ hi => by omega, by simp⟩
    | succ n ih =>
      intro hn
      obtain ⟨news, hl, hat, hrd, hone⟩ := ih (by omega)
      obtain ⟨b', off', cs, ha, hat', hrd'⟩ := hr n (by omega)
      cases ha
      refine ⟨news ++ cs, by rw [List.length_append, hl, hrd'.length, Nat.add_mul, Nat.one_mul], At.append.2 ⟨hat, by rw [hl]; exact hat'⟩, fun i hi hin => ?_, fun u hu => ?_⟩
      · by_cases hlt : i < n
        · have h1 : (i + 1) * e.size ≤ n * e.size := Nat.mul_le_mul_right _ hlt
          rw [Nat.add_mul, Nat.one_mul] at h1
          rw [List.drop_append_of_le_length (by omega), List.take_append_of_le_length (by rw [List.length_drop]; omega)]
          exact hrd i hi hlt
        · obtain rfl : i = n := by omega
          rw [List.drop_left' hl, List.take_of_length_le (by rw [hrd'.length]; exact Nat.le_refl _)]
          exact hrd'
      · rcases List.mem_append.1 hu with hu | hu
        · exact hone u hu
        · exact hrd'.oneCell u hu
  obtain ⟨news, hl, hat, hrd, hone⟩ := key l.length (Nat.le_refl _)
  exact ⟨b, off, cap, news, rfl, hl, hat, fun i hi => hrd i hi hi, hone⟩

/-- A state and a frame fit. -/
structure Core (c : Ctx) (σ : St) (tm : Array Value) (w : World) (M : Nat → Prop) (ν : Nat → Value) : Prop where
  mem : Mem c σ.H w M ν
  tmp : ∀ i, VR w M σ.H ν (σ.T i) (tm.getD i undef)

theorem cvA_sound (w : World) (M : Nat → Prop) (H : Nat → Option Ent) (ν : Nat → Value) (v : Value) : VR w M H ν (cvA v) v := by
  unfold cvA
  split <;> simp [VR, V, Ty.isAgg, Rd]

theorem Core.op {c : Ctx} {σ : St} {tm : Array Value} {w : World} {M : Nat → Prop} {ν : Nat → Value} (h : Core c σ tm w M ν) (ds : List Deferred) (x : Operand) :
    VR w M σ.H ν (σ.ρ x) (({ tmps := tm, defers := ds } : Act).eval x) := by
  cases x with
  | tmp t => exact h.tmp t
  | const v => exact cvA_sound w M σ.H ν v
  | global g => simp [St.ρ, VR]
  | func f => simp [St.ρ, VR, VRs, Act.eval]

/-- '==' and '!=' at a struct's or an array's type are as its parts' are. -/
def EqOk (P : Program) (t : TypeId) (τ : Ty) : Prop :=
  ∀ (w : World) (M : Nat → Prop) (u v : Value) (x y : τ.den) (b : BinOp) (xo yo : Operand), V w M τ u x → V w M τ v y →
    (eqGuard b t xo yo u v).run P w = .ok () w ∧ (binOp .eql t u v).run P w = .ok (.bool (teq τ x y)) w ∧ (binOp .neq t u v).run P w = .ok (.bool (!teq τ x y)) w

structure EnvTy (P : Program) (E : Env) : Prop where
  ty : ∀ t τ, E.ty t = some τ → Lay P τ t
  eq : ∀ t τ, E.ty t = some τ → τ.comparable = true → τ.isAgg = true → EqOk P t τ

end VM
end

section
/- The value machine, seventh text: the operations, one by one, as the model runs them. -/
namespace VM
open Go
variable {P : Program}

theorem run_alloc_op {o : Oper} {ρ : Operand → Value} {t : TypeId} {i : TypeInfo} {z : Value} (ho : o.op = .alloc t) (hi : P.info? t = some i) (hz : i.zero = some z) (w : World) :
    (execOp ρ o).run P w = .ok (.value (.pointer (some ⟨w.heap.size, 0, none⟩))) (w.alloc (.cells z.cells t)) := by
  simp [execOp, ho, Instr.alloc, zeroValue, typeInfo, hi, hz, newVar, newRow]

theorem run_box_op {o : Oper} {ρ : Operand → Value} {t : TypeId} {x : Operand} (ho : o.op = .box t x) (w : World) :
    (execOp ρ o).run P w = .ok (.value (.pointer (some ⟨w.heap.size, 0, none⟩))) (w.alloc (.cells (ρ x).cells t)) := by
  simp [execOp, ho, Instr.box, newVar, newRow]

theorem run_isAgg {τ : Ty} {t : TypeId} (h : Lay P τ t) (w : World) : (isAgg t).run P w = .ok τ.isAgg w := by
  unfold Lay at h
  cases τ <;> simp only [LayG] at h
  · simp [isAgg, run_underlying h.2, Ty.isAgg]
  · simp [isAgg, run_underlying h.2, Ty.isAgg]
  · simp [isAgg, run_underlying h.2, Ty.isAgg]
  · obtain ⟨_, e', h', _⟩ := h; simp [isAgg, run_underlying h', Ty.isAgg]
  · obtain ⟨_, e', h', _⟩ := h; simp [isAgg, run_underlying h', Ty.isAgg]
  · obtain ⟨_, e', f, h', _⟩ := h; simp [isAgg, run_underlying h', Ty.isAgg]
  · obtain ⟨_, e', h', _⟩ := h; simp [isAgg, run_underlying h', Ty.isAgg]

theorem run_sizeOf' {τ : Ty} {t : TypeId} (h : Lay P τ t) (w : World) : (Go.sizeOf t).run P w = .ok τ.size w := by
  obtain ⟨i, hi, hs, _⟩ := h.base
  simp [Go.sizeOf, typeInfo, hi, hs]

theorem run_loadVar {w : World} {M : Nat → Prop} {τ : Ty} {t : TypeId} (h : Lay P τ t) {b off : Nat} {cs : List Value} {x : τ.den} (ha : At w b off cs) (hr : Rd w M τ cs x) :
    (loadVar t ⟨b, off, none⟩).run P w = .ok (ofCells τ cs) w := by
  have hl : (loadCells ⟨b, off, none⟩ τ.size).run P w = .ok cs.toArray w := by
    rw [← hr.length]
    exact run_loadCells_list w _ cs fun j v hj => by rw [show (⟨b, off, none⟩ : Addr).add j = ⟨b, off + j, none⟩ from by unfold Addr.add; split <;> simp_all]; exact ha j v hj
  unfold ofCells
  by_cases hag : τ.isAgg = true
  · simp [loadVar, run_isAgg h, hag, run_sizeOf' h, hl]
  · obtain ⟨v, rfl, hc⟩ := hr.scalar (by simpa using hag)
    have h0 := ha 0 v rfl
    simp only [Nat.add_zero] at h0
    simp [loadVar, run_isAgg h, hag, load, Sem.run, h0]

theorem run_load_op {o : Oper} {ρ : Operand → Value} {t : TypeId} {x : Operand} (ho : o.op = .load t x) {w : World} {M : Nat → Prop} {τ : Ty} (h : Lay P τ t) {b off : Nat} {cs : List Value} {y : τ.den}
    (hx : ρ x = .pointer (some ⟨b, off, none⟩)) (ha : At w b off cs) (hr : Rd w M τ cs y) :
    (execOp ρ o).run P w = .ok (.value (ofCells τ cs)) w := by
  simp [execOp, ho, hx, Instr.loadAt, Instr.sureAddr, run_loadVar h ha hr]

theorem run_store_op {o : Oper} {ρ : Operand → Value} {t : TypeId} {x y : Operand} (ho : o.op = .store t x y) {w : World} {τ : Ty} (h : Lay P τ t) {b off : Nat} {cur : Array Value} {te : TypeId}
    (hx : ρ x = .pointer (some ⟨b, off, none⟩)) (hg : w.heap[b]? = some (.cells cur te (0, 0))) (hs : (ρ y).cells.size = τ.size) (hf : off + τ.size ≤ cur.size) (h1 : ∀ v ∈ (ρ y).cells.toList, v.oneCell' = true) :
    (execOp ρ o).run P w = .ok .skip (w.setRow b (cur.toList.take off ++ (ρ y).cells.toList ++ cur.toList.drop (off + (ρ y).cells.toList.length)).toArray) := by
  have hst := run_storeCells_at (P := P) b off te (ρ y).cells.toList 0 cur w hg (by simp [hs]; omega) h1
  simp only [Nat.add_zero] at hst
  simp [execOp, ho, hx, Instr.storeAt, Instr.sureAddr, storeVar, run_sizeOf' h, hs, hst]

theorem run_fieldAddr_op {o : Oper} {ρ : Operand → Value} {t : TypeId} {x : Operand} {n : Nat} (ho : o.op = .fieldAddr t x n) {w : World} {fs : Array Field} {f : Field} {b off : Nat} {υ : Ty}
    (hu : P.underlying t = some (.struct fs)) (hf : fs[n]? = some f) (hl : Lay P υ f.type) (hz : υ.size ≠ 0) (hx : ρ x = .pointer (some ⟨b, off, none⟩)) :
    ∃ a, (execOp ρ o).run P w = .ok (.value a) w ∧ a = .pointer (some ⟨b, off + f.offset, none⟩) := by
  refine ⟨_, ?_, rfl⟩
  simp [execOp, ho, hx, Instr.fieldAt, Instr.sureAddr, run_underlying hu, hf, fieldPlace, Addr.add_lit, run_sizeOf' hl, hz]

theorem run_part {τ : Ty} {t : TypeId} (h : Lay P τ t) {w : World} {M : Nat → Prop} {cs : Array Value} {off : Nat} {x : τ.den} (hr : Rd w M τ ((cs.toList.drop off).take τ.size) x) :
    (part t cs off).run P w = .ok (ofCells τ ((cs.toList.drop off).take τ.size)) w := by
  have hl := hr.length
  unfold ofCells
  by_cases hag : τ.isAgg = true
  · simp only [part, Sem.run_bind, run_isAgg h, Result.andThen_ok, hag, if_true, run_sizeOf' h]
    simp
    rw [List.length_take, List.length_drop, Array.length_toList] at hl
    apply Array.ext'
    simp only [Array.toList_extract, List.extract_eq_take_drop, Nat.add_sub_cancel_left]
  · obtain ⟨v, hv, hc⟩ := hr.scalar (by simpa using hag)
    rw [hv]
    have h0 : cs[off]? = some v := by
      have := congrArg (fun l => l[0]?) hv
      simp only [List.getElem?_take, List.getElem?_drop] at this
      split at this
      · simpa using this
      · simp at this
    simp [part, run_isAgg h, hag, h0]

theorem run_field_op {o : Oper} {ρ : Operand → Value} {t : TypeId} {x : Operand} {n : Nat} (ho : o.op = .field t x n) {w : World} {M : Nat → Prop} {fs : Array Field} {f : Field} {cs : Array Value} {υ : Ty} {y : υ.den}
    (hu : P.underlying t = some (.struct fs)) (hf : fs[n]? = some f) (hl : Lay P υ f.type) (hx : ρ x = .agg cs) (hr : Rd w M υ ((cs.toList.drop f.offset).take υ.size) y) :
    (execOp ρ o).run P w = .ok (.value (ofCells υ ((cs.toList.drop f.offset).take υ.size))) w := by
  simp [execOp, ho, hx, Instr.field, run_underlying hu, hf, asAgg, run_part hl hr]

theorem run_indexAddr_slice {o : Oper} {ρ : Operand → Value} {t e : TypeId} {x i : Operand} (ho : o.op = .indexAddr t x i) {w : World} {τe : Ty} {b off len cap : Nat} {k : IntKind} {n : Int}
    (hu : P.underlying t = some (.slice e)) (he : Lay P τe e) (hx : ρ x = .slice (some ⟨b, off, none⟩) len cap) (hi : ρ i = .int k n) (h0 : 0 ≤ n) (h1 : n < (len : Int)) :
    (execOp ρ o).run P w = .ok (.value (.pointer (some ⟨b, off + n.toNat * τe.size, none⟩))) w := by
  simp [execOp, ho, hx, hi, Instr.indexAt, asIntOf, run_underlying hu, h0, h1, run_sizeOf' he, Addr.add_lit]

theorem run_indexAddr_arr {o : Oper} {ρ : Operand → Value} {t e : TypeId} {x i : Operand} (ho : o.op = .indexAddr t x i) {w : World} {τe : Ty} {b off len : Nat} {k : IntKind} {n : Int}
    (hu : P.underlying t = some (.array len e)) (he : Lay P τe e) (hx : ρ x = .pointer (some ⟨b, off, none⟩)) (hi : ρ i = .int k n) (h0 : 0 ≤ n) (h1 : n < (len : Int)) :
    (execOp ρ o).run P w = .ok (.value (.pointer (some ⟨b, off + n.toNat * τe.size, none⟩))) w := by
  simp [execOp, ho, hx, hi, Instr.indexAt, Instr.sureAddr, asIntOf, run_underlying hu, h0, h1, run_sizeOf' he, Addr.add_lit]

theorem run_index_arr {o : Oper} {ρ : Operand → Value} {t e : TypeId} {x i : Operand} (ho : o.op = .index t x i) {w : World} {M : Nat → Prop} {τe : Ty} {len : Nat} {k : IntKind} {n : Int} {cs : Array Value} {y : τe.den}
    (hu : P.underlying t = some (.array len e)) (he : Lay P τe e) (hx : ρ x = .agg cs) (hi : ρ i = .int k n) (h0 : 0 ≤ n) (h1 : n < (len : Int)) (hr : Rd w M τe ((cs.toList.drop (n.toNat * τe.size)).take τe.size) y) :
    (execOp ρ o).run P w = .ok (.value (ofCells τe ((cs.toList.drop (n.toNat * τe.size)).take τe.size))) w := by
  simp [execOp, ho, hx, hi, Instr.index, asIntOf, run_underlying hu, h0, h1, run_sizeOf' he, run_part he hr]

theorem run_extract_op {o : Oper} {ρ : Operand → Value} {x : Operand} {n : Nat} (ho : o.op = .extract x n) {w : World} {us : List Value} {v : Value} (hx : ρ x = .tuple us.toArray) (hv : us[n]? = some v) :
    (execOp ρ o).run P w = .ok (.value v) w := by
  simp [execOp, ho, hx, Instr.extract, hv]

theorem run_pick_op {o : Oper} {ρ : Operand → Value} {x y z : Operand} (ho : o.op = .pick x y z) {w : World} {b : Bool} (hx : ρ x = .bool b) :
    (execOp ρ o).run P w = .ok (.value (if b then ρ y else ρ z)) w := by
  simp [execOp, ho, hx, asBool]

theorem run_nilCheck_op {o : Oper} {ρ : Operand → Value} {x : Operand} (ho : o.op = .nilCheck x) {w : World} {a : Addr} (hx : ρ x = .pointer (some a)) :
    (execOp ρ o).run P w = .ok (.value (.pointer (some a))) w := by
  simp [execOp, ho, hx]

theorem run_makeFunc_op {o : Oper} {ρ : Operand → Value} {f : FuncId} {first caps : Array Operand} (ho : o.op = .makeFunc (.func f) first caps) (hf : first = #[]) {w : World} :
    (execOp ρ o).run P w = .ok (.value (.func (.func f) #[] (caps.map ρ))) w := by
  subst hf
  simp [execOp, ho, Instr.makeFunc]

theorem run_convert_op {o : Oper} {ρ : Operand → Value} {s d : TypeId} {x : Operand} (ho : o.op = .convert s d x) {w : World} {k k' : IntKind} {n : Int} (hs : (P.underlying s).isSome = true) (hd : P.underlying d = some (.int k)) (hx : ρ x = .int k' n) :
    (execOp ρ o).run P w = .ok (.value (.int k (k.wrap n))) w := by
  obtain ⟨ds, hs⟩ := Option.isSome_iff_exists.1 hs
  simp [execOp, ho, hx, convert, run_underlying hs, run_underlying hd, Conv.intToInt]

theorem run_unOp_op {o : Oper} {ρ : Operand → Value} {u : UnOp} {t : TypeId} {x : Operand} (ho : o.op = .unOp u t x) {w : World} {v : Value} (h : (Op.unary u (ρ x)).run P w = .ok v w) :
    (execOp ρ o).run P w = .ok (.value v) w := by
  simp [execOp, ho, h]

theorem run_binOp_op {o : Oper} {ρ : Operand → Value} {b : BinOp} {t t' : TypeId} {x y : Operand} (ho : o.op = .binOp b t x y t') {w : World} {v : Value}
    (hg : (eqGuard b t x y (ρ x) (ρ y)).run P w = .ok () w) (h : (binOp b t (ρ x) (ρ y)).run P w = .ok v w) :
    (execOp ρ o).run P w = .ok (.value v) w := by
  simp [execOp, ho, hg, h]

theorem run_eqGuard_int {b : BinOp} {t : TypeId} {x y : Operand} {k k' : IntKind} {m n : Int} (w : World) : (eqGuard b t x y (.int k m) (.int k' n)).run P w = .ok () w := by
  cases b <;> simp [eqGuard]
theorem run_eqGuard_bool {b : BinOp} {t : TypeId} {x y : Operand} {m n : Bool} (w : World) : (eqGuard b t x y (.bool m) (.bool n)).run P w = .ok () w := by
  cases b <;> simp [eqGuard]
theorem run_eqGuard_str {b : BinOp} {t : TypeId} {x y : Operand} {m n : ByteArray} (w : World) : (eqGuard b t x y (.string m) (.string n)).run P w = .ok () w := by
  cases b <;> simp [eqGuard]

theorem run_builtin_op {o : Oper} {ρ : Operand → Value} {b : Builtin} {args : Array Operand} {ts : Array TypeId} (ho : o.op = .call { callee := .builtin b, args, argTypes := ts }) {w : World} :
    ∃ cs, (execOp ρ o).run P w = (builtin b ts o.type cs (args.map ρ)).run P w := by
  refine ⟨args.map fun | .const _ => true | _ => false, ?_⟩
  simp [execOp, ho, resolve, invoke]
  rfl

end VM
end

section
/- The value machine, eighth text: parts that are set: in structs, arrays, rows. -/
namespace VM
open Go

theorem setFldK_inv {α : Type} {r : α} : ∀ {τ : Ty} {x : τ.den} {n : Nat} {m : (υ : Ty) → υ.den → (υ.den → Option α) → Option α} {k : τ.den → Option α}, setFldK τ x n m k = some r →
    ∃ υ y o k', Fld τ x n υ y o ∧ m υ y k' = some r ∧ ∀ z r', k' z = some r' → ∃ x', k x' = some r' ∧ Fld τ x' n υ z o ∧
      ∀ (w : World) (M : Nat → Prop) cs cs', Rd w M τ cs x → Rd w M υ cs' z → Rd w M τ (spl cs o cs') x'
  | .pair a b, x, 0, m, k, h => by
    refine ⟨a, x.1, 0, _, .here x, h, fun z r' hz => ⟨(z, x.2), hz, .here (a := a) (b := b) (z, x.2), fun w M cs cs' hr hr' => ?_⟩⟩
    simp only [Rd] at hr ⊢
    obtain ⟨c1, c2, rfl, h1, h2⟩ := hr
    refine ⟨cs', c2, ?_, hr', h2⟩
    rw [spl_left (by rw [hr'.length, h1.length]; omega)]
    congr 1
    unfold spl
    rw [Nat.zero_add, hr'.length, ← h1.length]; simp
  | .pair a b, x, n + 1, m, k, h => by
    obtain ⟨υ, y, o, k', hf, hm, hk⟩ := setFldK_inv (τ := b) (x := x.2) (n := n) (m := m) (k := fun z => k (x.1, z)) h
    refine ⟨υ, y, _, k', .there x hf, hm, fun z r' hz => ?_⟩
    obtain ⟨x', hx', hf', hrd⟩ := hk z r' hz
    refine ⟨(x.1, x'), hx', .there (a := a) (b := b) (x.1, x') hf', fun w M cs cs' hr hr' => ?_⟩
    simp only [Rd] at hr ⊢
    obtain ⟨c1, c2, rfl, h1, h2⟩ := hr
    refine ⟨c1, _, ?_, h1, hrd w M c2 cs' h2 hr'⟩
    rw [← h1.length, spl_right]
  | .int _, _, _, _, _, h | .bool, _, _, _, _, h | .str, _, _, _, _, h | .slice _, _, _, _, _, h | .unit, _, _, _, _, h | .arr _ _, _, _, _, _, h => by simp [setFldK] at h

/-- A row of elements. -/
def RdL (w : World) (M : Nat → Prop) (e : Ty) (cs : List Value) (l : List e.den) : Prop :=
  ∀ i (h : i < l.length), Rd w M e ((cs.drop (i * e.size)).take e.size) l[i]

theorem mul_lt_of {i n s : Nat} (h : i < n) : i * s + s ≤ n * s := by
  have : (i + 1) * s ≤ n * s := Nat.mul_le_mul_right _ h
  rw [Nat.add_mul, Nat.one_mul] at this; exact this

theorem RdL.set {w : World} {M : Nat → Prop} {e : Ty} {cs : List Value} {l : List e.den} (h : RdL w M e cs l) (hl : l.length * e.size ≤ cs.length) {i : Nat} (hi : i < l.length) {cs' : List Value} {y : e.den} (hr : Rd w M e cs' y) :
    RdL w M e (spl cs (i * e.size) cs') (l.set i y) := by
  have hlen := hr.length
  intro j hj
  rw [List.length_set] at hj
  have h1 := mul_lt_of (s := e.size) hi
  have h2 := mul_lt_of (s := e.size) hj
  by_cases hij : j = i
  · subst hij
    have := spl_in (a := cs) (o := j * e.size) (new := cs') (by omega)
    rw [hlen] at this
    rw [this, List.getElem_set_self]; exact hr
  · rw [spl_out (by
      rcases Nat.lt_or_gt_of_ne hij with hlt | hlt
      · have := mul_lt_of (s := e.size) hlt; left; omega
      · have := mul_lt_of (s := e.size) hlt; right; omega) (by omega), List.getElem_set_ne (Ne.symm hij)]
    exact h j hj

theorem RdL.append {w : World} {M : Nat → Prop} {e : Ty} {c1 c2 : List Value} {l1 l2 : List e.den} (h1 : RdL w M e c1 l1) (hl : c1.length = l1.length * e.size) (h2 : RdL w M e c2 l2) : RdL w M e (c1 ++ c2) (l1 ++ l2) := by
  intro i hi
  by_cases hlt : i < l1.length
  · have := mul_lt_of (s := e.size) hlt
    rw [List.drop_append_of_le_length (by omega), List.take_append_of_le_length (by rw [List.length_drop]; omega), List.getElem_append_left hlt]
    exact h1 i hlt
  · rw [List.length_append] at hi
    obtain ⟨k, rfl⟩ : ∃ k, i = l1.length + k := ⟨i - l1.length, by omega⟩
    rw [Nat.add_mul, ← hl, ← List.drop_drop, List.drop_left' rfl, List.getElem_append_right (by omega)]
    simp only [Nat.add_sub_cancel_left]
    exact h2 k (by omega)

theorem RdL.take {w : World} {M : Nat → Prop} {e : Ty} {cs : List Value} {l : List e.den} (h : RdL w M e cs l) {n : Nat} (hn : l.length * e.size ≤ n) : RdL w M e (cs.take n) l := by
  intro i hi
  have := mul_lt_of (s := e.size) hi
  rw [List.drop_take, List.take_take, Nat.min_eq_left (by omega)]
  exact h i hi

theorem RdL.more {w : World} {M : Nat → Prop} {e : Ty} {cs cs' : List Value} {l : List e.den} (h : RdL w M e cs l) (hl : l.length * e.size ≤ cs.length) : RdL w M e (cs ++ cs') l := by
  intro i hi
  have := mul_lt_of (s := e.size) hi
  rw [List.drop_append_of_le_length (by omega), List.take_append_of_le_length (by rw [List.length_drop]; omega)]
  exact h i hi

theorem RdL.keep {w w' : World} {M M' : Nat → Prop} (k : Keeps w M w' M') {e : Ty} {cs : List Value} {l : List e.den} (h : RdL w M e cs l) : RdL w' M' e cs l := fun i hi => (h i hi).keep k

theorem Rd.arr {w : World} {M : Nat → Prop} {n : Nat} {e : Ty} {cs : List Value} {x : (Ty.arr n e).den} : Rd w M (.arr n e) cs x ↔ List.length x = n ∧ cs.length = n * e.size ∧ RdL w M e cs x := by
  constructor
  · intro h
    have hl := h.length
    have h' := h
    simp only [Rd] at h'
    refine ⟨h'.1, hl, fun i hi => ?_⟩
    have := h.idx (i := i) (by omega)
    rw [getElem_getD x i e.zero hi] at this
    exact this
  · rintro ⟨hn, hl, hr⟩
    simp only [Rd]
    refine ⟨hn, (List.range n).map fun i => (cs.drop (i * e.size)).take e.size, by simp, ?_, fun i hi hi' => ?_⟩
    · -- the chunks make up the row
      have key : ∀ m (l : List Value), l.length = m * e.size → l = ((List.range m).map fun i => (l.drop (i * e.size)).take e.size).flatten := by
        intro m
        induction m with
        | zero => intro l hl; simpa using hl
        | succ m ih =>
          intro l hl
          have h1 : (l.take (m * e.size)).length = m * e.size := by rw [List.length_take, hl, Nat.add_mul]; omega
          have h2 := ih (l.take (m * e.size)) h1
          rw [List.range_succ, List.map_append, List.flatten_append]
          have h3 : ((List.range m).map fun i => (l.drop (i * e.size)).take e.size) = (List.range m).map fun i => ((l.take (m * e.size)).drop (i * e.size)).take e.size := by
            apply List.map_congr_left
            intro i hi
            have := mul_lt_of (s := e.size) (List.mem_range.1 hi)
            rw [List.drop_take, List.take_take, Nat.min_eq_left (by omega)]
          rw [h3, ← h2]
          simp only [List.map_cons, List.map_nil, List.flatten_cons, List.flatten_nil, List.append_nil]
          rw [List.take_of_length_le (l := l.drop (m * e.size)) (by rw [List.length_drop, hl, Nat.add_mul]; omega), List.take_append_drop]
      exact key n cs hl
    · simp only [List.getElem_map, List.getElem_range]
      exact hr i hi

theorem setP_inv {α : Type} {r : α} {υ : Ty} {y : υ.den} : ∀ {p : List Step} {τ : Ty} {x : τ.den} {k : τ.den → Option α}, setP υ y p τ x k = some r →
    ∃ z, k z = some r ∧ tyP p τ = υ ∧ (InbP p τ → offP p τ + υ.size ≤ τ.size) ∧ ∀ (w : World) (M : Nat → Prop) cs cs', InbP p τ → Rd w M τ cs x → Rd w M υ cs' y → Rd w M τ (spl cs (offP p τ) cs') z
  | [], τ, x, k, h => by
    obtain ⟨e, h⟩ := castK_inv (h : castK υ τ y k = some r)
    subst e
    refine ⟨y, h, rfl, fun _ => by simp [offP], fun w M cs cs' _ hr hr' => ?_⟩
    unfold spl
    rw [show offP [] υ = 0 from rfl, Nat.zero_add, hr'.length, ← hr.length]
    simpa using hr'
  | .fld n :: p, τ, x, k, h => by
    obtain ⟨υ', y', o, k', hf, hm, hk⟩ := setFldK_inv (h : setFldK τ x n _ k = some r)
    obtain ⟨z', hz', ht, hbd, hrd⟩ := setP_inv (p := p) (τ := υ') (x := y') (k := k') hm
    obtain ⟨x', hx', hf', hrd'⟩ := hk z' r hz'
    obtain ⟨h1, h2⟩ := hf.eq
    subst h1 h2
    refine ⟨x', hx', ht, fun hi => by have := hf.bound; have := hbd hi; simp only [offP]; omega, fun w M cs cs' hi hr hr' => ?_⟩
    have hbd := hbd hi
    have h3 := hrd w M _ cs' hi (hf.rd hr) hr'
    have h4 := hrd' w M cs _ hr h3
    have hb := hf.bound
    have hlc := hr.length
    have hl2 := hr'.length
    have hl3 := h3.length
    -- twice in one
    have hin : offP p (fldT τ n) + cs'.length ≤ ((cs.drop (offF τ n)).take (fldT τ n).size).length := by
      rw [List.length_take, List.length_drop]; omega
    have : spl cs (offF τ n) (spl ((cs.drop (offF τ n)).take (fldT τ n).size) (offP p (fldT τ n)) cs') = spl cs (offF τ n + offP p (fldT τ n)) cs' := by
      have e1 : cs = cs.take (offF τ n) ++ (((cs.drop (offF τ n)).take (fldT τ n).size) ++ cs.drop (offF τ n + (fldT τ n).size)) := by
        rw [← List.drop_drop, List.take_append_drop, List.take_append_drop]
      have hlt : (cs.take (offF τ n)).length = offF τ n := by rw [List.length_take]; omega
      conv => rhs; rw [e1]
      rw [show offF τ n + offP p (fldT τ n) = (cs.take (offF τ n)).length + offP p (fldT τ n) from by rw [hlt], spl_right, spl_left hin]
      generalize spl ((cs.drop (offF τ n)).take (fldT τ n).size) (offP p (fldT τ n)) cs' = m at hl3 ⊢
      unfold spl
      rw [hl3, List.append_assoc]
    simp only [offP]
    rw [← this]
    exact h4
  | .idx i :: p, τ, x, k, h => by
    cases τ with
    | arr n e =>
      obtain ⟨z', hz', ht, hbd, hrd⟩ := setP_inv (p := p) (τ := e) (x := List.getD x i e.zero) (k := fun z => k (List.set x i z)) h
      refine ⟨_, hz', ht, fun hi => by
        obtain ⟨⟨n', e', he, hin⟩, hi'⟩ := hi
        cases he
        have := hbd hi'
        have hm := mul_lt_of (s := e.size) hin
        simp only [offP, elT, Ty.size]; omega, fun w M cs cs' hi hr hr' => ?_⟩
      obtain ⟨⟨n', e', he, hin⟩, hi'⟩ := hi
      cases he
      have h3 := hrd w M _ cs' hi' (hr.idx hin) hr'
      obtain ⟨hn, hlc, hrl⟩ := Rd.arr.1 hr
      have hm := mul_lt_of (s := e.size) hin
      have h4 := hrl.set (by rw [hlc, hn]; exact Nat.le_refl _) (i := i) (by omega) h3
      have hl2 := hr'.length
      have hl3 := h3.length
      have hch : ((cs.drop (i * e.size)).take e.size).length = e.size := by rw [List.length_take, List.length_drop]; omega
      have hbd := hbd hi'
      have hin2 : offP p e + cs'.length ≤ ((cs.drop (i * e.size)).take e.size).length := by omega
      have : spl cs (i * e.size) (spl ((cs.drop (i * e.size)).take e.size) (offP p e) cs') = spl cs (i * e.size + offP p e) cs' := by
        have e1 : cs = cs.take (i * e.size) ++ (((cs.drop (i * e.size)).take e.size) ++ cs.drop (i * e.size + e.size)) := by
          rw [← List.drop_drop, List.take_append_drop, List.take_append_drop]
        have hlt : (cs.take (i * e.size)).length = i * e.size := by rw [List.length_take]; omega
        conv => rhs; rw [e1]
        rw [show i * e.size + offP p e = (cs.take (i * e.size)).length + offP p e from by rw [hlt], spl_right, spl_left hin2]
        generalize spl ((cs.drop (i * e.size)).take e.size) (offP p e) cs' = m at hl3 ⊢
        unfold spl
        rw [hl3, List.append_assoc]
      simp only [offP, elT]
      rw [← this]
      refine Rd.arr.2 ⟨by rw [List.length_set]; exact hn, ?_, h4⟩
      rw [length_spl (by rw [hl3]; omega)]; exact hlc
    | _ => simp [setP, setIdxK] at h

end VM
end

