/- A part of the proof of the six laws of layer 3: a machine that reads a function of the program as an equation between values. -/
import Derived.Test.YtmapbngbgfdpfaaVm2
import Derived.Scope
set_option linter.all false
section
/- The value machine, eighteenth text: the arguments of a call. -/
namespace VM
open Go
variable {P : Program} {E : Env} {o : Oper} {a : Act} {w : World} {M : Nat → Prop} {ν : Nat → Value} {σ : St} {c : Ctx} {α : Type} {r : α} {next : Act → World → Prop} {Q : Exit → Act → World → Prop}

def keys {β : Type} (l : List (Nat × β)) : List Nat := l.map (·.1)

theorem upsH_not {i : Nat} : ∀ {ups : Ups} {H : Nat → Option Ent}, i ∉ keys ups → upsH H ups i = H i
  | [], _, _ => rfl
  | u :: r, H, h => by
    simp only [keys, List.map_cons, List.mem_cons, not_or] at h
    show upsH (updH H u.1 u.2) r i = _
    rw [upsH_not h.2, updH_ne _ _ h.1]

theorem upsH_mid (u : Nat × Option Ent) (b : Ups) (hb : u.1 ∉ keys b) : ∀ (a : Ups) (H : Nat → Option Ent), upsH H (a ++ u :: b) = updH (upsH H (a ++ b)) u.1 u.2
  | [], H => by
    show upsH (updH H u.1 u.2) b = updH (upsH H b) u.1 u.2
    induction b generalizing H with
    | nil => rfl
    | cons v b ih =>
      simp only [keys, List.map_cons, List.mem_cons, not_or] at hb
      show upsH (updH (updH H u.1 u.2) v.1 v.2) b = updH (upsH (updH H v.1 v.2) b) u.1 u.2
      rw [← ih hb.2]
      congr 1
      funext i
      by_cases h1 : i = v.1
      · subst h1; rw [updH_same, updH_ne _ _ (Ne.symm hb.1), updH_same]
      · by_cases h2 : i = u.1
        · subst h2; rw [updH_ne _ _ h1, updH_same, updH_same]
        · rw [updH_ne _ _ h1, updH_ne _ _ h2, updH_ne _ _ h2, updH_ne _ _ h1]
  | v :: a, H => upsH_mid u b hb a (updH H v.1 v.2)

/-- The state while the arguments of a call are looked at. 'H0': the entries ahead of the call; 'Hq': without the freezing; 'hs': the blocks that are handed over. -/
structure ArgSt (c : Ctx) (w : World) (M : Nat → Prop) (ν : Nat → Value) (H0 H1 Hq : Nat → Option Ent) (M1 : Nat → Prop) (uo uf : Ups) (io : List (Nat × Ty)) (hs : List Nat) : Prop where
  mem : Mem c H1 w M1 ν
  memq : Mem c Hq w M ν
  keep : Keeps w M w M1
  ext : ∀ i, i ∉ keys io → upsH H0 (uo ++ uf) i = H1 i
  extq : ∀ i, i ∉ keys io → upsH H0 uo i = Hq i
  iog : ∀ q ∈ io, H1 q.1 = some .gone ∧ Hq q.1 = some .gone ∧ ∃ x, H0 q.1 = some (.obj q.2 x)
  ion : (keys io).Nodup
  ks : ∀ i ∈ keys (uo ++ uf), ∀ e l, H1 i ≠ some (.own e l)
  ksn : ∀ i ∈ keys (uo ++ uf), i ∉ keys io ∧ ∃ e l, H0 i = some (.own e l)
  fz : Fz Hq H1
  uov : ∀ u ∈ uo, u.2 = some .gone
  ufv : ∀ u ∈ uf, ∃ e l, u.2 = some (.frz e l) ∧ H0 u.1 = some (.own e l)
  nd : hs.Nodup
  hM : ∀ b ∈ hs, M1 b
  prov : ∀ b ∈ hs, c.B ≤ b ∨ c.may b
  none : ∀ b ∈ hs, ∀ i e, Hq i = some e → e.mut → blk (ν i) ≠ some b
  iob : ∀ b ∈ hs, c.M0 b → ∃ q ∈ io, blk (ν q.1) = some b
  same : ∀ i, i ∉ keys (uo ++ uf) → i ∉ keys io → H1 i = H0 i

theorem ArgSt.start {H : Nat → Option Ent} (hm : Mem c H w M ν) : ArgSt c w M ν H H H M [] [] [] [] :=
  ⟨hm, hm, .refl w M, fun _ _ => rfl, fun _ _ => rfl, fun q hq => by simp at hq, by simp [keys], fun i hi => by simp [keys] at hi, fun i hi => by simp [keys] at hi, .refl H, fun u hu => by simp at hu, fun u hu => by simp at hu, by simp, fun b hb => by simp at hb, fun b hb => by simp at hb, fun b hb => by simp at hb, fun b hb => by simp at hb, fun _ _ _ => rfl⟩

theorem Fz.own' {H H1 : Nat → Option Ent} (h : Fz H H1) {i : Nat} {e : Ty} {l : List e.den} (hi : H1 i = some (.own e l)) : H i = some (.own e l) := by
  rcases h i with h' | ⟨e', l', _, h'⟩
  · rw [← h', hi]
  · rw [hi] at h'; cases h'
theorem Fz.obj' {H H1 : Nat → Option Ent} (h : Fz H H1) {i : Nat} {e : Ty} {l : e.den} (hi : H1 i = some (.obj e l)) : H i = some (.obj e l) := by
  rcases h i with h' | ⟨e', l', _, h'⟩
  · rw [← h', hi]
  · rw [hi] at h'; cases h'
theorem Fz.mut {H H1 : Nat → Option Ent} (h : Fz H H1) {i : Nat} {e : Ent} (hi : H1 i = some e) (hm : e.mut) : H i = some e := by
  cases e with
  | obj => exact h.obj' hi
  | own => exact h.own' hi
  | frz => simp [Ent.mut] at hm
  | gone => simp [Ent.mut] at hm

/-- An own slice is frozen. -/
theorem ArgSt.freeze {H0 H1 Hq : Nat → Option Ent} {M1 : Nat → Prop} {uo uf : Ups} {io : List (Nat × Ty)} {hs : List Nat} (h : ArgSt c w M ν H0 H1 Hq M1 uo uf io hs) {id : Nat} {e : Ty} {l : List e.den} (hid : H1 id = some (.own e l)) :
    ∃ M2, ArgSt c w M ν H0 (updH H1 id (some (.frz e l))) Hq M2 uo ((id, some (.frz e l)) :: uf) io hs ∧ Keeps w M1 w M2 ∧ (∀ b, M2 b ↔ (M1 b ∧ blk (ν id) ≠ some b)) := by
  obtain ⟨M2, htr, _, hM2⟩ := Tr.freeze h.mem hid
  have hio : id ∉ keys io := fun hk => by
    obtain ⟨q, hq, rfl⟩ := List.mem_map.1 hk
    have := (h.iog q hq).1
    rw [hid] at this; cases this
  have hks : id ∉ keys (uo ++ uf) := fun hk => h.ks id hk e l hid
  have hks2 : id ∉ keys uf := fun hk => hks (by simp only [keys, List.map_append, List.mem_append]; exact .inr hk)
  have h0 : H0 id = some (.own e l) := by rw [← h.same id hks hio]; exact hid
  have hq : Hq id = some (.own e l) := h.fz.own' hid
  have hmem : ∀ i, i ∈ keys (uo ++ (id, some (Ent.frz e l)) :: uf) ↔ i = id ∨ i ∈ keys (uo ++ uf) := by
    intro i
    simp only [keys, List.map_append, List.map_cons, List.mem_append, List.mem_cons]
    constructor
    · rintro (h | h | h)
      · exact .inr (.inl h)
      · exact .inl h
      · exact .inr (.inr h)
    · rintro (h | h | h)
      · exact .inr (.inl h)
      · exact .inl h
      · exact .inr (.inr h)
  refine ⟨M2, ⟨htr.mem, h.memq, h.keep.trans htr.keep, fun i hi => ?_, h.extq, fun q hq' => ?_, h.ion, fun i hi e' l' => ?_, fun i hi => ?_, fun i => ?_, h.uov, fun u hu => ?_, h.nd, fun b hb => ?_, h.prov, h.none, h.iob, fun i hi hi' => ?_⟩, htr.keep, hM2⟩
  · rw [upsH_mid _ _ hks2]
    by_cases hii : i = id
    · subst hii; rw [updH_same, updH_same]
    · rw [updH_ne _ _ hii, updH_ne _ _ hii]; exact h.ext i hi
  · obtain ⟨h1, h2, h3⟩ := h.iog q hq'
    have hne : q.1 ≠ id := fun e => hio (e ▸ List.mem_map_of_mem hq')
    exact ⟨by rw [updH_ne _ _ hne]; exact h1, h2, h3⟩
  · by_cases hii : i = id
    · subst hii; rw [updH_same]; intro h'; cases h'
    · rw [updH_ne _ _ hii]
      exact h.ks i (((hmem i).1 hi).resolve_left hii) e' l'
  · rcases (hmem i).1 hi with rfl | hi
    · exact ⟨hio, e, l, h0⟩
    · exact h.ksn i hi
  · by_cases hii : i = id
    · subst hii; exact .inr ⟨e, l, hq, updH_same _ _ _⟩
    · rw [updH_ne _ _ hii]; exact h.fz i
  · rcases List.mem_cons.1 hu with rfl | hu
    · exact ⟨e, l, rfl, h0⟩
    · exact h.ufv u hu
  · exact (hM2 b).2 ⟨h.hM b hb, fun hb' => h.none b hb id _ hq trivial hb'⟩
  · have hne : i ≠ id := fun e => hi ((hmem i).2 (.inl e))
    rw [updH_ne _ _ hne]
    exact h.same i (fun h' => hi ((hmem i).2 (.inr h'))) hi'

/-- An entry is handed over: for good, or to come back. -/
theorem ArgSt.hand {H0 H1 Hq : Nat → Option Ent} {M1 : Nat → Prop} {uo uf : Ups} {io : List (Nat × Ty)} {hs : List Nat} (h : ArgSt c w M ν H0 H1 Hq M1 uo uf io hs) {id : Nat} {e : Ty} {l : List e.den} (hid : H1 id = some (.own e l)) :
    ArgSt c w M ν H0 (updH H1 id (some .gone)) (updH Hq id (some .gone)) M1 ((id, some .gone) :: uo) uf io (hs ++ (blk (ν id)).toList) := by
  have hio : id ∉ keys io := fun hk => by
    obtain ⟨q, hq, rfl⟩ := List.mem_map.1 hk
    have := (h.iog q hq).1
    rw [hid] at this; cases this
  have hks : id ∉ keys (uo ++ uf) := fun hk => h.ks id hk e l hid
  have hks2 : id ∉ keys uo := fun hk => hks (by simp only [keys, List.map_append, List.mem_append]; exact .inl hk)
  have h0 : H0 id = some (.own e l) := by rw [← h.same id hks hio]; exact hid
  have hq : Hq id = some (.own e l) := h.fz.own' hid
  have hmem : ∀ i, i ∈ keys ((id, some Ent.gone) :: uo ++ uf) ↔ i = id ∨ i ∈ keys (uo ++ uf) := by
    intro i
    simp only [keys, List.map_append, List.map_cons, List.cons_append, List.mem_append, List.mem_cons]
  have hnot : ∀ b, blk (ν id) = some b → b ∉ hs := fun b hb hb' => h.none b hb' id _ hq trivial hb
  refine ⟨(Tr.gone h.mem id).mem, (Tr.gone h.memq id).mem, h.keep, fun i hi => ?_, fun i hi => ?_, fun q hq' => ?_, h.ion, fun i hi e' l' => ?_, fun i hi => ?_, fun i => ?_, fun u hu => ?_, h.ufv, ?_, fun b hb => ?_, fun b hb => ?_, fun b hb i e' hi hm => ?_, fun b hb hb0 => ?_, fun i hi hi' => ?_⟩
  · have := upsH_mid (id, some .gone) (uo ++ uf) hks [] H0
    simp only [List.nil_append] at this
    rw [List.cons_append, this]
    by_cases hii : i = id
    · subst hii; rw [updH_same, updH_same]
    · rw [updH_ne _ _ hii, updH_ne _ _ hii]; exact h.ext i hi
  · have := upsH_mid (id, some .gone) uo hks2 [] H0
    simp only [List.nil_append] at this
    rw [this]
    by_cases hii : i = id
    · subst hii; rw [updH_same, updH_same]
    · rw [updH_ne _ _ hii, updH_ne _ _ hii]; exact h.extq i hi
  · obtain ⟨h1, h2, h3⟩ := h.iog q hq'
    have hne : q.1 ≠ id := fun e => hio (e ▸ List.mem_map_of_mem hq')
    exact ⟨by rw [updH_ne _ _ hne]; exact h1, by rw [updH_ne _ _ hne]; exact h2, h3⟩
  · by_cases hii : i = id
    · subst hii; rw [updH_same]; intro h'; cases h'
    · rw [updH_ne _ _ hii]
      exact h.ks i (((hmem i).1 hi).resolve_left hii) e' l'
  · rcases (hmem i).1 hi with rfl | hi
    · exact ⟨hio, e, l, h0⟩
    · exact h.ksn i hi
  · by_cases hii : i = id
    · subst hii; left; rw [updH_same, updH_same]
    · rw [updH_ne _ _ hii, updH_ne _ _ hii]; exact h.fz i
  · rcases List.mem_cons.1 hu with rfl | hu
    · rfl
    · exact h.uov u hu
  · refine List.nodup_append.2 ⟨h.nd, ?_, fun x hx y hy => ?_⟩
    · cases blk (ν id) <;> simp
    · rw [Option.mem_toList] at hy
      intro hxy; subst hxy
      exact hnot x hy hx
  · rcases List.mem_append.1 hb with hb | hb
    · exact h.hM b hb
    · rw [Option.mem_toList] at hb
      exact (h.mem.ent id _ hid).memM trivial hb
  · rcases List.mem_append.1 hb with hb | hb
    · exact h.prov b hb
    · rw [Option.mem_toList] at hb
      exact h.mem.new id _ b hid trivial hb
  · by_cases hii : i = id
    · subst hii; rw [updH_same] at hi; cases hi; simp [Ent.mut] at hm
    · rw [updH_ne _ _ hii] at hi
      rcases List.mem_append.1 hb with hb | hb
      · exact h.none b hb i e' hi hm
      · rw [Option.mem_toList] at hb
        intro hb'
        exact h.memq.dis i id e' _ b hii hi hm hq trivial hb' hb
  · rcases List.mem_append.1 hb with hb | hb
    · exact h.iob b hb hb0
    · rw [Option.mem_toList] at hb
      exact absurd hb0 (h.mem.old id e l b hid hb)
  · have hne : i ≠ id := fun e => hi ((hmem i).2 (.inl e))
    rw [updH_ne _ _ hne]
    exact h.same i (fun h' => hi ((hmem i).2 (.inr h'))) hi'

/-- A variable is handed in and back. -/
theorem ArgSt.lend {H0 H1 Hq : Nat → Option Ent} {M1 : Nat → Prop} {uo uf : Ups} {io : List (Nat × Ty)} {hs : List Nat} (h : ArgSt c w M ν H0 H1 Hq M1 uo uf io hs) {id : Nat} {τ : Ty} {x : τ.den} (hid : H1 id = some (.obj τ x)) :
    ArgSt c w M ν H0 (updH H1 id (some .gone)) (updH Hq id (some .gone)) M1 uo uf (io ++ [(id, τ)]) (hs ++ (blk (ν id)).toList) := by
  have hio : id ∉ keys io := fun hk => by
    obtain ⟨q, hq, rfl⟩ := List.mem_map.1 hk
    have := (h.iog q hq).1
    rw [hid] at this; cases this
  have hq : Hq id = some (.obj τ x) := h.fz.obj' hid
  have hks : id ∉ keys (uo ++ uf) := fun hk => by
    have h1 := h.ext id hio
    obtain ⟨_, e, l, h0⟩ := h.ksn id hk
    -- a key of 'uo' or 'uf' is gone or frozen
    have key : ∀ (ups : Ups) (H : Nat → Option Ent), (∀ u ∈ ups, u.2 = some .gone ∨ ∃ e l, u.2 = some (.frz e l)) → id ∈ keys ups → upsH H ups id = some .gone ∨ ∃ e l, upsH H ups id = some (.frz e l) := by
      intro ups
      induction ups with
      | nil => intro H _ hk; simp [keys] at hk
      | cons u ups ih =>
        intro H hv hk
        by_cases hk2 : id ∈ keys ups
        · exact ih _ (fun v hv' => hv v (List.mem_cons_of_mem _ hv')) hk2
        · show upsH (updH H u.1 u.2) ups id = _ ∨ ∃ e l, upsH (updH H u.1 u.2) ups id = _
          rw [upsH_not hk2]
          have hui : id = u.1 := by
            simp only [keys, List.map_cons, List.mem_cons] at hk hk2
            exact hk.resolve_right hk2
          rw [hui, updH_same]
          exact hv u List.mem_cons_self
    have := key (uo ++ uf) H0 (fun u hu => by
      rcases List.mem_append.1 hu with hu | hu
      · exact .inl (h.uov u hu)
      · obtain ⟨e, l, h', _⟩ := h.ufv u hu; exact .inr ⟨e, l, h'⟩) hk
    rw [h1, hid] at this
    rcases this with h' | ⟨_, _, h'⟩ <;> cases h'
  have h0 : H0 id = some (.obj τ x) := by rw [← h.same id hks hio]; exact hid
  have hmem : ∀ i, i ∈ keys (io ++ [(id, τ)]) ↔ i ∈ keys io ∨ i = id := by
    intro i
    simp only [keys, List.map_append, List.map_cons, List.map_nil, List.mem_append, List.mem_cons, List.not_mem_nil, or_false]
  have hnot : ∀ b, blk (ν id) = some b → b ∉ hs := fun b hb hb' => h.none b hb' id _ hq trivial hb
  refine ⟨(Tr.gone h.mem id).mem, (Tr.gone h.memq id).mem, h.keep, fun i hi => ?_, fun i hi => ?_, fun q hq' => ?_, ?_, fun i hi e' l' => ?_, fun i hi => ?_, fun i => ?_, h.uov, h.ufv, ?_, fun b hb => ?_, fun b hb => ?_, fun b hb i e' hi hm => ?_, fun b hb hb0 => ?_, fun i hi hi' => ?_⟩
  · rw [updH_ne _ _ (fun e => hi ((hmem i).2 (.inr e)))]; exact h.ext i (fun h' => hi ((hmem i).2 (.inl h')))
  · rw [updH_ne _ _ (fun e => hi ((hmem i).2 (.inr e)))]; exact h.extq i (fun h' => hi ((hmem i).2 (.inl h')))
  · rcases List.mem_append.1 hq' with hq' | hq'
    · obtain ⟨h1, h2, h3⟩ := h.iog q hq'
      have hne : q.1 ≠ id := fun e => hio (e ▸ List.mem_map_of_mem hq')
      exact ⟨by rw [updH_ne _ _ hne]; exact h1, by rw [updH_ne _ _ hne]; exact h2, h3⟩
    · rw [List.mem_singleton] at hq'; subst hq'
      exact ⟨updH_same _ _ _, updH_same _ _ _, x, h0⟩
  · simp only [keys, List.map_append, List.map_cons, List.map_nil]
    refine List.nodup_append.2 ⟨h.ion, by simp, fun x hx y hy => ?_⟩
    rw [List.mem_singleton] at hy; subst hy
    intro e; exact hio (e ▸ hx)
  · by_cases hii : i = id
    · subst hii; rw [updH_same]; intro h'; cases h'
    · rw [updH_ne _ _ hii]; exact h.ks i hi e' l'
  · obtain ⟨h1, h2⟩ := h.ksn i hi
    exact ⟨fun h' => ((hmem i).1 h').elim h1 (fun e => hks (e ▸ hi)), h2⟩
  · by_cases hii : i = id
    · subst hii; left; rw [updH_same, updH_same]
    · rw [updH_ne _ _ hii, updH_ne _ _ hii]; exact h.fz i
  · refine List.nodup_append.2 ⟨h.nd, ?_, fun x hx y hy => ?_⟩
    · cases blk (ν id) <;> simp
    · rw [Option.mem_toList] at hy
      intro hxy; subst hxy
      exact hnot x hy hx
  · rcases List.mem_append.1 hb with hb | hb
    · exact h.hM b hb
    · rw [Option.mem_toList] at hb
      exact (h.mem.ent id _ hid).memM trivial hb
  · rcases List.mem_append.1 hb with hb | hb
    · exact h.prov b hb
    · rw [Option.mem_toList] at hb
      exact h.mem.new id _ b hid trivial hb
  · by_cases hii : i = id
    · subst hii; rw [updH_same] at hi; cases hi; simp [Ent.mut] at hm
    · rw [updH_ne _ _ hii] at hi
      rcases List.mem_append.1 hb with hb | hb
      · exact h.none b hb i e' hi hm
      · rw [Option.mem_toList] at hb
        intro hb'
        exact h.memq.dis i id e' _ b hii hi hm hq trivial hb' hb
  · rcases List.mem_append.1 hb with hb | hb
    · obtain ⟨q, hq1, hq2⟩ := h.iob b hb hb0
      exact ⟨q, List.mem_append_left _ hq1, hq2⟩
    · rw [Option.mem_toList] at hb
      exact ⟨(id, τ), by simp, hb⟩
  · have hne : i ≠ id := fun e => hi' ((hmem i).2 (.inr e))
    rw [updH_ne _ _ hne]
    exact h.same i hi (fun h' => hi' ((hmem i).2 (.inl h')))

end VM
end

section
/- The value machine, nineteenth text: arguments, one by one; the results. -/
namespace VM
open Go
variable {P : Program} {E : Env} {o : Oper} {a : Act} {w : World} {M : Nat → Prop} {ν : Nat → Value} {σ : St} {c : Ctx} {α : Type} {r : α} {next : Act → World → Prop} {Q : Exit → Act → World → Prop}

theorem Goes.upd {H : Nat → Option Ent} {id : Nat} {e e' : Ent} (hid : H id = some e) (hl : e.like e') : Goes H ν (updH H id (some e')) ν :=
  ⟨fun i e1 hi => by
    by_cases hii : i = id
    · subst hii; rw [hid] at hi; cases hi; exact ⟨e', updH_same _ _ _, hl⟩
    · exact ⟨e1, by rw [updH_ne _ _ hii]; exact hi, .refl e1⟩, fun _ _ => rfl⟩

theorem Ent.like_gone (e : Ent) : e.like .gone := by cases e <;> simp [Ent.like]

theorem VRs.free {H H' : Nat → Option Ent} {ν' : Nat → Value} : ∀ {τ : Ty} {x : τ.den} {vs : List Value}, VRs w M H ν (capsL τ x) vs → VRs w M H' ν' (capsL τ x) vs
  | .pair a b, x, v :: vs, h => by
    simp only [capsL, VRs, VR] at h ⊢
    exact ⟨h.1, VRs.free h.2⟩
  | .pair a b, x, [], h => by simp [capsL, VRs] at h
  | .int _, _, [], _ | .bool, _, [], _ | .str, _, [], _ | .slice _, _, [], _ | .unit, _, [], _ | .arr _ _, _, [], _ => by simp [capsL, VRs]
  | .int _, _, _ :: _, h | .bool, _, _ :: _, h | .str, _, _ :: _, h | .slice _, _, _ :: _, h | .unit, _, _ :: _, h | .arr _ _, _, _ :: _, h => by simp [capsL, VRs] at h

theorem arg1K_sound {H0 H1 Hq : Nat → Option Ent} {M1 : Nat → Prop} {uo uf : Ups} {io : List (Nat × Ty)} {hs : List Nat} (h : ArgSt c w M ν H0 H1 Hq M1 uo uf io hs) {m : AM} {x : AVal} {v : Value} (hv : VR w M1 H1 ν x v)
    {k : m.den → (Nat → Option Ent) → List Nat → Ups → Ups → List (Nat × Ty) → Option α} (hk : arg1K m x H1 k = some r) :
    ∃ y H2 rd uo' uf' io' Hq2 M2, k y H2 rd uo' uf' io' = some r ∧ ArgSt c w M ν H0 H2 Hq2 M2 (uo' ++ uo) (uf' ++ uf) (io ++ io') (hs ++ hand1 m v) ∧ Keeps w M1 w M2 ∧ Goes H1 ν H2 ν ∧ A1 w M2 m y v ∧
      io'.map (fun q => ν q.1) = (if m.isIo then [v] else []) ∧ io'.map (·.2) = ioTys [m] := by
  unfold arg1K at hk
  split at hk
  · -- a value
    rename_i τ k
    obtain ⟨y, rd, ups, hk, hy⟩ := asVK_at h.mem hv hk
    rcases hy with ⟨rfl, hV⟩ | ⟨id, e, l, rfl, hid, hV⟩
    · exact ⟨y, H1, rd, [], [], [], Hq, M1, hk, by simpa [hand1] using h, .refl w M1, .refl H1 ν, hV, rfl, rfl⟩
    · obtain ⟨M2, hA, hK, hM2⟩ := h.freeze hid
      exact ⟨y, _, rd, [], _, [], Hq, M2, hk, by simpa [hand1] using hA, hK, .upd hid ⟨rfl, rfl⟩, hV M2 hM2, rfl, rfl⟩
  · -- handed over
    rename_i e k
    split at hk
    · obtain ⟨ad, hv⟩ := VR.emp.1 hv
      subst hv
      have hb : blk (.slice ad 0 0) = none := by cases ad <;> simp [blk]
      exact ⟨[], H1, [], [], [], [], Hq, M1, hk, by simpa [hand1, hb] using h, .refl w M1, .refl H1 ν, by simp only [A1, ER]; exact .inl ⟨trivial, ad, rfl⟩, rfl, rfl⟩
    · rename_i id
      split at hk
      · rename_i e' l hid
        obtain ⟨e1, hk⟩ := castK_inv hk
        cases e1
        simp only [VR] at hv
        obtain ⟨_, rfl⟩ := hv
        refine ⟨_, _, _, _, _, _, _, M1, hk, by simpa [hand1] using h.hand hid, .refl w M1, .upd hid (Ent.like_gone _), ?_, rfl, rfl⟩
        have := h.mem.ent id _ hid
        exact this
      · cases hk
    · cases hk
  · -- handed in and back
    rename_i τ k
    split at hk
    · rename_i id
      split at hk
      · rename_i υ z hid
        obtain ⟨e1, hk⟩ := castK_inv hk
        subst e1
        simp only [VR] at hv
        obtain ⟨e, he, har⟩ := hv
        rw [hid] at he; cases he
        simp only [AR] at har
        obtain ⟨_, b, hb, hv⟩ := har
        have hvb : v = ν id := by rw [hv, hb]; rfl
        subst hvb
        refine ⟨_, _, _, _, _, _, _, M1, hk, by simpa [hand1] using h.lend hid, .refl w M1, .upd hid (Ent.like_gone _), ?_, rfl, rfl⟩
        have := h.mem.ent id _ hid
        exact this
      · cases hk
    · cases hk
  · -- a function
    rename_i f τ k
    split at hk
    · rename_i f' cs
      obtain ⟨hf, hk1⟩ := cond_inv hk
      clear hk
      have hf := Nat.eq_of_beq_eq_true hf
      subst hf
      have hk := hk1
      clear hk1
      simp only [VR] at hv
      obtain ⟨us, rfl, hvs⟩ := hv
      obtain ⟨y, rd, ups, hk, hy⟩ := capsK_at h.mem hvs hk
      split at hk
      · exact ⟨y, H1, rd, [], [], [], Hq, M1, hk, by simpa [hand1] using h, .refl w M1, .refl H1 ν, by simp only [A1, VR]; exact ⟨us, rfl, hy rfl⟩, rfl, rfl⟩
      · cases hk
    · cases hk

theorem argsK_sound {H0 : Nat → Option Ent} : ∀ {ms : List AM} {as' : List AVal} {vs : List Value} {H1 Hq : Nat → Option Ent} {M1 : Nat → Prop} {rd : List Nat} {uo uf : Ups} {io : List (Nat × Ty)} {hs : List Nat} {K : HP ms → List Nat → Ups → Ups → List (Nat × Ty) → Option α},
    ArgSt c w M ν H0 H1 Hq M1 uo uf io hs → VRs w M1 H1 ν as' vs → argsK ms as' H1 rd uo uf io K = some r →
    ∃ x rd' uo' uf' io' H2 Hq2 M2, K x rd' uo' uf' io' = some r ∧ ArgSt c w M ν H0 H2 Hq2 M2 uo' uf' io' (hs ++ hands ms vs) ∧ Keeps w M1 w M2 ∧ ArgsR w M2 ms x vs ∧
      io'.map (fun q => ν q.1) = io.map (fun q => ν q.1) ++ iosOf ms vs ∧ io'.map (·.2) = io.map (·.2) ++ ioTys ms
  | [], [], [], H1, Hq, M1, rd, uo, uf, io, hs, K, h, _, hk =>
    ⟨(), rd, uo, uf, io, H1, Hq, M1, hk, by simpa [hands] using h, .refl w M1, rfl, by simp [iosOf], by simp [ioTys]⟩
  | [m], [x], [v], H1, Hq, M1, rd, uo, uf, io, hs, K, h, hv, hk => by
    simp only [VRs, and_true] at hv
    obtain ⟨y, H2, rd1, uo1, uf1, io1, Hq2, M2, hk, hA, hK, hG, hy, hi1, hi2⟩ := arg1K_sound h hv (hk : arg1K m x H1 _ = some r)
    refine ⟨y, _, _, _, _, H2, Hq2, M2, hk, by simpa [hands] using hA, hK, ⟨v, [], rfl, hy, rfl⟩, ?_, ?_⟩
    · rw [List.map_append, hi1]; cases hio : m.isIo <;> simp [iosOf, hio]
    · rw [List.map_append, hi2]
  | m :: n :: ms, x :: xs, v :: vs, H1, Hq, M1, rd, uo, uf, io, hs, K, h, hv, hk => by
    simp only [VRs] at hv
    obtain ⟨y, H2, rd1, uo1, uf1, io1, Hq2, M2, hk, hA, hK, hG, hy, hi1, hi2⟩ := arg1K_sound h hv.1 (hk : arg1K m x H1 _ = some r)
    obtain ⟨ys, rd', uo', uf', io', H3, Hq3, M3, hk, hA', hK', hys, hi3, hi4⟩ := argsK_sound (ms := n :: ms) hA (VRs.keep hK hG hv.2) hk
    refine ⟨(y, ys), _, _, _, _, H3, Hq3, M3, hk, by simpa [hands, List.append_assoc] using hA', hK.trans hK', ⟨v, vs, rfl, ?_, hys⟩, ?_, ?_⟩
    · refine A1.keepV hK' (fun b hb => ⟨rfl, hA'.hM b ?_⟩) hy
      exact List.mem_append_left _ (List.mem_append_right _ hb)
    · rw [hi3, List.map_append, hi1, List.append_assoc]
      congr 1
      cases hio : m.isIo <;> simp [iosOf, hio]
    · rw [hi4, List.map_append, hi2, List.append_assoc]
      congr 1
      cases m <;> simp [ioTys]
  | [], _ :: _, _, _, _, _, _, _, _, _, _, _, _, _, hk => by simp [argsK] at hk
  | [_], [], _, _, _, _, _, _, _, _, _, _, _, _, hk => by simp [argsK] at hk
  | [_], _ :: _ :: _, _, _, _, _, _, _, _, _, _, _, _, _, hk => by simp [argsK] at hk
  | _ :: _ :: _, [], _, _, _, _, _, _, _, _, _, _, _, _, hk => by simp [argsK] at hk
  | _, _ :: _, [], _, _, _, _, _, _, _, _, _, _, hv, _ => by simp [VRs] at hv
  | [], [], _ :: _, _, _, _, _, _, _, _, _, _, _, hv, _ => by simp [VRs] at hv
  | [_], [_], _ :: _ :: _, _, _, _, _, _, _, _, _, _, _, hv, _ => by simp [VRs] at hv

end VM
end

section
/- The value machine, twentieth text: behind a call. -/
namespace VM
open Go
variable {P : Program} {E : Env} {o : Oper} {a : Act} {w : World} {M : Nat → Prop} {ν : Nat → Value} {σ : St} {c : Ctx} {α : Type} {r : α} {next : Act → World → Prop} {Q : Exit → Act → World → Prop}

/-- The entries that were not handed over. -/
theorem Mem.call {H : Nat → Option Ent} (h : Mem c H w M ν) {hs : List Nat} {M0 M' : Nat → Prop} {w' : World} (hM : ∀ b, M0 b → M b) (hhs : ∀ b ∈ hs, M b)
    (hno : ∀ b ∈ hs, ∀ i e, H i = some e → e.mut → blk (ν i) ≠ some b) (hprov : ∀ b ∈ hs, c.B ≤ b ∨ c.may b) (hio : ∀ b ∈ hs, c.M0 b → M' b) (L : Left w M0 hs w' M') :
    Mem c H w' (fun b => M' b ∨ (M b ∧ b ∉ hs)) ν ∧ Keeps w M w' (fun b => M' b ∨ (M b ∧ b ∉ hs)) := by
  have hk : Keeps w M w' (fun b => M' b ∨ (M b ∧ b ∉ hs)) := by
    refine ⟨L.size, fun b hb hm => L.frame b hb (fun hh => hm (hhs b hh)), fun b hb hm => ?_⟩
    rcases hm with hm | hm
    · exact (L.less b hb hm).elim (hM b) (hhs b)
    · exact hm.1
  refine ⟨⟨fun i e hi => (h.ent i e hi).keep hk fun hm b hb => ?_, h.dis, h.new, h.old, fun b hb => ?_, fun b hb => ?_, fun b hb hm => ?_, Nat.le_trans h.size L.size, h.lim0, L.os.trans h.os, L.tape.trans h.tape, L.output.trans h.output⟩, hk⟩
  · have hMb := (h.ent i e hi).memM hm hb
    have hnot : b ∉ hs := fun hh => hno b hh i e hi hm hb
    exact ⟨L.frame b (h.lim b hMb) hnot, .inr ⟨hMb, hnot⟩⟩
  · by_cases hh : b ∈ hs
    · exact .inl (hio b hh hb)
    · exact .inr ⟨h.sub b hb, hh⟩
  · rcases hb with hb | hb
    · exact L.lim b hb
    · exact Nat.lt_of_lt_of_le (h.lim b hb.1) L.size
  · have hnot : b ∉ hs := fun hh => (hprov b hh).elim (fun h' => by omega) hm
    rw [L.frame b (Nat.lt_of_lt_of_le hb h.size) hnot]
    exact h.frame b hb hm

/-- One more entry. -/
theorem Mem.adopt {H : Nat → Option Ent} (h : Mem c H w M ν) {id : Nat} {v : Value} {e : Ent} (hid : ∀ e', H id = some e' → ¬ e'.mut) (her : ER w M v e)
    (hd : ∀ b, blk v = some b → ∀ i e', H i = some e' → e'.mut → blk (ν i) ≠ some b) (hn : ∀ b, blk v = some b → c.B ≤ b ∨ c.may b) (ho : ∀ b e0 l0, e = .own e0 l0 → blk v = some b → ¬ c.M0 b) :
    Mem c (updH H id (some e)) w M (updν ν id v) := by
  have hν : ∀ i, i ≠ id → updν ν id v i = ν i := fun i hi => by simp [updν, hi]
  have hνs : updν ν id v id = v := by simp [updν]
  refine ⟨fun i e1 hi => ?_, fun i k e1 e2 b1 hij hi hm1 hk hm2 => ?_, fun i e1 b1 hi hm1 => ?_, fun i e1 l1 b1 hi => ?_, h.sub, h.lim, h.frame, h.size, h.lim0, h.os, h.tape, h.output⟩
  · by_cases hii : i = id
    · subst hii; rw [updH_same] at hi; cases hi; rw [hνs]; exact her
    · rw [updH_ne _ _ hii] at hi; rw [hν i hii]; exact h.ent i e1 hi
  · by_cases hii : i = id
    · subst hii; rw [hνs]
      have hkk : k ≠ i := Ne.symm hij
      rw [updH_ne _ _ hkk] at hk; rw [hν k hkk]
      intro hb1
      exact hd b1 hb1 k e2 hk hm2
    · rw [updH_ne _ _ hii] at hi; rw [hν i hii]
      by_cases hkk : k = id
      · subst hkk; rw [hνs]
        intro hb1 hb2
        exact hd b1 hb2 i e1 hi hm1 hb1
      · rw [updH_ne _ _ hkk] at hk; rw [hν k hkk]; exact h.dis i k e1 e2 b1 hij hi hm1 hk hm2
  · by_cases hii : i = id
    · subst hii; rw [hνs]; exact hn b1
    · rw [updH_ne _ _ hii] at hi; rw [hν i hii]; exact h.new i e1 b1 hi hm1
  · by_cases hii : i = id
    · subst hii; rw [updH_same] at hi; cases hi; rw [hνs]; exact ho b1 e1 l1 rfl
    · rw [updH_ne _ _ hii] at hi; rw [hν i hii]; exact h.old i e1 l1 b1 hi

/-- 'resL', alike for one and for more. -/
theorem resL_cons {m : AM} {ms : List AM} (x : HP (m :: ms)) (id : Nat) (io : List (Nat × Ty)) :
    resL (m :: ms) x id io = match m, hpH x, io with
      | .io τ, y, (j, _) :: io => ((resL ms (hpT x) (id + 1) io).1, (j, some (.obj τ y)) :: (resL ms (hpT x) (id + 1) io).2.1, (resL ms (hpT x) (id + 1) io).2.2)
      | m, y, io => ((res1 m y id).1 :: (resL ms (hpT x) (id + 1) io).1, (res1 m y id).2 ++ (resL ms (hpT x) (id + 1) io).2.1, (resL ms (hpT x) (id + 1) io).2.2) := by
  cases ms with
  | nil => cases m <;> cases io <;> simp [resL, hpH]
  | cons n ms => cases m <;> cases io <;> simp [resL, hpH, hpT]

theorem nodup_mid {l1 l2 : List Nat} {b : Nat} (h : (l1 ++ l2).Nodup) (h1 : b ∈ l1) : b ∉ l2 := fun h2 => (List.nodup_append.1 h).2.2 b h1 b h2 rfl

theorem RR.io_mem : ∀ {ms : List AM} {x : HP ms} {us ps : List Value}, RR w M ms x us ps → ∀ p ∈ ps, ∀ b, blk p = some b → b ∈ blocksR ms us ps
  | [], _, _, _, h, p, hp, _, _ => by simp only [RR] at h; rw [h.2] at hp; simp at hp
  | m :: ms, x, us, ps, h, p, hp, b, hb => by
    simp only [RR] at h
    rcases h with ⟨p', ps', h1, rfl, h2, h3⟩ | ⟨v, us', h1, h2, rfl, h3, h4⟩
    · simp only [blocksR, h1, if_true, List.headD_cons, List.tail_cons, List.mem_append]
      rcases List.mem_cons.1 hp with rfl | hp
      · left
        cases m <;> simp [AM.isIo] at h1
        simp [hand1, hb]
      · exact .inr (RR.io_mem h3 p hp b hb)
    · simp only [blocksR, h1, Bool.false_eq_true, if_false, List.headD_cons, List.tail_cons, List.mem_append]
      exact .inr (RR.io_mem h4 p hp b hb)

/-- The results become entries. 'old': the entries' blocks that were there. -/
theorem resL_sound {hs : List Nat} {sz : Nat} : ∀ {ms : List AM} {x : HP ms} {us ps : List Value} {id : Nat} {io : List (Nat × Ty)} {H : Nat → Option Ent} {ν : Nat → Value} {used : List Nat},
    Mem c H w M ν → RR w M ms x us ps → ps = io.map (fun q => ν q.1) → ioTys ms = io.map (·.2) → (keys io).Nodup → (∀ q ∈ io, H q.1 = some .gone) → (∀ i, id ≤ i → i < id + ms.length → H i = none) →
    (∀ i e b, H i = some e → e.mut → blk (ν i) = some b → (b < sz ∧ b ∉ hs) ∨ b ∈ used) → (used ++ blocksR ms us ps).Nodup → (∀ b ∈ blocksR ms us ps, sz ≤ b ∨ b ∈ hs) →
    (∀ b ∈ blocksR ms us ps, (c.B ≤ b ∨ c.may b)) → (∀ b ∈ blocksR ms us ps, c.M0 b → ∃ p ∈ ps, blk p = some b) →
    ∃ ν', Mem c (upsH H (resL ms x id io).2.1) w M ν' ∧ VRs w M (upsH H (resL ms x id io).2.1) ν' (resL ms x id io).1 us ∧ (∀ i, H i ≠ none → ν' i = ν i) ∧
      (∀ i, i ∉ keys io → (i < id ∨ id + ms.length ≤ i) → upsH H (resL ms x id io).2.1 i = H i) ∧ (∀ i, id ≤ i → i < id + ms.length → ∀ e, upsH H (resL ms x id io).2.1 i = some e → ∃ e0 l0, e = .own e0 l0) ∧
      (∀ q ∈ io, ∃ z : q.2.den, upsH H (resL ms x id io).2.1 q.1 = some (.obj q.2 z))
  | [], x, us, ps, id, io, H, ν, used, hm, hr, hps, hty, hion, hiog, hfree, hold, hnd, hnew, hprov, hM0 => by
    simp only [RR] at hr
    obtain ⟨rfl, rfl⟩ := hr
    have hio : io = [] := by
      cases io with
      | nil => rfl
      | cons q io => simp at hps
    subst hio
    exact ⟨ν, hm, by simp [resL, VRs], fun _ _ => rfl, fun _ _ _ => rfl, fun i h1 h2 => by simp at h2; omega, fun q hq => by simp at hq⟩
  | m :: ms, x, us, ps, id, io, H, ν, used, hm, hr, hps, hty, hion, hiog, hfree, hold, hnd, hnew, hprov, hM0 => by
    rw [resL_cons]
    simp only [RR] at hr
    rcases hr with ⟨p, ps', hmio, rfl, h1, h2⟩ | ⟨v, us', hmio, hmf, rfl, h1, h2⟩
    · -- handed back
      cases m with
      | io τ =>
        cases io with
        | nil => simp at hps
        | cons q io =>
          simp only [List.map_cons, List.cons.injEq] at hps
          obtain ⟨rfl, rfl⟩ := hps
          simp only [ioTys, List.map_cons, List.cons.injEq] at hty
          obtain ⟨hty1, hty2⟩ := hty
          simp only [keys, List.map_cons, List.nodup_cons] at hion
          have hbr : blocksR (.io τ :: ms) us (ν q.1 :: io.map fun q => ν q.1) = (blk (ν q.1)).toList ++ blocksR ms us (io.map fun q => ν q.1) := rfl
          rw [hbr] at hnd hnew hprov hM0
          have hq0 := hiog q List.mem_cons_self
          have hqid : q.1 < id ∨ id + (ms.length + 1) ≤ q.1 := by
            rcases Nat.lt_or_ge q.1 id with h' | h'
            · exact .inl h'
            · rcases Nat.lt_or_ge q.1 (id + (ms.length + 1)) with h'' | h''
              · rw [hfree q.1 h' h''] at hq0; cases hq0
              · exact .inr h''
          simp only [A1] at h1
          have hfresh : ∀ b, blk (ν q.1) = some b → ∀ i e', H i = some e' → e'.mut → blk (ν i) ≠ some b := by
            intro b hb i e' hi hm' hb'
            have hin : b ∈ (blk (ν q.1)).toList ++ blocksR ms us (io.map fun q => ν q.1) := List.mem_append_left _ (by rw [hb]; simp)
            rcases hold i e' b hi hm' hb' with ⟨h3, h4⟩ | h3
            · exact (hnew b hin).elim (fun h' => by omega) h4
            · exact nodup_mid hnd h3 hin
          have hm2 := Mem.adopt (c := c) hm (id := q.1) (v := ν q.1) (e := .obj τ (hpH x)) (fun e' he' => by rw [hq0] at he'; cases he'; simp [Ent.mut]) h1 hfresh (fun b hb => hprov b (List.mem_append_left _ (by rw [hb]; simp))) (fun b e0 l0 he => by cases he)
          have hνe : updν ν q.1 (ν q.1) = ν := by funext i; unfold updν; split <;> simp_all
          rw [hνe] at hm2
          have hps2 : ∀ (q' : Nat × Ty), q' ∈ io → q'.1 ≠ q.1 := fun q' hq' e => hion.1 (List.mem_map.2 ⟨q', hq', e⟩)
          obtain ⟨ν', r1, r2, r3, r4, r5, r6⟩ := resL_sound (ms := ms) (x := hpT x) (us := us) (ps := io.map fun q => ν q.1) (id := id + 1) (io := io) (used := used ++ (blk (ν q.1)).toList) hm2 h2 rfl hty2 hion.2
            (fun q' hq' => by rw [updH_ne _ _ (hps2 q' hq')]; exact hiog q' (List.mem_cons_of_mem _ hq'))
            (fun i h3 h4 => by
              have : i ≠ q.1 := by omega
              rw [updH_ne _ _ this]
              exact hfree i (by omega) (by simp only [List.length_cons]; omega))
            (fun i e b hi hm' hb => by
              by_cases hii : i = q.1
              · subst hii; exact .inr (List.mem_append_right _ (by rw [hb]; simp))
              · rw [updH_ne _ _ hii] at hi
                exact (hold i e b hi hm' hb).imp (fun h => h) (List.mem_append_left _))
            (by rw [List.append_assoc]; exact hnd) (fun b hb => hnew b (List.mem_append_right _ hb)) (fun b hb => hprov b (List.mem_append_right _ hb))
            (fun b hb hb0 => by
              obtain ⟨p, hp, hpb⟩ := hM0 b (List.mem_append_right _ hb) hb0
              rcases List.mem_cons.1 hp with rfl | hp
              · exact absurd (nodup_mid (List.nodup_append.1 hnd).2.1 (b := b) (by rw [hpb]; simp)) (by simpa using hb)
              · exact ⟨p, hp, hpb⟩)
          refine ⟨ν', r1, r2, fun i hi => ?_, fun i h3 h4 => ?_, fun i h3 h4 e he => ?_, fun q' hq' => ?_⟩
          · exact r3 i (by
              by_cases hii : i = q.1
              · subst hii; rw [updH_same]; simp
              · rw [updH_ne _ _ hii]; exact hi)
          · simp only [keys, List.map_cons, List.mem_cons, not_or] at h3
            have := r4 i h3.2 (by simp only [List.length_cons] at h4; omega)
            rw [updH_ne _ _ h3.1] at this
            exact this
          · by_cases h5 : id + 1 ≤ i
            · exact r5 i h5 (by simp only [List.length_cons] at h4; omega) e he
            · have hii : i = id := by omega
              subst hii
              by_cases hk : i ∈ keys io
              · obtain ⟨q', hq', hqe⟩ := List.mem_map.1 hk
                have h9 := hiog q' (List.mem_cons_of_mem _ hq')
                rw [hqe, hfree i (Nat.le_refl _) (by simp)] at h9
                cases h9
              · have := r4 i hk (.inl (by omega))
                have hne : i ≠ q.1 := by omega
                rw [updH_ne _ _ hne, hfree i (Nat.le_refl _) (by simp)] at this
                have he : upsH (updH H q.1 (some (Ent.obj τ (hpH x)))) (resL ms (hpT x) (i + 1) io).2.1 i = some e := he
                rw [this] at he; cases he
          · rcases List.mem_cons.1 hq' with rfl | hq'
            · have := r4 q'.1 hion.1 (by omega)
              rw [updH_same] at this
              rw [← hty1]
              exact ⟨hpH x, this⟩
            · exact r6 q' hq'
      | v τ => simp [AM.isIo] at hmio
      | own τ => simp [AM.isIo] at hmio
      | fn f τ => simp [AM.isIo] at hmio
    · -- a result
      have hidn : H id = none := hfree id (Nat.le_refl _) (by simp)
      cases m with
      | io τ => simp [AM.isIo] at hmio
      | fn f τ => simp [AM.isFn] at hmf
      | v τ =>
        have hbr : blocksR (.v τ :: ms) (v :: us') ps = blocksR ms us' ps := rfl
        rw [hbr] at hnd hnew hprov hM0
        simp only [A1] at h1
        obtain ⟨ν', r1, r2, r3, r4, r5, r6⟩ := resL_sound (ms := ms) (x := hpT x) (us := us') (ps := ps) (id := id + 1) (io := io) (used := used) hm h2 hps (by simpa [ioTys] using hty) hion hiog (fun i h3 h4 => hfree i (by omega) (by simp only [List.length_cons]; omega)) hold hnd hnew hprov hM0
        refine ⟨ν', r1, ?_, r3, fun i h3 h4 => r4 i h3 (by simp only [List.length_cons] at h4; omega), fun i h3 h4 e he => ?_, r6⟩
        · simp only [res1, VRs, VR]; exact ⟨h1, r2⟩
        · by_cases h5 : id + 1 ≤ i
          · exact r5 i h5 (by simp only [List.length_cons] at h4; omega) e he
          · have hii : i = id := by omega
            subst hii
            by_cases hk : i ∈ keys io
            · obtain ⟨q', hq', hqe⟩ := List.mem_map.1 hk
              have h9 := hiog q' hq'
              rw [hqe, hidn] at h9; cases h9
            · have := r4 i hk (.inl (by omega))
              rw [hidn] at this
              have he : upsH H (resL ms (hpT x) (i + 1) io).2.1 i = some e := he
              rw [this] at he; cases he
      | own τ =>
        have hbr : blocksR (.own τ :: ms) (v :: us') ps = (blk v).toList ++ blocksR ms us' ps := rfl
        rw [hbr] at hnd hnew hprov hM0
        simp only [A1] at h1
        have hfresh : ∀ b, blk v = some b → ∀ i e', H i = some e' → e'.mut → blk (ν i) ≠ some b := by
          intro b hb i e' hi hm' hb'
          have hin : b ∈ (blk v).toList ++ blocksR ms us' ps := List.mem_append_left _ (by rw [hb]; simp)
          rcases hold i e' b hi hm' hb' with ⟨h3, h4⟩ | h3
          · exact (hnew b hin).elim (fun h' => by omega) h4
          · exact nodup_mid hnd h3 hin
        have hold0 : ∀ b, blk v = some b → ¬ c.M0 b := by
          intro b hb h0
          have hin : b ∈ (blk v).toList := by rw [hb]; simp
          obtain ⟨p, hp, hpb⟩ := hM0 b (List.mem_append_left _ hin) h0
          exact nodup_mid (List.nodup_append.1 hnd).2.1 hin (RR.io_mem h2 p hp b hpb)
        have hm2 := Mem.adopt (c := c) hm (id := id) (v := v) (e := .own τ (hpH x)) (fun e' he' => by rw [hidn] at he'; cases he') h1 hfresh (fun b hb => hprov b (List.mem_append_left _ (by rw [hb]; simp))) (fun b e0 l0 _ hb => hold0 b hb)
        have hqid : ∀ q ∈ io, q.1 ≠ id := fun q hq e => by
          have h9 := hiog q hq
          rw [e, hidn] at h9; cases h9
        have hν2 : ∀ i, i ≠ id → updν ν id v i = ν i := fun i hi => by simp [updν, hi]
        obtain ⟨ν', r1, r2, r3, r4, r5, r6⟩ := resL_sound (ms := ms) (x := hpT x) (us := us') (ps := ps) (id := id + 1) (io := io) (used := used ++ (blk v).toList) hm2 h2
          (by rw [hps]; exact List.map_congr_left fun q hq => (hν2 _ (hqid q hq)).symm) (by simpa [ioTys] using hty) hion
          (fun q hq => by rw [updH_ne _ _ (hqid q hq)]; exact hiog q hq)
          (fun i h3 h4 => by rw [updH_ne _ _ (by omega)]; exact hfree i (by omega) (by simp only [List.length_cons]; omega))
          (fun i e b hi hm' hb => by
            by_cases hii : i = id
            · subst hii
              have : updν ν i v i = v := by simp [updν]
              rw [this] at hb
              exact .inr (List.mem_append_right _ (by rw [hb]; simp))
            · rw [updH_ne _ _ hii] at hi
              rw [hν2 i hii] at hb
              exact (hold i e b hi hm' hb).imp (fun h => h) (List.mem_append_left _))
          (by rw [List.append_assoc]; exact hnd) (fun b hb => hnew b (List.mem_append_right _ hb)) (fun b hb => hprov b (List.mem_append_right _ hb)) (fun b hb => hM0 b (List.mem_append_right _ hb))
        have hkid : id ∉ keys io := fun hk => by
          obtain ⟨q, hq, hqe⟩ := List.mem_map.1 hk
          exact hqid q hq hqe
        have hat : upsH (updH H id (some (.own τ (hpH x)))) (resL ms (hpT x) (id + 1) io).2.1 id = some (.own τ (hpH x)) := by
          rw [r4 id hkid (.inl (by omega)), updH_same]
        refine ⟨ν', r1, ?_, fun i hi => ?_, fun i h3 h4 => ?_, fun i h3 h4 e he => ?_, r6⟩
        · simp only [res1, VRs, VR]
          refine ⟨⟨?_, ?_⟩, r2⟩
          · show upsH (updH H id (some (.own τ (hpH x)))) (resL ms (hpT x) (id + 1) io).2.1 id ≠ none
            rw [hat]; simp
          · rw [r3 id (by rw [updH_same]; simp)]; simp [updν]
        · have hii : i ≠ id := fun e => hi (e ▸ hidn)
          rw [r3 i (by rw [updH_ne _ _ hii]; exact hi), hν2 i hii]
        · have hii : i ≠ id := by simp only [List.length_cons] at h4; omega
          have := r4 i h3 (by simp only [List.length_cons] at h4; omega)
          rw [updH_ne _ _ hii] at this
          exact this
        · by_cases h5 : id + 1 ≤ i
          · exact r5 i h5 (by simp only [List.length_cons] at h4; omega) e he
          · have hii : i = id := by omega
            subst hii
            have he : upsH (updH H i (some (.own τ (hpH x)))) (resL ms (hpT x) (i + 1) io).2.1 i = some e := he
            rw [hat] at he; cases he
            exact ⟨τ, _, rfl⟩

end VM
end

section
/- The value machine, twenty-first text: a call. -/
namespace VM
open Go
variable {P : Program} {E : Env} {o : Oper} {a : Act} {w : World} {M : Nat → Prop} {ν : Nat → Value} {σ : St} {c : Ctx} {α : Type} {r : α} {next : Act → World → Prop} {Q : Exit → Act → World → Prop}

theorem upsH_mem {i : Nat} : ∀ {ups : Ups} {H : Nat → Option Ent}, i ∈ keys ups → ∃ u ∈ ups, u.1 = i ∧ upsH H ups i = u.2
  | [], _, h => by simp [keys] at h
  | u :: r, H, h => by
    by_cases hk : i ∈ keys r
    · obtain ⟨v, h1, h2, h3⟩ := upsH_mem (H := updH H u.1 u.2) hk
      exact ⟨v, List.mem_cons_of_mem _ h1, h2, h3⟩
    · have hi : i = u.1 := by
        simp only [keys, List.map_cons, List.mem_cons] at h hk
        exact h.resolve_right hk
      refine ⟨u, List.mem_cons_self, hi.symm, ?_⟩
      show upsH (updH H u.1 u.2) r i = _
      rw [upsH_not hk, hi, updH_same]

theorem upsH_congr : ∀ {ups : Ups} {H H' : Nat → Option Ent}, (∀ i, i ∉ keys ups → H i = H' i) → upsH H ups = upsH H' ups
  | [], H, H', h => funext fun i => h i (by simp [keys])
  | u :: r, H, H', h => by
    refine upsH_congr (ups := r) fun i hi => ?_
    by_cases hu : i = u.1
    · subst hu; rw [updH_same, updH_same]
    · rw [updH_ne _ _ hu, updH_ne _ _ hu]
      exact h i (by simp only [keys, List.map_cons, List.mem_cons, not_or]; exact ⟨hu, hi⟩)

theorem RR.blocks_mem : ∀ {ms : List AM} {x : HP ms} {us ps : List Value}, RR w M ms x us ps → ∀ b ∈ blocksR ms us ps, M b
  | [], _, _, _, _, b, hb => by simp [blocksR] at hb
  | m :: ms, x, us, ps, h, b, hb => by
    simp only [RR] at h
    rcases h with ⟨p, ps', h1, rfl, h2, h3⟩ | ⟨v, us', h1, h2, rfl, h3, h4⟩
    · simp only [blocksR, h1, if_true, List.headD_cons, List.tail_cons, List.mem_append] at hb
      rcases hb with hb | hb
      · cases m <;> simp [AM.isIo] at h1
        simp only [hand1, Option.mem_toList, A1] at hb h2
        exact h2.memM trivial hb
      · exact RR.blocks_mem h3 b hb
    · simp only [blocksR, h1, Bool.false_eq_true, if_false, List.headD_cons, List.tail_cons, List.mem_append] at hb
      rcases hb with hb | hb
      · cases m with
        | own e =>
          simp only [hand1, Option.mem_toList, A1] at hb h3
          exact h3.memM trivial hb
        | v _ => simp [hand1] at hb
        | io _ => simp [AM.isIo] at h1
        | fn _ _ => simp [hand1] at hb
      · exact RR.blocks_mem h4 b hb

theorem pickS_mem : ∀ {l : List Summ} {as' : List AVal} {S : Summ}, pickS l as' = some S → S ∈ l
  | [], _, _, h => by simp [pickS] at h
  | T :: l, as', S, h => by
    unfold pickS at h
    cases hf : fits T.args as'
    · rw [hf] at h; exact List.mem_cons_of_mem _ (pickS_mem h)
    · rw [hf] at h; cases h; exact List.mem_cons_self

theorem freeAll_inv {H : Nat → Option Ent} {id : Nat} : ∀ {n : Nat}, freeAll H id n = true → ∀ i, id ≤ i → i < id + n → H i = none
  | 0, _, i, h1, h2 => by omega
  | n + 1, h, i, h1, h2 => by
    unfold freeAll at h
    rw [Bool.and_eq_true] at h
    by_cases hi : i = id + n
    · subst hi
      have h := h.1
      split at h
      · assumption
      · cases h
    · exact freeAll_inv h.2 i h1 (by omega)

theorem packVR {H : Nat → Option Ent} {as' : List AVal} {us : List Value} (h : VRs w M H ν as' us) : VR w M H ν (packA as') (packV us) := by
  match as', us, h with
  | [], [], _ => simp [packA, VR]
  | [a], [u], h => simp only [VRs, and_true] at h; simpa [packA, packV] using h
  | a :: b :: as', u :: v :: us, h =>
    simp only [packA, VR]
    exact ⟨u :: v :: us, by simp [packV], h⟩
  | [], _ :: _, h => simp [VRs] at h
  | _ :: _, [], h => simp [VRs] at h
  | [_], _ :: _ :: _, h => simp [VRs] at h
  | _ :: _ :: _, [_], h => simp [VRs] at h

theorem callK_sound (hΓ : ∀ f S, S ∈ E.Γ f → SumOk P f S) {H : Nat → Option Ent} (hm : Mem c H w M ν) {f id : Nat} {as' : List AVal} {vs : List Value} (hv : VRs w M H ν as' vs) {K : OpK α} (h : callK E f as' id H K = some r)
    {R : Value → World → Prop} (hR : ∀ v rd ups v' w' M' ν', K v rd ups = some r → Tr c H w M ν (upsH H ups) w' M' ν' → VR w' M' (upsH H ups) ν' v v' → R v' w') :
    Does P f vs.toArray w R := by
  unfold callK at h
  split at h
  · cases h
  rename_i S hS
  have hok := hΓ f S (pickS_mem hS)
  obtain ⟨x, rd, uo, uf, io, H2, Hq, M2, h1, hA, hK, hargs, hi1, hi2⟩ := argsK_sound (ArgSt.start hm) hv h
  clear h
  simp only [List.nil_append, List.map_nil] at hA hi1 hi2
  obtain ⟨y, hy, h1⟩ := Option.bind_eq_some_iff.1 h1
  obtain ⟨hfree, h1⟩ := cond_inv h1
  have hfree := freeAll_inv hfree
  have hMeq : (fun b => (M2 b ∧ b ∉ hands S.args vs) ∨ b ∈ hands S.args vs) = M2 := by
    funext b
    refine propext ⟨fun h => h.elim (·.1) (hA.hM b), fun h => ?_⟩
    by_cases hb : b ∈ hands S.args vs
    · exact .inr hb
    · exact .inl ⟨h, hb⟩
  refine Does.mono (hok.call (fun b => M2 b ∧ b ∉ hands S.args vs) w vs x y (fun b hb => hA.mem.lim b hb.1) (by rw [hMeq]; exact hargs) hA.nd (fun b hb h => h.2 hb) hy) ?_
  rintro e w' ⟨us, M', rfl, hRR, hL, hnd, hn0⟩
  have hio' : ∀ b ∈ hands S.args vs, c.M0 b → M' b := by
    intro b hb h0
    obtain ⟨q, hq, hqb⟩ := hA.iob b hb h0
    exact hRR.blocks_mem b (hRR.io_mem (ν q.1) (by rw [← hi1]; exact List.mem_map_of_mem hq) b hqb)
  have hnew : ∀ b ∈ blocksR S.res us (iosOf S.args vs), w.heap.size ≤ b ∨ b ∈ hands S.args vs := by
    intro b hb
    rcases Nat.lt_or_ge b w.heap.size with hlt | hge
    · exact .inr ((hL.less b hlt (hRR.blocks_mem b hb)).resolve_left (hn0 b hb))
    · exact .inl hge
  have hprov : ∀ b ∈ blocksR S.res us (iosOf S.args vs), c.B ≤ b ∨ c.may b := fun b hb => (hnew b hb).elim (fun h => .inl (Nat.le_trans hm.size h)) (hA.prov b)
  have hM0 : ∀ b ∈ blocksR S.res us (iosOf S.args vs), c.M0 b → ∃ p ∈ iosOf S.args vs, blk p = some b := by
    intro b hb h0
    rcases hnew b hb with h' | h'
    · have := hm.lim0 b h0; have := hm.size; omega
    · obtain ⟨q, hq, hqb⟩ := hA.iob b h' h0
      exact ⟨ν q.1, by rw [← hi1]; exact List.mem_map_of_mem hq, hqb⟩
  -- with or without the freezing
  have key : ∀ (Hx : Nat → Option Ent) (Mx : Nat → Prop) (U : Ups), Mem c Hx w Mx ν → Keeps w M w Mx → (∀ b, M2 b → Mx b) → (∀ b ∈ hands S.args vs, ∀ i e, Hx i = some e → e.mut → blk (ν i) ≠ some b) →
      (∀ q ∈ io, Hx q.1 = some .gone) → (∀ i, i ∉ keys io → upsH H (uo ++ U) i = Hx i) → (∀ u ∈ uo ++ U, u.2 = some .gone ∨ ∃ e l, u.2 = some (.frz e l) ∧ H u.1 = some (.own e l)) → (∀ i ∈ keys (uo ++ U), i ∈ keys (uo ++ uf)) →
      RR w' (fun b => M' b ∨ (Mx b ∧ b ∉ hands S.args vs)) S.res y us (iosOf S.args vs) →
      ∃ ν', Tr c H w M ν (upsH H (uo ++ U ++ (resL S.res y id io).2.1)) w' (fun b => M' b ∨ (Mx b ∧ b ∉ hands S.args vs)) ν' ∧
        VRs w' (fun b => M' b ∨ (Mx b ∧ b ∉ hands S.args vs)) (upsH H (uo ++ U ++ (resL S.res y id io).2.1)) ν' (resL S.res y id io).1 us := by
    intro Hx Mx U hmx hkx hsub hno hgone hext hval hU hrr
    obtain ⟨hmem, hkeep⟩ := hmx.call (fun b hb => hsub b hb.1) (fun b hb => hsub b (hA.hM b hb)) hno hA.prov hio' hL
    have hx : ∀ i e, H i = some e → i ∉ keys io → ∃ e', Hx i = some e' ∧ e.like e' := by
      intro i e hi hki
      rw [← hext i hki]
      by_cases hk : i ∈ keys (uo ++ U)
      · obtain ⟨u, hu, hui, huv⟩ := upsH_mem (H := H) hk
        rw [huv]
        rcases hval u hu with h' | ⟨e1, l1, h', h''⟩
        · exact ⟨_, h', Ent.like_gone e⟩
        · rw [hui, hi] at h''; cases h''; exact ⟨_, h', rfl, rfl⟩
      · rw [upsH_not hk]; exact ⟨e, hi, .refl e⟩
    have hfr : ∀ i, id ≤ i → i < id + S.res.length → Hx i = none := by
      intro i h3 h4
      have h0 := hfree i h3 h4
      have hki : i ∉ keys io := fun hk => by
        obtain ⟨q, hq, hqe⟩ := List.mem_map.1 hk
        obtain ⟨_, _, z, hz⟩ := hA.iog q hq
        rw [hqe, h0] at hz; cases hz
      rw [← hext i hki]
      rw [upsH_not, h0]
      intro hk
      obtain ⟨_, e, l, h'⟩ := hA.ksn i (hU i hk)
      rw [h0] at h'; cases h'
    obtain ⟨ν', r1, r2, r3, r4, r5, r6⟩ := resL_sound (hs := hands S.args vs) (sz := w.heap.size) (id := id) (used := []) hmem hrr hi1.symm (by rw [← hok.ios, ← hi2]) hA.ion hgone hfr
      (fun i e b hi hmu hb => .inl ⟨hmx.lim b ((hmx.ent i e hi).memM hmu hb), fun hh => hno b hh i e hi hmu hb⟩) (by simpa using hnd) hnew hprov hM0
    have hHeq : upsH H (uo ++ U ++ (resL S.res y id io).2.1) = upsH Hx (resL S.res y id io).2.1 := by
      rw [upsH_append]
      refine upsH_congr fun i hi => ?_
      by_cases hki : i ∈ keys io
      · obtain ⟨q, hq, hqe⟩ := List.mem_map.1 hki
        obtain ⟨z, hz⟩ := r6 q hq
        rw [hqe, upsH_not hi, ← hqe, hgone q hq] at hz; cases hz
      · exact hext i hki
    refine ⟨ν', ⟨by rw [hHeq]; exact r1, hkx.trans hkeep, ⟨fun i e hi => ?_, fun i hi => ?_⟩⟩, by rw [hHeq]; exact r2⟩
    · rw [hHeq]
      by_cases hki : i ∈ keys io
      · obtain ⟨q, hq, hqe⟩ := List.mem_map.1 hki
        obtain ⟨z, hz⟩ := r6 q hq
        obtain ⟨_, _, z0, hz0⟩ := hA.iog q hq
        rw [hqe] at hz hz0
        rw [hi] at hz0; cases hz0
        exact ⟨_, hz, rfl⟩
      · obtain ⟨e', he', hl⟩ := hx i e hi hki
        have hr : i < id ∨ id + S.res.length ≤ i := by
          rcases Nat.lt_or_ge i id with h' | h'
          · exact .inl h'
          · rcases Nat.lt_or_ge i (id + S.res.length) with h'' | h''
            · rw [hfree i h' h''] at hi; cases hi
            · exact .inr h''
        exact ⟨e', by rw [r4 i hki hr]; exact he', hl⟩
    · refine r3 i ?_
      obtain ⟨e, he⟩ := Option.ne_none_iff_exists'.1 hi
      by_cases hki : i ∈ keys io
      · obtain ⟨q, hq, hqe⟩ := List.mem_map.1 hki
        rw [← hqe, hgone q hq]; simp
      · obtain ⟨e', he', _⟩ := hx i e he hki
        rw [he']; simp
  cases hq : S.quiet
  · -- with
    rw [hq] at h1
    have hMn : (fun b => M' b ∨ (M2 b ∧ b ∉ hands S.args vs)) = M' := by
      funext b
      exact propext ⟨fun h => h.elim (fun h => h) (hL.sub b), .inl⟩
    obtain ⟨ν', htr, hvr⟩ := key H2 M2 uf hA.mem hA.keep (fun _ h => h) (fun b hb i e hi hmu => hA.none b hb i e (hA.fz.mut hi hmu) hmu) (fun q hq => (hA.iog q hq).1) hA.ext
      (fun u hu => (List.mem_append.1 hu).elim (fun h => .inl (hA.uov u h)) (fun h => .inr (hA.ufv u h))) (fun _ h => h) (by rw [hMn]; exact hRR)
    exact hR _ _ _ _ _ _ _ h1 htr (packVR hvr)
  · rw [hq] at h1
    have hsub : ∀ b, M2 b → M b := fun b hb => hA.keep.less b (hA.mem.lim b hb) hb
    obtain ⟨ν', htr, hvr⟩ := key Hq M [] hA.memq (.refl w M) hsub hA.none (fun q hq => (hA.iog q hq).2.1) (by rw [List.append_nil]; exact hA.extq)
      (fun u hu => .inl (hA.uov u (by simpa using hu))) (fun i hi => by simp only [keys, List.append_nil, List.map_append, List.mem_append] at hi ⊢; exact .inl hi) (hRR.flat (fun b h => .inl h) (hok.quiet hq))
    exact hR _ _ _ _ _ _ _ h1 htr (packVR hvr)

theorem op_call (hΓ : ∀ f S, S ∈ E.Γ f → SumOk P f S) (hc : Core c σ a.tmps w M ν) {args : Array Operand} {ts : Array TypeId} {g : Operand} (ho : o.op = .call { callee := .value g, args, argTypes := ts }) {K : OpK α} {f : Nat} {caps : List AVal} (hg : σ.ρ g = .clo f caps) {id : Nat}
    (h : callK E f (args.toList.map σ.ρ ++ caps) id σ.H K = some r) (hn : Goes1 c σ a o w M ν K r next) : o.wp P a w next Q := by
  have hgv := hc.ev g
  rw [hg] at hgv
  simp only [VR] at hgv
  obtain ⟨cs, hgv, hcs⟩ := hgv
  have happ : ∀ {as1 : List AVal} {vs1 : List Value}, VRs w M σ.H ν as1 vs1 → VRs w M σ.H ν (as1 ++ caps) (vs1 ++ cs) := by
    intro as1
    induction as1 with
    | nil => intro vs1 h1; cases vs1 with
      | nil => exact hcs
      | cons _ _ => simp [VRs] at h1
    | cons x as1 ih => intro vs1 h1; cases vs1 with
      | nil => simp [VRs] at h1
      | cons v vs1 => simp only [VRs] at h1; simp only [List.cons_append, VRs]; exact ⟨h1.1, ih h1.2⟩
  have hd := callK_sound (P := P) hΓ hc.mem (happ (hc.evs args.toList)) h (R := fun v' w' => next (a.put o.dst v') w') (fun v rd ups v' w' M' ν' h1 h2 h3 => hn v rd ups v' w' M' ν' h1 h2 h3)
  have hex : (execOp a.eval o).run P w = (callFunc f (args.toList.map a.eval ++ cs).toArray).run P w := by
    have : (args.toList.map a.eval ++ cs).toArray = #[] ++ args.map a.eval ++ cs.toArray := by apply Array.ext'; simp
    rw [this]
    simp [execOp, ho, resolve, hgv, Deferred.ofValue, invoke]
  unfold Oper.wp
  rw [hex]
  exact hd o a next Q fun v w' hv => hv

end VM
end

section
/- The value machine, twenty-second text: any operation; an operation with its guard. -/
namespace VM
open Go
variable {P : Program} {E : Env} {o : Oper} {a : Act} {w : World} {M : Nat → Prop} {ν : Nat → Value} {σ : St} {c : Ctx} {α : Type} {r : α} {next : Act → World → Prop} {Q : Exit → Act → World → Prop}

structure EnvOk (P : Program) (E : Env) : Prop extends EnvTy P E where
  sums : ∀ f S, S ∈ E.Γ f → SumOk P f S
  mixed : P.follows .mixedOrders = true
  freshL : ∀ i L, E.cutL i = some L → VM.freshL L = true
  freshJ : ∀ i L, E.cutJ i = some L → VM.freshL L = true

theorem opK_sound (hE : EnvOk P E) (hc : Core c σ a.tmps w M ν) {K : OpK α} (h : opK E o σ.ρ σ.H K = some r) (hn : Goes1 c σ a o w M ν K r next) : o.wp P a w next Q := by
  have hT := hE.toEnvTy
  unfold opK at h
  simp only at h
  split at h
  · rename_i x ho; exact op_move hc (.inl ho) h hn
  · rename_i x ho; exact op_move hc (.inr ho) h hn
  · rename_i x y z ho
    split at h
    · rename_i t hx; exact op_pick hc ho hx h hn
    · cases h
  · rename_i t ho
    split at h
    · rename_i τ ht; exact op_alloc hT hc ho ht h hn
    · cases h
  · rename_i t x ho
    split at h
    · rename_i τ ht; exact op_box hT hc ho h hn
    · cases h
  · rename_i t ps ho
    split at h
    · rename_i n e ht; exact op_build_arr hT hc ho ht h hn
    · rename_i τ hna ht; exact op_build_struct hT hc ho ht (fun n e he => hna n e he) h hn
    · cases h
  · rename_i t n ps ho
    split at h
    · rename_i e ht; exact op_buildSlice hT hc ho ht h hn
    · cases h
  · rename_i t x ho
    split at h
    · rename_i τ ht; exact op_load hT hc ho ht h hn
    · cases h
  · rename_i t x y ho
    split at h
    · rename_i τ ht; exact op_store hT hc ho ht h hn
    · cases h
  · rename_i x ho
    split at h
    · rename_i id p hx; exact op_nilCheck_adr hc ho hx h hn
    · rename_i τ z hx; exact op_nilCheck_iadr hc ho hx h hn
    · cases h
  · rename_i b t x y t' ho; exact op_binOp hT hc ho h hn
  · rename_i u t x ho; exact op_unOp hc ho h hn
  · rename_i s d x ho
    split at h
    · rename_i τ k hs hd; exact op_convert hT hc ho hs hd h hn
    · cases h
  · rename_i f first caps ho; exact op_makeFunc hc ho h hn
  · rename_i t x y ho
    split at h
    · rename_i e ht; exact op_makeSlice hT hc ho ht h hn
    · cases h
  · rename_i t x lo hi mx ho
    split at h
    · rename_i τ ht; exact op_slice hT hc ho ht h hn
    · cases h
  · rename_i t x n ho
    split at h
    · rename_i τ ht
      split at h
      · rename_i id p hx; exact op_fieldAddr_adr hT hc ho ht hx h hn
      · rename_i υ z hx; exact op_fieldAddr_iadr hT hc ho ht hx h hn
      · cases h
    · cases h
  · rename_i t x n ho
    split at h
    · rename_i τ ht
      split at h
      · rename_i υ z hx; exact op_field hT hc ho ht hx h hn
      · cases h
    · cases h
  · rename_i t x i ho
    split at h
    · rename_i τ ht; exact op_indexAddr hT hc ho ht h hn
    · cases h
  · rename_i t x i ho
    split at h
    · rename_i τ ht; exact op_index hT hc ho ht h hn
    · cases h
  · rename_i x i ho
    split at h
    · rename_i vs hx
      split at h
      · rename_i v hv; exact op_extract hc ho hx hv h hn
      · cases h
    · cases h
  · rename_i cl ho
    obtain ⟨callee, args, ts⟩ := cl
    simp only at h
    split at h
    · split at h
      · rename_i x τ ha ht; exact op_len hT hc ho ha ht h hn
      · cases h
    · split at h
      · rename_i x y t t' ha ht
        split at h
        · rename_i e hte; exact op_append hT hc ho ha ht hte h hn
        · cases h
      · cases h
    · split at h
      · rename_i x xs ha; exact op_mm hc true ho ha h hn
      · cases h
    · split at h
      · rename_i x xs ha; exact op_mm hc false ho ha h hn
      · cases h
    · rename_i g
      split at h
      · rename_i f caps hg; exact op_call hE.sums hc ho hg h hn
      · cases h
    · cases h
  · cases h

end VM
end

section
/- The value machine, twenty-third text: regions in order, conditions, loops, code. -/
namespace VM
open Go
variable {P : Program} {E : Env} {o : Oper} {a : Act} {w : World} {M : Nat → Prop} {ν : Nat → Value} {σ : St} {c : Ctx} {α : Type} {r : α} {next : Act → World → Prop} {Q : Exit → Act → World → Prop}

theorem put_T_same (σ : St) (d : Nat) (v : AVal) : (σ.put d v).T d = v := by
  show cond (Nat.beq d d) v (σ.T d) = v
  rw [show Nat.beq d d = true from Nat.beq_refl d]; rfl
theorem put_T_ne (σ : St) {d i : Nat} (v : AVal) (h : i ≠ d) : (σ.put d v).T i = σ.T i := by
  show cond (Nat.beq i d) v (σ.T i) = σ.T i
  have : Nat.beq i d = false := by rw [← Bool.not_eq_true, Nat.beq_eq]; exact h
  rw [this]; rfl
theorem put_H (σ : St) (d : Nat) (v : AVal) : (σ.put d v).H = σ.H := rfl
theorem put_self (σ : St) (d : Nat) : σ.put d (σ.T d) = σ := by
  obtain ⟨T, H⟩ := σ
  unfold St.put
  congr 1
  funext i
  by_cases h : i = d
  · subst h; show cond (Nat.beq i i) (T i) (T i) = T i; cases Nat.beq i i <;> rfl
  · have : Nat.beq i d = false := by rw [← Bool.not_eq_true, Nat.beq_eq]; exact h
    rw [this]; rfl

theorem Core.tr {tm : Array Value} (h : Core c σ tm w M ν) {H' : Nat → Option Ent} {w' : World} {M' : Nat → Prop} {ν' : Nat → Value} (t : Tr c σ.H w M ν H' w' M' ν') : Core c ⟨σ.T, H'⟩ tm w' M' ν' :=
  ⟨t.mem, fun i => VR.keep t.keep t.goes (h.tmp i)⟩

theorem Core.putO {tm : Array Value} (h : Core c σ tm w M ν) {d : Option Nat} {x : AVal} {v : Value} {io : List Nat} (hd : dstOk tm.size io d = true) (hx : VR w M σ.H ν x v) (ds : List Deferred) :
    Core c (σ.putO d x) (({ tmps := tm, defers := ds } : Act).put d v).tmps w M ν := by
  cases d with
  | none => exact h
  | some d =>
    have hlt : d < tm.size := by simp only [dstOk, Bool.and_eq_true, Nat.blt_eq] at hd; exact hd.1
    refine ⟨h.mem, fun i => ?_⟩
    show VR w M σ.H ν ((σ.put d x).T i) ((tm.setIfInBounds d v).getD i undef)
    by_cases hi : i = d
    · subst hi
      rw [put_T_same]
      simp [Array.getD, hlt]
      exact hx
    · rw [put_T_ne _ _ hi]
      have := h.tmp i
      have he : (tm.setIfInBounds d v).getD i undef = tm.getD i undef := by
        rw [Array.getD_eq_getD_getElem?, Array.getD_eq_getD_getElem?, Array.getElem?_setIfInBounds_ne (Ne.symm hi)]
      rw [he]; exact this

def Inv (c : Ctx) (E : Env) (σ : St) (a : Act) (w : World) : Prop := (∃ M ν, Core c σ a.tmps w M ν) ∧ a.tmps.size = E.nt ∧ a.defers = [] ∧ ∀ i ∈ E.io, a.tmps.getD i undef = c.arg i

theorem put_size (a : Act) (d : Option Nat) (v : Value) : (a.put d v).tmps.size = a.tmps.size := by
  cases d <;> simp [Act.put]
theorem put_defers (a : Act) (d : Option Nat) (v : Value) : (a.put d v).defers = a.defers := by
  cases d <;> rfl

theorem put_arg {d : Option Nat} {v : Value} {io : List Nat} {n : Nat} (hd : dstOk n io d = true) {i : Nat} (hi : i ∈ io) : (a.put d v).tmps.getD i undef = a.tmps.getD i undef := by
  cases d with
  | none => rfl
  | some d =>
    simp only [dstOk, Bool.and_eq_true, List.all_eq_true] at hd
    have h1 := hd.2 i hi
    have hne : i ≠ d := by
      intro e; subst e
      simp at h1
    show (a.tmps.setIfInBounds d v).getD i undef = _
    rw [Array.getD_eq_getD_getElem?, Array.getD_eq_getD_getElem?, Array.getElem?_setIfInBounds_ne (Ne.symm hne)]

theorem Inv.bool (h : Inv c E σ a w) {x : Operand} {b : Bool} (hx : σ.ρ x = .val .bool b) : a.eval x = .bool b := by
  obtain ⟨⟨M, ν, hc⟩, _, _, _⟩ := h
  have := hc.ev x
  rw [hx] at this
  exact this.bool

/-- One operation, with what its guard says. -/
theorem stepK_sound (hE : EnvOk P E) {ops : Array Oper} (hI : Inv c E σ a w) {K : St → List Nat → List Nat → Option α} (h : stepK E ops.toList o σ K = some r)
    (hn : ∀ σ' a' w' rd wr, K σ' rd wr = some r → Inv c E σ' a' w' → next a' w') :
    if Region.wanted o (yielded ops a.tmps) then o.wp P a w next Q else next (a.put o.dst undef) w := by
  unfold stepK at h
  obtain ⟨hd, h⟩ := cond_inv h
  have hrun : opK E o σ.ρ σ.H (fun v rd ups => K ((σ.puts ups).putO o.dst v) rd (ups.map (·.1))) = some r → o.wp P a w next Q := by
    intro h
    obtain ⟨⟨M, ν, hc⟩, hs, hdef, harg⟩ := hI
    refine opK_sound hE hc h fun v rd ups v' w' M' ν' hK htr hV => ?_
    refine hn _ _ _ _ _ hK ⟨⟨M', ν', ?_⟩, by rw [put_size, hs], by rw [put_defers, hdef], fun i hi => (put_arg hd hi).trans (harg i hi)⟩
    have h1 := hc.tr htr
    have h2 : σ.puts ups = ⟨σ.T, upsH σ.H ups⟩ := by rw [← puts_H, ← puts_T ups σ]
    rw [h2]
    exact h1.putO (by rw [hs]; exact hd) hV a.defers
  have hskip : ∀ rd wr, K (σ.putO o.dst .und) rd wr = some r → next (a.put o.dst undef) w := by
    intro rd wr h
    obtain ⟨⟨M, ν, hc⟩, hs, hdef, harg⟩ := hI
    refine hn _ _ _ _ _ h ⟨⟨M, ν, hc.putO (by rw [hs]; exact hd) (by simp [VR]) a.defers⟩, by rw [put_size, hs], by rw [put_defers, hdef], fun i hi => (put_arg hd hi).trans (harg i hi)⟩
  simp only at h
  split at h
  · rename_i hg
    have : Region.wanted o (yielded ops a.tmps) = true := by simp [Region.wanted, hg]
    rw [if_pos this]
    exact hrun h
  · rename_i j want hg
    split at h
    · cases h
    · rename_i t ht
      have ht' : (ops[j]?).bind (·.dst) = some t := by rw [← Array.getElem?_toList]; exact ht
      have hy : ∀ b, σ.T t = .val .bool b → yielded ops a.tmps j = some b := by
        intro b hb
        obtain ⟨⟨M, ν, hc⟩, hs, _, _⟩ := hI
        have h1 := hc.tmp t
        rw [hb] at h1
        have h1 := h1.bool
        have h2 : a.tmps[t]? = some (.bool b) := by
          rw [Array.getD_eq_getD_getElem?] at h1
          cases h3 : a.tmps[t]? with
          | none => rw [h3] at h1; simp [undef] at h1
          | some v => rw [h3] at h1; simpa using h1
        simp [yielded, ht', h2]
      split at h
      · rename_i b hb
        have hself : σ.put t (.val .bool b) = σ := by rw [← hb]; exact put_self σ t
        have hw := hy b hb
        cases want <;> cases b
        · rw [if_pos (by simp [Region.wanted, hg, hw])]
          rw [hself] at h; exact hrun h
        · rw [if_neg (by simp [Region.wanted, hg, hw])]
          rw [hself] at h; exact hskip _ _ h
        · rw [if_neg (by simp [Region.wanted, hg, hw])]
          rw [hself] at h; exact hskip _ _ h
        · rw [if_pos (by simp [Region.wanted, hg, hw])]
          rw [hself] at h; exact hrun h
      · rename_i hb
        have hnot : ¬ Region.wanted o (yielded ops a.tmps) = true := by
          obtain ⟨⟨M, ν, hc⟩, hs, _, _⟩ := hI
          have h1 := hc.tmp t
          rw [hb] at h1
          simp only [VR] at h1
          have h2 : ∀ b, a.tmps[t]? ≠ some (.bool b) := by
            intro b hb'
            rw [Array.getD_eq_getD_getElem?, hb'] at h1
            simp [undef] at h1
          have h3 : yielded ops a.tmps j = none := by
            unfold yielded
            rw [ht']
            show (match a.tmps[t]? with | some (.bool b) => some b | _ => none) = none
            split
            · rename_i b hb'; exact absurd hb' (h2 b)
            · rfl
          simp [Region.wanted, hg, h3]
        rw [if_neg hnot]
        exact hskip _ _ h
      · cases h

theorem opsK_sound (hE : EnvOk P E) {ops : Array Oper} : ∀ (l : List Oper) (i : Nat) (σ : St) (lg : Log) (a : Act) (w : World) (K : St → Log → Option α), Inv c E σ a w → opsK E ops.toList l i σ lg K = some r →
    (∀ σ' lg' a' w', K σ' lg' = some r → Inv c E σ' a' w' → Q .normal a' w') → wpList P ops Q l a w
  | [], i, σ, lg, a, w, K, hI, h, hn => hn _ _ _ _ h hI
  | o :: l, i, σ, lg, a, w, K, hI, h, hn => by
    unfold opsK at h
    refine wpList_step fun K' hK' => ?_
    exact stepK_sound hE hI h fun σ' a' w' rd wr h' hI' => hK' _ _ (opsK_sound hE l (i + 1) σ' _ a' w' K hI' h' hn)

theorem condK_sound (hI : Inv c E σ a w) {x : Operand} {A B : St → Option α} (h : condK E x σ A B = some r) : ∃ b, a.eval x = .bool b ∧ (if b then A σ else B σ) = some r := by
  unfold condK at h
  split at h
  · rename_i b hb
    refine ⟨b, hI.bool hb, ?_⟩
    split at h
    · rename_i t
      have hb : σ.T t = .val .bool b := hb
      have hself : σ.put t (.val .bool b) = σ := by rw [← hb]; exact put_self σ t
      cases b
      · rw [hself] at h; exact h
      · rw [hself] at h; exact h
    · cases b <;> exact h
  · cases h

end VM
end

section
/- The value machine, twenty-fourth text: cuts. -/
namespace VM
open Go
variable {P : Program} {E : Env} {o : Oper} {a : Act} {w : World} {M : Nat → Prop} {ν : Nat → Value} {σ : St} {c : Ctx} {α : Type} {r : α} {next : Act → World → Prop} {Q : Exit → Act → World → Prop}

/-- Two rows of entries as one. -/
def mix {β : Type} (A B : Nat → β) : Nat → β := fun i => if i % 2 = 0 then A (i / 2) else B (i / 2)
theorem mix_l {β : Type} (A B : Nat → β) (i : Nat) : mix A B (2 * i) = A i := by
  unfold mix
  rw [if_pos (by omega), show 2 * i / 2 = i from by omega]
theorem mix_r {β : Type} (A B : Nat → β) (i : Nat) : mix A B (2 * i + 1) = B i := by
  unfold mix
  rw [if_neg (by omega), show (2 * i + 1) / 2 = i from by omega]
theorem mix_cases {β : Type} {A B A' B' : Nat → β} (hl : ∀ i, A i = A' i) (hr : ∀ i, B i = B' i) : mix A B = mix A' B' := by
  funext i; unfold mix; rw [hl, hr]
theorem updH_mix_l (A B : Nat → Option Ent) (i : Nat) (v : Option Ent) : updH (mix A B) (2 * i) v = mix (updH A i v) B := by
  funext k
  by_cases hk : k = 2 * i
  · subst hk; rw [updH_same, mix_l, updH_same]
  · rw [updH_ne _ _ hk]
    unfold mix
    by_cases h2 : k % 2 = 0
    · rw [if_pos h2, if_pos h2, updH_ne _ _ (by omega)]
    · rw [if_neg h2, if_neg h2]
theorem updH_mix_r (A B : Nat → Option Ent) (i : Nat) (v : Option Ent) : updH (mix A B) (2 * i + 1) v = mix A (updH B i v) := by
  funext k
  by_cases hk : k = 2 * i + 1
  · subst hk; rw [updH_same, mix_r, updH_same]
  · rw [updH_ne _ _ hk]
    unfold mix
    by_cases h2 : k % 2 = 0
    · rw [if_pos h2, if_pos h2]
    · rw [if_neg h2, if_neg h2, updH_ne _ _ (by omega)]
theorem updν_mix_r (A B : Nat → Value) (i : Nat) (v : Value) : updν (mix A B) (2 * i + 1) v = mix A (updν B i v) := by
  funext k
  unfold updν mix
  by_cases hk : k = 2 * i + 1
  · subst hk; rw [if_pos rfl, if_neg (by omega)]
    show v = if (2 * i + 1) / 2 = i then v else B ((2 * i + 1) / 2)
    rw [if_pos (by omega)]
  · rw [if_neg hk]
    by_cases h2 : k % 2 = 0
    · rw [if_pos h2, if_pos h2]
    · rw [if_neg h2, if_neg h2]
      show B (k / 2) = if k / 2 = i then v else B (k / 2)
      rw [if_neg (by omega)]

theorem Mem.left {H A : Nat → Option Ent} {νA : Nat → Value} (h : Mem c (mix H A) w M (mix ν νA)) : Mem c H w M ν :=
  ⟨fun i e hi => by have := h.ent (2 * i) e (by rw [mix_l]; exact hi); rwa [mix_l] at this,
   fun i j e e' b hij hi hm hj hm' => by have := h.dis (2 * i) (2 * j) e e' b (by omega) (by rw [mix_l]; exact hi) hm (by rw [mix_l]; exact hj) hm'; rwa [mix_l, mix_l] at this,
   fun i e b hi hm => by have := h.new (2 * i) e b (by rw [mix_l]; exact hi) hm; rwa [mix_l] at this,
   fun i e l b hi => by have := h.old (2 * i) e l b (by rw [mix_l]; exact hi); rwa [mix_l] at this,
   h.sub, h.lim, h.frame, h.size, h.lim0, h.os, h.tape, h.output⟩
theorem Mem.right {H A : Nat → Option Ent} {νA : Nat → Value} (h : Mem c (mix H A) w M (mix ν νA)) : Mem c A w M νA :=
  ⟨fun i e hi => by have := h.ent (2 * i + 1) e (by rw [mix_r]; exact hi); rwa [mix_r] at this,
   fun i j e e' b hij hi hm hj hm' => by have := h.dis (2 * i + 1) (2 * j + 1) e e' b (by omega) (by rw [mix_r]; exact hi) hm (by rw [mix_r]; exact hj) hm'; rwa [mix_r, mix_r] at this,
   fun i e b hi hm => by have := h.new (2 * i + 1) e b (by rw [mix_r]; exact hi) hm; rwa [mix_r] at this,
   fun i e l b hi => by have := h.old (2 * i + 1) e l b (by rw [mix_r]; exact hi); rwa [mix_r] at this,
   h.sub, h.lim, h.frame, h.size, h.lim0, h.os, h.tape, h.output⟩
theorem Mem.mixNone {H : Nat → Option Ent} (νA : Nat → Value) (h : Mem c H w M ν) : Mem c (mix H (fun _ => none)) w M (mix ν νA) := by
  have key : ∀ i e, mix H (fun _ => none) i = some e → ∃ j, i = 2 * j ∧ H j = some e := by
    intro i e hi
    unfold mix at hi
    by_cases h2 : i % 2 = 0
    · rw [if_pos h2] at hi; exact ⟨i / 2, by omega, hi⟩
    · rw [if_neg h2] at hi; cases hi
  refine ⟨fun i e hi => ?_, fun i j e e' b hij hi hm hj hm' => ?_, fun i e b hi hm => ?_, fun i e l b hi => ?_, h.sub, h.lim, h.frame, h.size, h.lim0, h.os, h.tape, h.output⟩
  · obtain ⟨j, rfl, hj⟩ := key i e hi; rw [mix_l]; exact h.ent j e hj
  · obtain ⟨i', rfl, hi'⟩ := key i e hi; obtain ⟨j', rfl, hj'⟩ := key j e' hj
    rw [mix_l, mix_l]; exact h.dis i' j' e e' b (by omega) hi' hm hj' hm'
  · obtain ⟨j, rfl, hj⟩ := key i e hi; rw [mix_l]; exact h.new j e b hj hm
  · obtain ⟨j, rfl, hj⟩ := key i _ hi; rw [mix_l]; exact h.old j e l b hj

theorem Goes.left {H A H' A' : Nat → Option Ent} {νA ν' νA' : Nat → Value} (g : Goes (mix H A) (mix ν νA) (mix H' A') (mix ν' νA')) : Goes H ν H' ν' :=
  ⟨fun i e hi => by obtain ⟨e', h1, h2⟩ := g.ent (2 * i) e (by rw [mix_l]; exact hi); rw [mix_l] at h1; exact ⟨e', h1, h2⟩,
   fun i hi => by have := g.head (2 * i) (by rw [mix_l]; exact hi); rwa [mix_l, mix_l] at this⟩
theorem Goes.right {H A H' A' : Nat → Option Ent} {νA ν' νA' : Nat → Value} (g : Goes (mix H A) (mix ν νA) (mix H' A') (mix ν' νA')) : Goes A νA A' νA' :=
  ⟨fun i e hi => by obtain ⟨e', h1, h2⟩ := g.ent (2 * i + 1) e (by rw [mix_r]; exact hi); rw [mix_r] at h1; exact ⟨e', h1, h2⟩,
   fun i hi => by have := g.head (2 * i + 1) (by rw [mix_r]; exact hi); rwa [mix_r, mix_r] at this⟩

/-- An entry moves over. -/
theorem Mem.move {H A : Nat → Option Ent} {νA : Nat → Value} (h : Mem c (mix H A) w M (mix ν νA)) {i j : Nat} {e : Ent} (hi : H i = some e) (hm : e.mut) (hj : A j = none) :
    Tr c (mix H A) w M (mix ν νA) (mix (updH H i (some .gone)) (updH A j (some e))) w M (mix ν (updν νA j (ν i))) := by
  have hg := Tr.gone h (2 * i)
  rw [updH_mix_l] at hg
  have h2 := Mem.adopt hg.mem (id := 2 * j + 1) (v := ν i) (e := e) (fun e' he' => by rw [mix_r, hj] at he'; cases he')
    (by have := h.ent (2 * i) e (by rw [mix_l]; exact hi); rwa [mix_l] at this)
    (fun b hb k e' hk hm' => by
      by_cases hk2 : k = 2 * i
      · subst hk2; rw [mix_l, updH_same] at hk; cases hk; simp [Ent.mut] at hm'
      · have hk3 : mix H A k = some e' := by
          have := congrFun (updH_mix_l H A i (some .gone)) k
          rw [updH_ne _ _ hk2] at this
          rw [this]; exact hk
        have := h.dis (2 * i) k e e' b (Ne.symm hk2) (by rw [mix_l]; exact hi) hm hk3 hm'
        rw [mix_l] at this
        exact this hb)
    (fun b hb => by have := h.new (2 * i) e b (by rw [mix_l]; exact hi) hm; rw [mix_l] at this; exact this hb)
    (fun b e0 l0 he hb => by subst he; have := h.old (2 * i) e0 l0 b (by rw [mix_l]; exact hi); rw [mix_l] at this; exact this hb)
  rw [updH_mix_r, updν_mix_r] at h2
  refine ⟨h2, .refl w M, ⟨fun k e' hk => ?_, fun k hk => ?_⟩⟩
  · by_cases h3 : k % 2 = 0
    · obtain ⟨k', rfl⟩ : ∃ k', k = 2 * k' := ⟨k / 2, by omega⟩
      rw [mix_l] at hk ⊢
      by_cases hki : k' = i
      · subst hki; exact ⟨.gone, updH_same _ _ _, Ent.like_gone _⟩
      · exact ⟨e', by rw [updH_ne _ _ hki]; exact hk, .refl e'⟩
    · obtain ⟨k', rfl⟩ : ∃ k', k = 2 * k' + 1 := ⟨k / 2, by omega⟩
      rw [mix_r] at hk ⊢
      have hki : k' ≠ j := fun e => by rw [e, hj] at hk; cases hk
      exact ⟨e', by rw [updH_ne _ _ hki]; exact hk, .refl e'⟩
  · by_cases h3 : k % 2 = 0
    · obtain ⟨k', rfl⟩ : ∃ k', k = 2 * k' := ⟨k / 2, by omega⟩
      rw [mix_l, mix_l]
    · obtain ⟨k', rfl⟩ : ∃ k', k = 2 * k' + 1 := ⟨k / 2, by omega⟩
      rw [mix_r] at hk
      rw [mix_r, mix_r]
      have hki : k' ≠ j := fun e => hk (e ▸ hj)
      simp [updν, hki]

/-- An empty slice comes in. -/
theorem Mem.fresh {H A : Nat → Option Ent} {νA : Nat → Value} (h : Mem c (mix H A) w M (mix ν νA)) {j : Nat} (hj : A j = none) (e : Ty) (ad : Option Addr) :
    Tr c (mix H A) w M (mix ν νA) (mix H (updH A j (some (.own e [])))) w M (mix ν (updν νA j (.slice ad 0 0))) := by
  have := Tr.nothing h (id := 2 * j + 1) (by rw [mix_r]; exact hj) e ad
  rw [updH_mix_r, updν_mix_r] at this
  exact this

/-- The state of a cut. -/
structure Cut (c : Ctx) (σ acc : St) (tm : Array Value) (w : World) (M : Nat → Prop) (ν νA : Nat → Value) : Prop where
  mem : Mem c (mix σ.H acc.H) w M (mix ν νA)
  src : ∀ i, VR w M σ.H ν (σ.T i) (tm.getD i undef)
  dst : ∀ i, VR w M acc.H νA (acc.T i) (tm.getD i undef)

theorem Cut.tr {acc : St} {tm : Array Value} {νA : Nat → Value} (h : Cut c σ acc tm w M ν νA) {H' A' : Nat → Option Ent} {M' : Nat → Prop} {νA' : Nat → Value} (t : Tr c (mix σ.H acc.H) w M (mix ν νA) (mix H' A') w M' (mix ν νA')) {s : Nat} {x : AVal} (hx : VR w M' A' νA' x (tm.getD s undef)) :
    Cut c ⟨σ.T, H'⟩ ⟨(acc.put s x).T, A'⟩ tm w M' ν νA' := by
  refine ⟨t.mem, fun i => VR.keep t.keep t.goes.left (h.src i), fun i => ?_⟩
  show VR w M' A' νA' ((acc.put s x).T i) _
  by_cases hi : i = s
  · subst hi; rw [put_T_same]; exact hx
  · rw [put_T_ne _ _ hi]; exact VR.keep t.keep t.goes.right (h.dst i)

theorem fresh_step {q : Nat × CM} {L : List (Nat × CM)} {A : Nat → Option Ent} (hF : freshL (q :: L) = true) (hN : ∀ p ∈ q :: L, A (16 * p.1 + 14) = none ∧ A (16 * p.1 + 15) = none) :
    freshL L = true ∧ (∀ p ∈ L, A (16 * p.1 + 14) = none ∧ A (16 * p.1 + 15) = none) ∧
      ∀ (d : Nat) (v : Option Ent), (d = 16 * q.1 + 14 ∨ d = 16 * q.1 + 15) → ∀ p ∈ L, updH A d v (16 * p.1 + 14) = none ∧ updH A d v (16 * p.1 + 15) = none := by
  unfold freshL at hF
  rw [Bool.and_eq_true, List.all_eq_true] at hF
  refine ⟨hF.2, fun p hp => hN p (List.mem_cons_of_mem _ hp), fun d v hd p hp => ?_⟩
  have hne : p.1 ≠ q.1 := fun e => by
    have := hF.1 p hp
    rw [e] at this
    simp at this
  obtain ⟨h1, h2⟩ := hN p (List.mem_cons_of_mem _ hp)
  exact ⟨by rw [updH_ne _ _ (by omega)]; exact h1, by rw [updH_ne _ _ (by omega)]; exact h2⟩

theorem canonK_sound {tm : Array Value} : ∀ (L : List (Nat × CM)) (σ acc : St) (M : Nat → Prop) (νA : Nat → Value) (K : St → Option α), Cut c σ acc tm w M ν νA → freshL L = true → (∀ q ∈ L, acc.H (16 * q.1 + 14) = none ∧ acc.H (16 * q.1 + 15) = none) → canonK L σ acc K = some r →
    ∃ acc' M' νA', K acc' = some r ∧ Core c acc' tm w M' νA'
  | [], σ, acc, M, νA, K, hC, _, _, h => ⟨acc, M, νA, h, hC.mem.right, hC.dst⟩
  | (s, .v τ) :: L, σ, acc, M, νA, K, hC, hF, hN, h => by
    obtain ⟨hF2, hN2, hup⟩ := fresh_step hF hN
    unfold canonK at h
    obtain ⟨y, rd, ups, h, hy⟩ := asVK_at hC.mem.left (hC.src s) h
    rcases hy with ⟨rfl, hV⟩ | ⟨id, e, l, rfl, hid, hV⟩
    · exact canonK_sound L σ _ M νA K (hC.tr (.refl hC.mem) (x := .val τ y) (by simp only [VR]; exact hV)) hF2 hN2 h
    · obtain ⟨M2, htr, _, hM2⟩ := Tr.freeze hC.mem (id := 2 * id) (by rw [mix_l]; exact hid)
      rw [updH_mix_l] at htr
      refine canonK_sound L _ _ M2 νA K (hC.tr htr (x := .val τ y) ?_) hF2 hN2 h
      simp only [VR]
      exact hV M2 (fun b => by rw [hM2 b, mix_l])
  | (s, .own e) :: L, σ, acc, M, νA, K, hC, hF, hN, h => by
    obtain ⟨hF2, hN2, hup⟩ := fresh_step hF hN
    unfold canonK at h
    have hs := hC.src s
    split at h
    · rename_i hT
      have hj := (hN _ List.mem_cons_self).1
      rw [hT] at hs
      obtain ⟨ad, hv⟩ := VR.emp.1 hs
      refine canonK_sound L σ _ M _ K (hC.tr (hC.mem.fresh hj e ad) (x := .ref (16 * s + 14)) ?_) hF2 (hup _ _ (.inl rfl)) h
      simp only [VR]
      exact ⟨by rw [updH_same]; simp, by rw [hv]; simp [updν]⟩
    · rename_i id hT
      rw [hT] at hs
      simp only [VR] at hs
      split at h
      · rename_i e' l hid
        obtain ⟨e1, h⟩ := castK_inv h
        cases e1
        have hj := (hN _ List.mem_cons_self).1
        refine canonK_sound L _ _ M _ K (hC.tr (hC.mem.move hid trivial hj) (x := .ref (16 * s + 14)) ?_) hF2 (hup _ _ (.inl rfl)) h
        simp only [VR]
        exact ⟨by rw [updH_same]; simp, by rw [hs.2]; simp [updν]⟩
      · cases h
    · cases h
  | (s, .obj τ) :: L, σ, acc, M, νA, K, hC, hF, hN, h => by
    obtain ⟨hF2, hN2, hup⟩ := fresh_step hF hN
    unfold canonK at h
    have hs := hC.src s
    split at h
    · rename_i id hT
      rw [hT] at hs
      split at h
      · rename_i υ x hid
        obtain ⟨e1, h⟩ := castK_inv h
        subst e1
        have hj := (hN _ List.mem_cons_self).1
        simp only [VR] at hs
        obtain ⟨e, he, har⟩ := hs
        rw [hid] at he; cases he
        simp only [AR] at har
        obtain ⟨_, b, hb, hv⟩ := har
        refine canonK_sound L _ _ M _ K (hC.tr (hC.mem.move hid trivial hj) (x := .adr (16 * s + 14) []) ?_) hF2 (hup _ _ (.inl rfl)) h
        simp only [VR]
        exact ⟨_, updH_same _ _ _, trivial, b, by simp [updν, hb], hv⟩
      · cases h
    · cases h
  | (s, .same s') :: L, σ, acc, M, νA, K, hC, hF, hN, h => by
    obtain ⟨hF2, hN2, hup⟩ := fresh_step hF hN
    unfold canonK at h
    split at h
    · rename_i i j j' h1 h2 h3
      obtain ⟨hb, h⟩ := cond_inv h
      have hb := Nat.eq_of_beq_eq_true hb
      have e1 := hC.src s
      have e2 := hC.src s'
      have e3 := hC.dst s'
      rw [h1] at e1; rw [h2] at e2; rw [h3] at e3
      simp only [VR] at e1 e2 e3
      refine canonK_sound L σ _ M νA K (hC.tr (.refl hC.mem) (x := .ref j') ?_) hF2 hN2 h
      simp only [VR]
      exact ⟨e3.1, by rw [e1.2, hb, ← e2.2, e3.2]⟩
    · cases h
  | (s, .io τ) :: L, σ, acc, M, νA, K, hC, hF, hN, h => by
    obtain ⟨hF2, hN2, hup⟩ := fresh_step hF hN
    unfold canonK at h
    have hs := hC.src s
    split at h
    · rename_i id hT
      rw [hT] at hs
      obtain ⟨_, h⟩ := cond_inv h
      split at h
      · rename_i υ x hid
        obtain ⟨e1, h⟩ := castK_inv h
        subst e1
        have hj := (hN _ List.mem_cons_self).2
        simp only [VR] at hs
        obtain ⟨e, he, har⟩ := hs
        rw [hid] at he; cases he
        simp only [AR] at har
        obtain ⟨_, b, hb, hv⟩ := har
        refine canonK_sound L _ _ M _ K (hC.tr (hC.mem.move hid trivial hj) (x := .adr (16 * s + 15) []) ?_) hF2 (hup _ _ (.inr rfl)) h
        simp only [VR]
        exact ⟨_, updH_same _ _ _, trivial, b, by simp [updν, hb], hv⟩
      · cases h
    · cases h
  | (s, .fn f τ) :: L, σ, acc, M, νA, K, hC, hF, hN, h => by
    obtain ⟨hF2, hN2, hup⟩ := fresh_step hF hN
    unfold canonK at h
    have hs := hC.src s
    split at h
    · rename_i f' cs hT
      rw [hT] at hs
      obtain ⟨hb, h1⟩ := cond_inv h
      clear h
      have hb := Nat.eq_of_beq_eq_true hb
      subst hb
      simp only [VR] at hs
      obtain ⟨us, hv, hvs⟩ := hs
      obtain ⟨y, rd, ups, h, hy⟩ := capsK_at hC.mem.left hvs h1
      split at h
      · refine canonK_sound L σ _ M νA K (hC.tr (.refl hC.mem) (x := .clo f (capsL τ y)) ?_) hF2 hN2 h
        simp only [VR]
        exact ⟨us, hv, VRs.free (hy rfl)⟩
      · cases h
    · cases h

theorem cutK_sound (hI : Inv c E σ a w) {L : Option (List (Nat × CM))} (hL : ∀ L', L = some L' → freshL L' = true) {K : St → Option α} (h : cutK L σ K = some r) : ∃ σ', K σ' = some r ∧ Inv c E σ' a w := by
  unfold cutK at h
  split at h
  · exact ⟨σ, h, hI⟩
  · have hfr := hL _ rfl
    obtain ⟨⟨M, ν, hc⟩, hs, hd⟩ := hI
    obtain ⟨acc', M', νA', hK, hcore⟩ := canonK_sound (tm := a.tmps) _ σ ⟨fun _ => .any, fun _ => none⟩ M (fun _ => undef) K ⟨hc.mem.mixNone _, hc.tmp, fun i => by simp [VR]⟩ hfr (fun _ _ => ⟨rfl, rfl⟩) h
    exact ⟨acc', hK, ⟨M', νA', hcore⟩, hs, hd⟩

end VM
end

