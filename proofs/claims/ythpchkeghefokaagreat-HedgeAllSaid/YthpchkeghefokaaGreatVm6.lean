/- A part of the proof of HedgeAll of layer 22: a machine that reads a function of the program as an equation between values. -/
import Derived.Test.YthpchkeghefokaaGreatVm5
import Derived.Laws.StructEq
import Derived.OpenShut
import Derived.ChangeShapes
import Derived.ChangeMaps5
import Derived.RowKit
import Derived.ChangeOld
import Derived.Carry
import Derived.Below
import Derived.Test.YthpchkeghefokaaGreatVm0
set_option linter.all false
section
/- The value machine, twenty-sixth text: code. -/
namespace VM
open Go
variable {P : Program} {E : Env} {o : Oper} {a : Act} {w : World} {M : Nat → Prop} {ν : Nat → Value} {σ : St} {c : Ctx} {α : Type} {r : α} {next : Act → World → Prop} {Q : Exit → Act → World → Prop}

theorem loopK_sound {L : Option (List (Nat × CM))} (hL : ∀ L', L = some L' → freshL L' = true) {b : Code} {Q : Exit → Act → World → Prop} {step : St → (St → Option α) → Option α}
    (hs : ∀ σ a w kn (Q' : Exit → Act → World → Prop), Inv c E σ a w → step σ kn = some r → (∀ σ' a' w', kn σ' = some r → Inv c E σ' a' w' → Q' .normal a' w') → (∀ e a' w', e ≠ .normal → Q e a' w' → Q' e a' w') → b.wp P Q' a w) :
    ∀ n σ a w, Inv c E σ a w → loopK L step n σ = some r → Code.rounds P b Q n a w
  | 0, σ, a, w, _, h => by cases h
  | n + 1, σ, a, w, hI, h => by
    rw [rounds_succ]
    refine hs σ a w _ _ hI h (fun σ' a' w' h' hI' => ?_) (fun e a' w' he hq => ?_)
    · obtain ⟨σ'', h'', hI''⟩ := cutK_sound hI' hL h'
      exact loopK_sound hL hs n σ'' a' w' hI'' h''
    · cases e <;> first | exact hq | exact absurd rfl he

theorem evC_sound (hE : EnvOk P E) : ∀ (cd : Code) (σ : St) (a : Act) (w : World) (k : St → Option α) (kx : Nat → St → Option α) (kr : St → Option α) (Q : Exit → Act → World → Prop), Inv c E σ a w → evC E cd σ k kx kr = some r →
    (∀ σ' a' w', k σ' = some r → Inv c E σ' a' w' → Q .normal a' w') → (∀ i σ' a' w', kx i σ' = some r → Inv c E σ' a' w' → Q (.exit i) a' w') → (∀ σ' a' w', kr σ' = some r → Inv c E σ' a' w' → Q .ret a' w') → cd.wp P Q a w := by
  intro cd
  induction cd with
  | skip => intro σ a w k kx kr Q hI h hk _ _; exact wp_skip (hk σ a w h hI)
  | region id ops draw => intro σ a w k kx kr Q hI h hk _ _; exact regionK_sound hE hI h hk
  | seq x y ihx ihy =>
    intro σ a w k kx kr Q hI h hk hx hr
    refine wp_seq (ihx σ a w _ kx kr _ hI h (fun σ' a' w' h' hI' => ?_) hx hr)
    obtain ⟨σ'', h'', hI''⟩ := cutK_sound hI' (fun L' hL => by
      cases hf : firstReg y with
      | none => rw [hf] at hL; cases hL
      | some i => rw [hf] at hL; exact hE.freshJ i L' hL) h'
    exact ihy σ'' a' w' k kx kr Q hI'' h'' hk hx hr
  | cond x t e iht ihe =>
    intro σ a w k kx kr Q hI h hk hx hr
    obtain ⟨b, hb, h⟩ := condK_sound (E := E) (A := fun σ' => evC E t σ' k kx kr) (B := fun σ' => evC E e σ' k kx kr) hI h
    refine wp_cond hb ?_
    cases b
    · exact ihe σ a w k kx kr Q hI h hk hx hr
    · exact iht σ a w k kx kr Q hI h hk hx hr
  | block id x ih =>
    intro σ a w k kx kr Q hI h hk hx hr
    refine wp_block (ih σ a w k _ kr _ hI h hk (fun i σ' a' w' h' hI' => ?_) hr)
    show if i = id then Q .normal a' w' else Q (.exit i) a' w'
    cases hb : Nat.beq i id
    · have hne : i ≠ id := fun e => by subst e; rw [show Nat.beq i i = true from Nat.beq_refl i] at hb; cases hb
      rw [hb] at h'
      rw [if_neg hne]
      exact hx i σ' a' w' h' hI'
    · rw [hb] at h'
      rw [if_pos (Nat.eq_of_beq_eq_true hb)]
      exact hk σ' a' w' h' hI'
  | loop b ih =>
    intro σ a w k kx kr Q hI h hk hx hr
    have hL : ∀ L', (firstReg b).bind E.cutL = some L' → freshL L' = true := fun L' hL => by
      cases hf : firstReg b with
      | none => rw [hf] at hL; cases hL
      | some i => rw [hf] at hL; exact hE.freshL i L' hL
    obtain ⟨σ', h', hI'⟩ := cutK_sound hI hL h
    refine wp_loop_rounds E.N (loopK_sound hL (fun σ a w kn Q' hI h hkn hq => ?_) E.N σ' a w hI' h')
    exact ih σ a w kn kx kr Q' hI h hkn (fun i σ' a' w' h' hI' => hq _ _ _ (by simp) (hx i σ' a' w' h' hI')) (fun σ' a' w' h' hI' => hq _ _ _ (by simp) (hr σ' a' w' h' hI'))
  | rangeFunc f ps x y ihx ihy => intro σ a w k kx kr Q hI h; cases h
  | exit id => intro σ a w k kx kr Q hI h hk hx hr; exact wp_exit (hx id σ a w h hI)
  | scope x ih =>
    intro σ a w k kx kr Q hI h hk hx hr
    exact wp_scope_straight (ih σ a w k kx kr _ hI h hk hx hr)
  | label l => intro σ a w k kx kr Q hI h hk _ _; exact wp_label (hk σ a w h hI)
  | goto l => intro σ a w k kx kr Q hI h; cases h
  | ret => intro σ a w k kx kr Q hI h hk hx hr; exact wp_ret (hr σ a w h hI)
  | refuse s => intro σ a w k kx kr Q hI h; cases h

end VM
end

section
/- The value machine, twenty-seventh text: a function. -/
namespace VM
open Go
variable {P : Program} {E : Env} {o : Oper} {a : Act} {w : World} {M : Nat → Prop} {ν : Nat → Value} {σ : St} {c : Ctx} {α : Type} {r : α} {next : Act → World → Prop} {Q : Exit → Act → World → Prop}

theorem entry_cons {m : AM} {ms : List AM} (x : HP (m :: ms)) (i : Nat) (σ : St) : entry (m :: ms) x i σ = entry ms (hpT x) (i + 1) (entry1 m (hpH x) i σ) := by
  cases ms with
  | nil => simp [entry, hpH]
  | cons n ms => simp [entry, hpH, hpT]

/-- A new entry over a block that is there. -/
theorem Core.adopt {tm : Array Value} (h : Core c σ tm w M ν) {id : Nat} {v : Value} {e : Ent} (hid : σ.H id = none) (her : ER w M v e)
    (hd : ∀ b, blk v = some b → ∀ i e', σ.H i = some e' → e'.mut → blk (ν i) ≠ some b) (hn : ∀ b, blk v = some b → c.B ≤ b ∨ c.may b) (ho : ∀ b e0 l0, e = .own e0 l0 → blk v = some b → ¬ c.M0 b)
    (hlk : ∀ τ x p j, e = .lnk τ x p j → updH σ.H id (some e) j ≠ none ∧ ∃ b, v = .pointer (some ⟨b, 0, none⟩) ∧ w.cell? ⟨b, offP p τ, none⟩ = some (updν ν id v j) := by intro _ _ _ _ h; cases h) :
    Core c ⟨σ.T, updH σ.H id (some e)⟩ tm w M (updν ν id v) := by
  have hm := Mem.adopt h.mem (id := id) (v := v) (e := e) (fun e' he' => by rw [hid] at he'; cases he') her hd hn ho (.inl hid) hlk
  refine h.tr ⟨hm, .refl w M, ⟨fun i e1 hi => ?_, fun i hi => ?_⟩⟩
  · have hii : i ≠ id := fun e => by rw [e, hid] at hi; cases hi
    exact ⟨e1, by rw [updH_ne _ _ hii]; exact hi, .refl e1⟩
  · have hii : i ≠ id := fun e => hi (e ▸ hid)
    simp [updν, hii]

theorem Core.put {tm : Array Value} (h : Core c σ tm w M ν) {d : Nat} {x : AVal} (hx : VR w M σ.H ν x (tm.getD d undef)) : Core c (σ.put d x) tm w M ν := by
  refine ⟨h.mem, fun i => ?_⟩
  by_cases hi : i = d
  · subst hi; rw [put_T_same]; exact hx
  · rw [put_T_ne _ _ hi]; exact h.tmp i

/-- The entry. -/
theorem entry_sound {tm : Array Value} : ∀ {ms : List AM} {x : HP ms} {vs : List Value} {i : Nat} {σ : St} {ν : Nat → Value} {used : List Nat}, Core c σ tm w M ν → ArgsR w M ms x vs → (∀ j v, vs[j]? = some v → tm.getD (i + j) undef = v) →
    (∀ j, 16 * i ≤ j → σ.H j = none) → (∀ j e b, σ.H j = some e → e.mut → blk (ν j) = some b → b ∈ used) → (used ++ hands ms vs).Nodup → (∀ b ∈ hands ms vs, c.may b) → (∀ b, c.may b → ¬ c.M0 b) →
    ∃ ν', Core c (entry ms x i σ) tm w M ν'
  | [], x, vs, i, σ, ν, used, h, _, _, _, _, _, _, _ => ⟨ν, h⟩
  | m :: ms, x, vs, i, σ, ν, used, h, hA, htm, hfree, hused, hnd, hmay, hM0 => by
    rw [entry_cons]
    simp only [ArgsR] at hA
    obtain ⟨v, vs', rfl, h1, h2⟩ := hA
    have hv : tm.getD i undef = v := by simpa using htm 0 v rfl
    have htm' : ∀ j u, vs'[j]? = some u → tm.getD (i + 1 + j) undef = u := fun j u hj => by
      have := htm (j + 1) u (by simpa using hj)
      rwa [show i + (j + 1) = i + 1 + j from by omega] at this
    have hid : σ.H (16 * i + 15) = none := hfree _ (by omega)
    have hhands : hands (m :: ms) (v :: vs') = hand1 m v ++ hands ms vs' := rfl
    rw [hhands] at hnd hmay
    have hfresh : ∀ b, b ∈ hand1 m v → ∀ j e', σ.H j = some e' → e'.mut → blk (ν j) ≠ some b := fun b hb j e' hj hm' hb' =>
      nodup_mid hnd (hused j e' b hj hm' hb') (List.mem_append_left _ hb)
    have hnext : ∀ {σ' : St} {ν' : Nat → Value}, Core c σ' tm w M ν' → (∀ j, 16 * (i + 1) ≤ j → σ'.H j = none) → (∀ j e b, σ'.H j = some e → e.mut → blk (ν' j) = some b → b ∈ used ++ hand1 m v) → ∃ ν'', Core c (entry ms (hpT x) (i + 1) σ') tm w M ν'' :=
      fun h' hf' hu' => entry_sound h' h2 htm' hf' hu' (by rw [List.append_assoc]; exact hnd) (fun b hb => hmay b (List.mem_append_right _ hb)) hM0
    have hupd : ∀ (e : Ent) (v' : Value), v' = v → (∀ b, blk v = some b → b ∈ hand1 m v) → (∀ j, 16 * (i + 1) ≤ j → updH σ.H (16 * i + 15) (some e) j = none) ∧
        (∀ j e1 b, updH σ.H (16 * i + 15) (some e) j = some e1 → e1.mut → blk (updν ν (16 * i + 15) v' j) = some b → b ∈ used ++ hand1 m v) := by
      rintro e v' rfl hb
      refine ⟨fun j hj => by rw [updH_ne _ _ (by omega)]; exact hfree j (by omega), fun j e1 b hj hm' hb' => ?_⟩
      by_cases hji : j = 16 * i + 15
      · subst hji
        simp only [updν, if_true] at hb'
        exact List.mem_append_right _ (hb b hb')
      · rw [updH_ne _ _ hji] at hj
        simp only [updν, hji, if_false] at hb'
        exact List.mem_append_left _ (hused j e1 b hj hm' hb')
    cases m with
    | v τ =>
      refine hnext (σ' := σ.put i (.val τ (hpH x))) (h.put ?_) (fun j hj => hfree j (by omega)) (fun j e b hj hm' hb' => List.mem_append_left _ (hused j e b hj hm' hb'))
      simp only [VR, hv]; exact h1
    | fn f τ =>
      refine hnext (σ' := σ.put i (.clo f (capsL τ (hpH x)))) (h.put ?_) (fun j hj => hfree j (by omega)) (fun j e b hj hm' hb' => List.mem_append_left _ (hused j e b hj hm' hb'))
      rw [hv]
      simp only [A1, VR] at h1 ⊢
      obtain ⟨us, hu, hus⟩ := h1
      exact ⟨us, hu, VRs.free hus⟩
    | own e =>
      have hbl : ∀ b, blk v = some b → b ∈ hand1 (.own e) v := fun b hb => by simp [hand1, hb]
      have hc := h.adopt hid (v := v) (e := .own e (hpH x)) h1 (fun b hb => hfresh b (hbl b hb)) (fun b hb => .inr (hmay b (List.mem_append_left _ (hbl b hb)))) (fun b _ _ _ hb => hM0 b (hmay b (List.mem_append_left _ (hbl b hb))))
      obtain ⟨hf', hu'⟩ := hupd (.own e (hpH x)) v rfl hbl
      refine hnext (σ' := (σ.put i (.ref (16 * i + 15))).putH (16 * i + 15) (some (.own e (hpH x)))) (ν' := updν ν (16 * i + 15) v) (hc.put (d := i) (x := .ref (16 * i + 15)) ?_) hf' hu'
      simp only [VR, hv]
      exact ⟨by rw [updH_same]; simp, by simp [updν]⟩
    | io τ =>
      have hbl : ∀ b, blk v = some b → b ∈ hand1 (.io τ) v := fun b hb => by simp [hand1, hb]
      have hc := h.adopt hid (v := v) (e := .obj τ (hpH x)) h1 (fun b hb => hfresh b (hbl b hb)) (fun b hb => .inr (hmay b (List.mem_append_left _ (hbl b hb)))) (fun b _ _ he => by cases he)
      obtain ⟨hf', hu'⟩ := hupd (.obj τ (hpH x)) v rfl hbl
      refine hnext (σ' := (σ.put i (.adr (16 * i + 15) [])).putH (16 * i + 15) (some (.obj τ (hpH x)))) (ν' := updν ν (16 * i + 15) v) (hc.put (d := i) (x := .adr (16 * i + 15) []) ?_) hf' hu'
      simp only [A1, ER] at h1
      obtain ⟨b, cs, t, hvb, _⟩ := h1
      simp only [VR, hv]
      exact ⟨_, updH_same _ _ _, trivial, b, by simp [updν, hvb], hvb⟩
    | adr τ =>
      refine hnext (σ' := σ.put i (.iadr τ (hpH x))) (h.put ?_) (fun j hj => hfree j (by omega)) (fun j e b hj hm' hb' => List.mem_append_left _ (hused j e b hj hm' hb'))
      rw [hv]
      simp only [A1, VR] at h1 ⊢
      exact h1
    | ptr τ =>
      refine hnext (σ' := σ) h (fun j hj => hfree j (by omega)) (fun j e b hj hm' hb' => List.mem_append_left _ (hused j e b hj hm' hb'))

/-- A result's own value. -/
def resSem (tm : Array Value) : ResultVar → Sem Value
  | .tmp t => pure (tm.getD t undef)
  | .cell x t => do loadVar t (← asAddr (tm.getD x undef))
def ResV (P : Program) (tm : Array Value) (w : World) (rv : ResultVar) (u : Value) : Prop := (resSem tm rv).run P w = .ok u w

def RsR (P : Program) (tm : Array Value) (w : World) : List (ResultVar ⊕ Nat) → List Value → List Value → Prop
  | [], us, ps => us = [] ∧ ps = []
  | .inl rv :: rs, us, ps => ∃ u us', us = u :: us' ∧ ResV P tm w rv u ∧ RsR P tm w rs us' ps
  | .inr i :: rs, us, ps => ∃ p ps', ps = p :: ps' ∧ p = tm.getD i undef ∧ RsR P tm w rs us ps'

theorem Core.keepAll {tm : Array Value} {H1 : Nat → Option Ent} {M1 : Nat → Prop} (h : ∀ i, VR w M σ.H ν (σ.T i) (tm.getD i undef)) (k : Keeps w M w M1) (g : Goes σ.H ν H1 ν) : ∀ i, VR w M1 H1 ν (σ.T i) (tm.getD i undef) :=
  fun i => VR.keep k g (h i)

theorem ret1K_sound (hE : EnvTy P E) {tm : Array Value} {H0 Hq : Nat → Option Ent} {M1 : Nat → Prop} {uo uf : Ups} {io : List (Nat × Ty)} {hs : List Nat} (h : ArgSt c w M ν H0 σ.H Hq M1 uo uf io hs) (ht : ∀ i, VR w M1 σ.H ν (σ.T i) (tm.getD i undef))
    {m : AM} {rs : ResultVar ⊕ Nat} {k : m.den → St → Option α} (hk : ret1K E m rs σ k = some r) :
    ∃ y σ' uo' uf' io' Hq2 M2 u, k y σ' = some r ∧ σ'.T = σ.T ∧ ArgSt c w M ν H0 σ'.H Hq2 M2 uo' uf' io' (hs ++ hand1 m u) ∧ Keeps w M1 w M2 ∧ Goes σ.H ν σ'.H ν ∧ A1 w M2 m y u ∧
      ((m.isIo = false ∧ m.isFn = false ∧ ∃ rv, rs = .inl rv ∧ ResV P tm w rv u) ∨ (m.isIo = true ∧ ∃ i, rs = .inr i ∧ u = tm.getD i undef)) := by
  unfold ret1K at hk
  split at hk
  · -- a value out of a temporary
    rename_i τ t k
    obtain ⟨y, rd, ups, hk, hy⟩ := asVK_at h.mem (ht t) hk
    have hres : ResV P tm w (.tmp t) (tm.getD t undef) := by simp [ResV, resSem]
    rcases hy with ⟨rfl, hV⟩ | ⟨id, e, l, rfl, hid, hV⟩
    · exact ⟨y, σ, uo, uf, io, Hq, M1, _, hk, rfl, by simpa [hand1] using h, .refl w M1, .refl _ ν, hV, .inl ⟨rfl, rfl, _, rfl, hres⟩⟩
    · obtain ⟨M2, hA, hK, hM2⟩ := h.freeze hid
      exact ⟨y, _, uo, _, io, Hq, M2, _, hk, rfl, (by simp only [hand1, List.append_nil]; exact hA), hK, .upd hid ⟨rfl, rfl⟩, hV M2 hM2, .inl ⟨rfl, rfl, _, rfl, hres⟩⟩
  · -- a value out of a variable
    rename_i τ x t k
    split at hk
    · rename_i τ' hty
      obtain ⟨e1, hk1⟩ := sameK_inv hk
      clear hk
      subst e1
      obtain ⟨υ, z, rd, hk, b, off, cs, hv, hat, hrd⟩ := loadK_sound h.mem (ht x) hk1
      obtain ⟨e2, hk2⟩ := castK_inv hk
      subst e2
      refine ⟨_, σ, uo, uf, io, Hq, M1, ofCells _ cs, hk2, rfl, by simpa [hand1] using h, .refl w M1, .refl _ ν, V.ofCells hrd, .inl ⟨rfl, rfl, _, rfl, ?_⟩⟩
      simp only [ResV, resSem, hv]
      simp [asAddr, run_loadVar (hE.ty t _ hty) hat hrd]
    · cases hk
  · -- a slice of one's own
    rename_i e t k
    have hv := ht t
    have hres : ResV P tm w (.tmp t) (tm.getD t undef) := by simp [ResV, resSem]
    split at hk
    · rename_i hT
      rw [hT] at hv
      obtain ⟨ad, hv⟩ := VR.emp.1 hv
      have hb : blk (.slice ad 0 0) = none := by cases ad <;> simp [blk]
      exact ⟨[], σ, uo, uf, io, Hq, M1, _, hk, rfl, by rw [hv]; simpa [hand1, hb] using h, .refl w M1, .refl _ ν, by rw [hv]; simp only [A1, ER]; exact .inl ⟨trivial, ad, rfl⟩, .inl ⟨rfl, rfl, _, rfl, hres⟩⟩
    · rename_i id hT
      rw [hT] at hv
      simp only [VR] at hv
      split at hk
      · rename_i e' l hid
        obtain ⟨e1, hk⟩ := castK_inv hk
        cases e1
        refine ⟨_, _, _, uf, io, _, M1, ν id, hk, rfl, (by simp only [hand1]; exact h.hand hid), .refl w M1, .upd hid (Ent.like_gone _), h.mem.ent id _ hid, .inl ⟨rfl, rfl, _, rfl, by rw [← hv.2]; exact hres⟩⟩
      · cases hk
    · cases hk
  · -- handed back
    rename_i τ i k
    have hv := ht i
    split at hk
    · rename_i id hT
      rw [hT] at hv
      split at hk
      · rename_i υ z hid
        obtain ⟨e1, hk⟩ := castK_inv hk
        subst e1
        simp only [VR] at hv
        obtain ⟨e, he, har⟩ := hv
        rw [hid] at he; cases he
        simp only [AR] at har
        obtain ⟨_, b, hb, hv⟩ := har
        have hvb : tm.getD i undef = ν id := by rw [hv, hb]; rfl
        refine ⟨_, _, uo, uf, _, _, M1, ν id, hk, rfl, (by simp only [hand1]; exact h.lend hid), .refl w M1, .upd hid (Ent.like_gone _), h.mem.ent id _ hid, .inr ⟨rfl, i, rfl, hvb.symm⟩⟩
      · cases hk
    · cases hk
  · -- a variable of one's own, by its pointer
    rename_i τ t k
    have hv := ht t
    have hres : ResV P tm w (.tmp t) (tm.getD t undef) := by simp [ResV, resSem]
    split at hk
    · rename_i id hT
      rw [hT] at hv
      split at hk
      · rename_i υ z hid
        obtain ⟨e1, hk⟩ := castK_inv hk
        subst e1
        simp only [VR] at hv
        obtain ⟨e, he, har⟩ := hv
        rw [hid] at he; cases he
        simp only [AR] at har
        obtain ⟨_, b, hb, hv⟩ := har
        have hvb : tm.getD t undef = ν id := by rw [hv, hb]; rfl
        refine ⟨_, _, uo, uf, _, _, M1, ν id, hk, rfl, (by simp only [hand1]; exact h.lend hid), .refl w M1, .upd hid (Ent.like_gone _), h.mem.ent id _ hid, .inl ⟨rfl, rfl, _, rfl, by rw [← hvb]; exact hres⟩⟩
      · cases hk
    · cases hk
  · cases hk

theorem retK_sound (hE : EnvTy P E) {tm : Array Value} {H0 : Nat → Option Ent} : ∀ {ms : List AM} {rs : List (ResultVar ⊕ Nat)} {σ : St} {Hq : Nat → Option Ent} {M1 : Nat → Prop} {uo uf : Ups} {io : List (Nat × Ty)} {hs : List Nat} {K : HP ms → Option α},
    ArgSt c w M ν H0 σ.H Hq M1 uo uf io hs → (∀ i, VR w M1 σ.H ν (σ.T i) (tm.getD i undef)) → retK E ms rs σ K = some r →
    ∃ y us ps H2 uo' uf' io' Hq2 M2, K y = some r ∧ ArgSt c w M ν H0 H2 Hq2 M2 uo' uf' io' (hs ++ blocksR ms us ps) ∧ Keeps w M1 w M2 ∧ RR w M2 ms y us ps ∧ RsR P tm w rs us ps
  | [], [], σ, Hq, M1, uo, uf, io, hs, K, h, ht, hk => ⟨(), [], [], σ.H, uo, uf, io, Hq, M1, hk, by simpa [blocksR] using h, .refl w M1, ⟨rfl, rfl⟩, ⟨rfl, rfl⟩⟩
  | [m], [q], σ, Hq, M1, uo, uf, io, hs, K, h, ht, hk0 => by
    obtain ⟨y, σ', uo', uf', io', Hq2, M2, u, hk, hT, hA, hK, hG, hy, hu⟩ := ret1K_sound hE h ht (hk0 : ret1K E m q σ _ = some r)
    clear hk0
    rcases hu with ⟨h1, h2, rv, rfl, hv⟩ | ⟨h1, i, rfl, hv⟩
    · refine ⟨y, [u], [], _, _, _, _, _, M2, hk, by simpa [blocksR, h1] using hA, hK, ?_, ?_⟩
      · simp only [RR]; exact .inr ⟨u, [], h1, h2, rfl, hy, by simp⟩
      · simp only [RsR]; exact ⟨u, [], rfl, hv, by simp⟩
    · refine ⟨y, [], [u], _, _, _, _, _, M2, hk, by simpa [blocksR, h1] using hA, hK, ?_, ?_⟩
      · simp only [RR]; exact .inl ⟨u, [], h1, rfl, hy, by simp⟩
      · simp only [RsR]; exact ⟨u, [], rfl, hv, by simp⟩
  | m :: n :: ms, q :: rs, σ, Hq, M1, uo, uf, io, hs, K, h, ht, hk0 => by
    obtain ⟨y, σ', uo', uf', io', Hq2, M2, u, hk1, hT, hA, hK, hG, hy, hu⟩ := ret1K_sound hE h ht (hk0 : ret1K E m q σ _ = some r)
    obtain ⟨ys, us, ps, H3, uo3, uf3, io3, Hq3, M3, hk, hA3, hK3, hys, hrs⟩ := retK_sound (ms := n :: ms) hE hA (fun i => by rw [hT]; exact Core.keepAll ht hK hG i) hk1
    have hkeep : A1 w M3 m y u := A1.keepV hK3 (fun b hb => ⟨rfl, hA3.hM b (List.mem_append_left _ (List.mem_append_right _ hb))⟩) hy
    clear hk0
    rcases hu with ⟨h1, h2, rv, rfl, hv⟩ | ⟨h1, i, rfl, hv⟩
    · refine ⟨(y, ys), u :: us, ps, H3, uo3, uf3, io3, Hq3, M3, hk, ?_, hK.trans hK3, ?_, ?_⟩
      · have : blocksR (m :: n :: ms) (u :: us) ps = hand1 m u ++ blocksR (n :: ms) us ps := by rw [blocksR]; simp [h1]
        rw [this, ← List.append_assoc]; exact hA3
      · rw [RR]; exact .inr ⟨u, us, h1, h2, rfl, hkeep, hys⟩
      · simp only [RsR]; exact ⟨u, us, rfl, hv, hrs⟩
    · refine ⟨(y, ys), us, u :: ps, H3, uo3, uf3, io3, Hq3, M3, hk, ?_, hK.trans hK3, ?_, ?_⟩
      · have : blocksR (m :: n :: ms) us (u :: ps) = hand1 m u ++ blocksR (n :: ms) us ps := by rw [blocksR]; simp [h1]
        rw [this, ← List.append_assoc]; exact hA3
      · rw [RR]; exact .inl ⟨u, ps, h1, rfl, hkeep, hys⟩
      · simp only [RsR]; exact ⟨u, ps, rfl, hv, hrs⟩
  | [], _ :: _, _, _, _, _, _, _, _, _, _, _, hk => by simp [retK] at hk
  | [_], [], _, _, _, _, _, _, _, _, _, _, hk => by simp [retK] at hk
  | [_], _ :: _ :: _, _, _, _, _, _, _, _, _, _, _, hk => by simp [retK] at hk
  | _ :: _ :: _, [], _, _, _, _, _, _, _, _, _, _, hk => by simp [retK] at hk

end VM
end

section
/- The value machine, twenty-eighth text: what the evaluator answers, the function answers. -/
namespace VM
open Go
variable {P : Program} {E : Env} {o : Oper} {a : Act} {w : World} {M : Nat → Prop} {ν : Nat → Value} {σ : St} {c : Ctx} {α : Type} {r : α} {next : Act → World → Prop} {Q : Exit → Act → World → Prop}

theorem rsR_split {tm : Array Value} : ∀ {rv : List ResultVar} {is : List (ResultVar ⊕ Nat)} {us ps : List Value}, RsR P tm w (rv.map .inl ++ is) us ps →
    ∃ us1 us2, us = us1 ++ us2 ∧ us1.length = rv.length ∧ (∀ i (h : i < rv.length) (h' : i < us1.length), ResV P tm w rv[i] us1[i]) ∧ RsR P tm w is us2 ps
  | [], is, us, ps, h => ⟨[], us, rfl, rfl, fun i h => by simp at h, h⟩
  | rv :: rvs, is, us, ps, h => by
    simp only [List.map_cons, List.cons_append, RsR] at h
    obtain ⟨u, us', rfl, h1, h2⟩ := h
    obtain ⟨us1, us2, rfl, hl, h3, h4⟩ := rsR_split h2
    refine ⟨u :: us1, us2, rfl, by simp [hl], fun i hi hi' => ?_, h4⟩
    cases i with
    | zero => exact h1
    | succ i => exact h3 i (by simpa using hi) (by simpa using hi')

theorem rsR_io {tm : Array Value} : ∀ {ms : List AM} {vs : List Value} {i : Nat} {us ps : List Value}, vs.length = ms.length → (∀ j v m, vs[j]? = some v → ms[j]? = some m → m.isIo = true → tm.getD (i + j) undef = v) → RsR P tm w (ioOf ms i) us ps → us = [] ∧ ps = iosOf ms vs
  | [], vs, i, us, ps, _, _, h => by simp only [ioOf, RsR] at h; simpa [iosOf] using h
  | m :: ms, [], _, _, _, hl, _, _ => by simp at hl
  | m :: ms, v :: vs, i, us, ps, hl, htm, h => by
    have htm' : ∀ j u m, vs[j]? = some u → ms[j]? = some m → m.isIo = true → tm.getD (i + 1 + j) undef = u := fun j u m hj hm hio => by
      have := htm (j + 1) u m (by simpa using hj) (by simpa using hm) hio
      rwa [show i + (j + 1) = i + 1 + j from by omega] at this
    have hl' : vs.length = ms.length := by simpa using hl
    cases m with
    | io τ =>
      simp only [ioOf, RsR] at h
      obtain ⟨p, ps', rfl, hp, h⟩ := h
      obtain ⟨h1, h2⟩ := rsR_io hl' htm' h
      refine ⟨h1, ?_⟩
      have := htm 0 v (.io τ) rfl rfl rfl
      simp only [Nat.add_zero] at this
      simp [iosOf, AM.isIo, h2, hp, this]
    | v τ =>
      obtain ⟨h1, h2⟩ := rsR_io hl' htm' (show RsR P tm w (ioOf ms (i + 1)) us ps from h)
      exact ⟨h1, by simp [iosOf, AM.isIo, h2]⟩
    | own τ =>
      obtain ⟨h1, h2⟩ := rsR_io hl' htm' (show RsR P tm w (ioOf ms (i + 1)) us ps from h)
      exact ⟨h1, by simp [iosOf, AM.isIo, h2]⟩
    | fn f τ =>
      obtain ⟨h1, h2⟩ := rsR_io hl' htm' (show RsR P tm w (ioOf ms (i + 1)) us ps from h)
      exact ⟨h1, by simp [iosOf, AM.isIo, h2]⟩
    | adr τ =>
      obtain ⟨h1, h2⟩ := rsR_io hl' htm' (show RsR P tm w (ioOf ms (i + 1)) us ps from h)
      exact ⟨h1, by simp [iosOf, AM.isIo, h2]⟩
    | ptr τ =>
      obtain ⟨h1, h2⟩ := rsR_io hl' htm' (show RsR P tm w (ioOf ms (i + 1)) us ps from h)
      exact ⟨h1, by simp [iosOf, AM.isIo, h2]⟩

theorem run_results {fn : Func} {tm : Array Value} {us : List Value} (hl : us.length = fn.results.toList.length) (h : ∀ i (h : i < fn.results.toList.length) (h' : i < us.length), ResV P tm w fn.results.toList[i] us[i]) :
    (results fn tm).run P w = .ok (packV us) w := by
  have key : ∀ (rs : List ResultVar) (us : List Value), us.length = rs.length → (∀ i (h : i < rs.length) (h' : i < us.length), ResV P tm w rs[i] us[i]) → (rs.mapM (resSem tm)).run P w = .ok us w := by
    intro rs
    induction rs with
    | nil => intro us hl _; cases us with
      | nil => simp
      | cons _ _ => simp at hl
    | cons r rs ih => intro us hl h; cases us with
      | nil => simp at hl
      | cons u us =>
        have h0 : (resSem tm r).run P w = .ok u w := h 0 (by simp) (by simp)
        have h1 := ih us (by simpa using hl) (fun i hi hi' => h (i + 1) (by simpa using hi) (by simpa using hi'))
        simp [List.mapM_cons, h0, h1]
  have h2 := key fn.results.toList us hl h
  have h3 : results fn tm = (do let vs ← fn.results.mapM (resSem tm); pure (if h : vs.size = 1 then vs[0] else .tuple vs)) := by
    unfold results
    congr 1
  rw [h3, Array.mapM_eq_mapM_toList]
  simp only [Sem.run_bind, Sem.run_map, h2]
  unfold packV
  by_cases h3 : us.length = 1
  · simp [h3]
  · simp [h3]

theorem evF_sound (hE : EnvOk P E) {f : FuncId} {fn : Func} (hf : P.funcs[f]? = some fn) (hnt : E.nt = fn.ntmps) {args res : List AM} (hio : ∀ i m, args[i]? = some m → m.isIo = true → i ∈ E.io) (hiot : ∀ i ∈ E.io, i < args.length) (hlen : args.length ≤ fn.ntmps)
    {M0 : Nat → Prop} {vs : List Value} {x : HP args} {y : HP res} (hlim : ∀ b, M0 b → b < w.heap.size) (hA : ArgsR w (fun b => M0 b ∨ b ∈ hands args vs) args x vs) (hnd : (hands args vs).Nodup) (hdis : ∀ b ∈ hands args vs, ¬ M0 b)
    (h : evF E fn args res x = some y) :
    Calls P f vs.toArray w fun e w' => ∃ v, e = .returned v ∧ ∃ us M', v = packV us ∧ RR w' M' res y us (iosOf args vs) ∧ Left w M0 (hands args vs) w' M' ∧ (blocksR res us (iosOf args vs)).Nodup ∧ ∀ b ∈ blocksR res us (iosOf args vs), ¬ M0 b := by
  unfold evF at h
  split at h
  · cases h
  rename_i cd hb
  simp only at h
  have hvl : ∀ {ms : List AM} {x : HP ms} {vs : List Value} {M : Nat → Prop}, ArgsR w M ms x vs → vs.length = ms.length := by
    intro ms
    induction ms with
    | nil => intro x vs M h; simp only [ArgsR] at h; subst h; rfl
    | cons m ms ih => intro x vs M h; simp only [ArgsR] at h; obtain ⟨v, vs', rfl, _, h⟩ := h; simp [ih h]
  have hvs := hvl hA
  let tm : Array Value := vs.toArray ++ Array.replicate (fn.ntmps - vs.toArray.size) undef
  have htm : ∀ j v, vs[j]? = some v → tm.getD j undef = v := by
    intro j v hj
    have hlt : j < vs.length := (List.getElem?_eq_some_iff.1 hj).1
    rw [Array.getD_eq_getD_getElem?, Array.getElem?_append_left (by simpa using hlt), List.getElem?_toArray, hj]; rfl
  have hsz : tm.size = fn.ntmps := by simp [tm]; omega
  -- the blocks that are handed over are there
  have hhb : ∀ {ms : List AM} {x : HP ms} {vs : List Value} {M : Nat → Prop}, ArgsR w M ms x vs → ∀ b ∈ hands ms vs, b < w.heap.size := by
    intro ms
    induction ms with
    | nil => intro x vs M h b hb; simp [hands] at hb
    | cons m ms ih =>
      intro x vs M h b hb
      simp only [ArgsR] at h
      obtain ⟨v, vs', rfl, h1, h⟩ := h
      simp only [hands, List.mem_append] at hb
      rcases hb with hb | hb
      · cases m with
        | v _ => simp [hand1] at hb
        | fn _ _ => simp [hand1] at hb
        | adr _ => simp [hand1] at hb
        | own e =>
          simp only [hand1, Option.mem_toList, A1, ER] at hb h1
          rcases h1 with ⟨_, a, hv⟩ | ⟨b', cs, t, cap, hv, hg, _⟩
          · rw [hv] at hb; cases a <;> simp [blk] at hb
          · rw [hv] at hb
            simp only [blk] at hb
            split at hb
            · cases hb
            · simp only [Option.some.injEq] at hb; subst hb; exact lt_of_block hg
        | io τ =>
          simp only [hand1, Option.mem_toList, A1, ER] at hb h1
          obtain ⟨b', cs, t, hv, hg, _⟩ := h1
          rw [hv] at hb
          simp only [blk, Option.some.injEq] at hb; subst hb; exact lt_of_block hg
        | ptr τ =>
          simp only [hand1, Option.mem_toList, A1, ER] at hb h1
          obtain ⟨b', cs, t, hv, hg, _⟩ := h1
          rw [hv] at hb
          simp only [blk, Option.some.injEq] at hb; subst hb; exact lt_of_block hg
      · exact ih h b hb
  let cx : Ctx := { B := w.heap.size, w0 := w, M0 := M0, may := fun b => b ∈ hands args vs, arg := fun i => tm.getD i undef }
  have hm0 : Mem cx (fun _ => none) w (fun b => M0 b ∨ b ∈ hands args vs) (fun _ => undef) :=
    ⟨fun i e hi => (by cases hi), fun i j e e' b _ hi => (by cases hi), fun i e b hi => (by cases hi), fun i e l b hi => (by cases hi), fun i τ x p j hi => (by cases hi), fun b hb => .inl hb, fun b hb => hb.elim (hlim b) (hhb hA b), fun _ _ _ => rfl, Nat.le_refl _, ⟨hlim, hdis⟩, rfl, rfl, rfl⟩
  have hc0 : Core cx ⟨fun _ => .any, fun _ => none⟩ tm w (fun b => M0 b ∨ b ∈ hands args vs) (fun _ => undef) := ⟨hm0, fun i => by simp [VR]⟩
  obtain ⟨ν', hc⟩ := entry_sound (i := 0) (used := []) hc0 hA (fun j v hj => by rw [Nat.zero_add]; exact htm j v hj) (fun _ _ => rfl) (fun j e b hj => by cases hj) (by simpa using hnd) (fun b hb => hb) (fun b hb => hdis b hb)
  have hI : Inv cx E (entry args x 0 ⟨fun _ => .any, fun _ => none⟩) { tmps := tm, defers := [] } w := ⟨⟨_, _, hc⟩, by rw [hnt, hsz], rfl, fun i _ => rfl⟩
  refine calls_of_wp hf hb ?_
  have hret : ∀ (σ' : St) (a' : Act) (w' : World), retK E res (fn.results.toList.map .inl ++ ioOf args 0) σ' some = some y → Inv cx E σ' a' w' →
      a'.defers = [] ∧ ∃ v, (results fn a'.tmps).run P w' = .ok v w' ∧ ∃ v', Ending.returned v = .returned v' ∧ ∃ us M', v' = packV us ∧ RR w' M' res y us (iosOf args vs) ∧ Left w M0 (hands args vs) w' M' ∧ (blocksR res us (iosOf args vs)).Nodup ∧ ∀ b ∈ blocksR res us (iosOf args vs), ¬ M0 b := by
    rintro σ' a' w' hk ⟨⟨M1, ν1, hc1⟩, hs1, hd1, harg⟩
    obtain ⟨y', us, ps, H2, uo, uf, io, Hq, M2, hy, hA2, hK, hRR, hRs⟩ := retK_sound (P := P) hE.toEnvTy (ArgSt.start hc1.mem) hc1.tmp hk
    cases hy
    obtain ⟨us1, us2, rfl, hl, hv, hio2⟩ := rsR_split hRs
    obtain ⟨rfl, hps⟩ := rsR_io (vs := vs) hvs (fun j v m hj hm hmio => by
      rw [Nat.zero_add]
      rw [harg j (hio j m hm hmio)]
      exact htm j v hj) hio2
    rw [List.append_nil] at *
    subst hps
    simp only [List.nil_append] at hA2
    have hprov : ∀ b ∈ blocksR res us1 (iosOf args vs), b < w.heap.size → b ∈ hands args vs := fun b hb hlt => (hA2.prov b hb).elim (fun h' => absurd hlt (Nat.not_lt.2 h')) (fun h => h)
    have hkeep : Keeps w' M2 w' (fun b => M2 b ∧ (b < w.heap.size → M0 b ∨ b ∈ hands args vs)) := ⟨Nat.le_refl _, fun _ _ _ => rfl, fun _ _ h => h.1⟩
    refine ⟨hd1, packV us1, run_results hl hv, _, rfl, us1, fun b => M2 b ∧ (b < w.heap.size → M0 b ∨ b ∈ hands args vs), rfl, RR.keepV hkeep (fun b hb => ⟨rfl, hRR.blocks_mem b hb, fun hlt => .inr (hprov b hb hlt)⟩) hRR, ⟨fun b hb => ⟨hA2.mem.sub b hb, fun _ => .inl hb⟩, fun b hb => hA2.mem.lim b hb.1, fun b hlt hb => hb.2 hlt, fun b hlt hb => hA2.mem.frame b hlt hb, hA2.mem.size, hA2.mem.os, hA2.mem.tape, hA2.mem.output⟩, hA2.nd, fun b hb h0 => ?_⟩
    rcases hA2.prov b hb with h' | h'
    · exact absurd (hlim b h0) (Nat.not_lt.2 h')
    · exact hdis b h' h0
  refine evC_sound (c := cx) hE cd _ _ w _ _ _ _ hI h (fun σ' a' w' hk hI' => ?_) (fun i σ' a' w' hk => by cases hk) (fun σ' a' w' hk hI' => ?_)
  · exact hret σ' a' w' hk hI'
  · exact hret σ' a' w' hk hI'

/-- A summary that the evaluator bears out. -/
theorem sumOk_of (hE : EnvOk P E) {f : FuncId} {fn : Func} (hf : P.funcs[f]? = some fn) (hname : (fn.name == "runtime.NumGoroutine") = false) (hnt : E.nt = fn.ntmps) (S : Summ)
    (hio : ∀ i m, S.args[i]? = some m → m.isIo = true → i ∈ E.io) (hiot : ∀ i ∈ E.io, i < S.args.length) (hlen : S.args.length ≤ fn.ntmps) (hq : S.quiet = true → S.res.all AM.flat = true) (hios : ioTys S.args = ioTys S.res)
    (hrun : ∀ x, evF E fn S.args S.res x = S.run x) : SumOk P f S := by
  refine ⟨hq, hios, fun M0 w vs x y hlim hA hnd hdis hy => ?_⟩
  have hb : fn.body.isNone = false := by
    have := hrun x
    rw [hy] at this
    unfold evF at this
    split at this
    · cases this
    · rename_i cd hcd; rw [hcd]; rfl
  exact does_of_calls hf hname hb (evF_sound hE hf hnt hio hiot hlen hlim hA hnd hdis (by rw [hrun, hy]))

end VM
end

section
/- The value machine, twenty-ninth text: a program's types, checked by a run in the kernel. -/
namespace VM
open Go
variable {P : Program}

/-- Takes a shape's zero cells off a list's front. -/
def eatZ : Ty → List Value → Option (List Value)
  | .int k, v :: r => match v with
    | .int k' n => if k' = k ∧ n = 0 then some r else none
    | _ => none
  | .bool, v :: r => match v with
    | .bool false => some r
    | _ => none
  | .str, v :: r => match v with
    | .string s => if s.data.size = 0 then some r else none
    | _ => none
  | .slice _, v :: r => match v with
    | .slice none n m => if n = 0 ∧ m = 0 then some r else none
    | _ => none
  | .unit, r => some r
  | .pair a b, r => match eatZ a r with
    | some r => eatZ b r
    | none => none
  | .arr n e, r => Nat.rec (motive := fun _ => List Value → Option (List Value)) (fun r => some r) (fun _ ih r => match eatZ e r with
    | some r => ih r
    | none => none) n r
  | _, [] => none

theorem eatZ_ok : ∀ {τ : Ty} {l r : List Value}, eatZ τ l = some r → l = τ.zcells ++ r
  | .int k, [], _, h | .bool, [], _, h | .str, [], _, h | .slice _, [], _, h => by simp [eatZ] at h
  | .int k, v :: l, r, h => by
    simp only [eatZ] at h
    split at h
    · split at h
      · rename_i hc; obtain ⟨rfl, rfl⟩ := hc; cases h; rfl
      · cases h
    · cases h
  | .bool, v :: l, r, h => by
    simp only [eatZ] at h
    split at h
    · cases h; rfl
    · cases h
  | .str, v :: l, r, h => by
    simp only [eatZ] at h
    split at h
    · rename_i s
      split at h
      · rename_i hs
        cases h
        have : s = ByteArray.empty := by
          obtain ⟨d⟩ := s
          have : d = #[] := Array.eq_empty_of_size_eq_zero hs
          subst this; rfl
        subst this; rfl
      · cases h
    · cases h
  | .slice _, v :: l, r, h => by
    simp only [eatZ] at h
    split at h
    · split at h
      · rename_i hc; obtain ⟨rfl, rfl⟩ := hc; cases h; rfl
      · cases h
    · cases h
  | .unit, l, r, h => by simp only [eatZ] at h; cases h; rfl
  | .pair a b, l, r, h => by
    simp only [eatZ] at h
    split at h
    · rename_i r1 h1
      rw [eatZ_ok h1, eatZ_ok h]; simp [Ty.zcells]
    · cases h
  | .arr n e, l, r, h => by
    simp only [eatZ] at h
    simp only [Ty.zcells]
    induction n generalizing l with
    | zero => cases h; rfl
    | succ n ih =>
      simp only at h
      split at h
      · rename_i r1 h1
        rw [eatZ_ok h1, ih _ h]; simp [List.replicate_succ]
      · cases h

def baseB (P : Program) (τ : Ty) (t : TypeId) : Bool :=
  match P.info? t with
  | none => false
  | some i => Nat.beq i.size τ.size && Nat.ble i.bytes 2048 && (match i.zero with
    | none => false
    | some z => match τ.isAgg, z with
      | true, .agg cs => (match eatZ τ cs.toList with | some [] => true | _ => false)
      | false, z => (match eatZ τ [z] with | some [] => true | _ => false)
      | _, _ => false)

theorem baseB_ok {τ : Ty} {t : TypeId} (h : baseB P τ t = true) : Base P τ t := by
  unfold baseB at h
  split at h
  · cases h
  · rename_i i hi
    simp only [Bool.and_eq_true, Nat.ble_eq] at h
    obtain ⟨⟨h1, h2⟩, h3⟩ := h
    refine ⟨i, hi, Nat.eq_of_beq_eq_true h1, ?_, h2⟩
    split at h3
    · cases h3
    · rename_i z hz
      rw [hz]
      split at h3
      · rename_i _ cs ha
        split at h3
        · rename_i he
          have := eatZ_ok he
          unfold ofCells
          rw [if_pos ha, ← List.append_nil τ.zcells, ← this]
        · cases h3
      · rename_i ha
        split at h3
        · rename_i he
          have := eatZ_ok he
          unfold ofCells
          rw [if_neg (by rw [ha]; exact Bool.false_ne_true), ← List.append_nil τ.zcells, ← this]; rfl
        · cases h3
      · cases h3

def layB (P : Program) : Ty → TypeId ⊕ (Array Field × Nat × Nat) → Bool
  | .int k, .inl t => baseB P (.int k) t && (match P.underlying t with | some (.int k') => decide (k' = k) | _ => false)
  | .bool, .inl t => baseB P .bool t && (match P.underlying t with | some .bool => true | _ => false)
  | .str, .inl t => baseB P .str t && (match P.underlying t with | some .string => true | _ => false)
  | .slice e, .inl t => baseB P (.slice e) t && (match P.underlying t with | some (.slice e') => layB P e (.inl e') | _ => false)
  | .arr n e, .inl t => baseB P (.arr n e) t && (match P.underlying t with | some (.array n' e') => Nat.beq n' n && layB P e (.inl e') | _ => false)
  | .unit, .inl t => baseB P .unit t && (match P.underlying t with | some (.struct fs) => Nat.beq fs.size 0 | _ => false)
  | .unit, .inr q => Nat.beq q.1.size q.2.1
  | .pair a b, .inl t => baseB P (.pair a b) t && (match P.underlying t with
    | some (.struct fs) => (match fs[0]? with
      | some f => Nat.beq f.offset 0 && (layB P a (.inl f.type) && layB P b (.inr (fs, 1, a.size)))
      | none => false)
    | _ => false)
  | .pair a b, .inr q => (match q.1[q.2.1]? with
    | some f => Nat.beq f.offset q.2.2 && (layB P a (.inl f.type) && layB P b (.inr (q.1, q.2.1 + 1, q.2.2 + a.size)))
    | none => false)
  | _, .inr _ => false

theorem layB_ok : ∀ {τ : Ty} {x : TypeId ⊕ (Array Field × Nat × Nat)}, layB P τ x = true → LayG P τ x
  | .int k, .inl t, h => by
    simp only [layB, Bool.and_eq_true] at h
    refine ⟨baseB_ok h.1, ?_⟩
    have h := h.2
    split at h
    · rename_i k' hu; rw [hu, of_decide_eq_true h]
    · cases h
  | .bool, .inl t, h => by
    simp only [layB, Bool.and_eq_true] at h
    refine ⟨baseB_ok h.1, ?_⟩
    have h := h.2
    split at h
    · rename_i hu; exact hu
    · cases h
  | .str, .inl t, h => by
    simp only [layB, Bool.and_eq_true] at h
    refine ⟨baseB_ok h.1, ?_⟩
    have h := h.2
    split at h
    · rename_i hu; exact hu
    · cases h
  | .slice e, .inl t, h => by
    simp only [layB, Bool.and_eq_true] at h
    refine ⟨baseB_ok h.1, ?_⟩
    have h := h.2
    split at h
    · rename_i e' hu; exact ⟨e', hu, layB_ok h⟩
    · cases h
  | .arr n e, .inl t, h => by
    simp only [layB, Bool.and_eq_true] at h
    refine ⟨baseB_ok h.1, ?_⟩
    have h := h.2
    split at h
    · rename_i n' e' hu
      simp only [Bool.and_eq_true] at h
      obtain ⟨h0, h⟩ := h
      rw [Nat.eq_of_beq_eq_true h0] at hu
      exact ⟨e', hu, layB_ok h⟩
    · cases h
  | .unit, .inl t, h => by
    simp only [layB, Bool.and_eq_true] at h
    refine ⟨baseB_ok h.1, ?_⟩
    have h := h.2
    split at h
    · rename_i fs hu; exact ⟨fs, hu, Nat.eq_of_beq_eq_true h⟩
    · cases h
  | .unit, .inr (fs, n, o), h => by simp only [layB] at h; exact Nat.eq_of_beq_eq_true h
  | .pair a b, .inl t, h => by
    simp only [layB, Bool.and_eq_true] at h
    refine ⟨baseB_ok h.1, ?_⟩
    have h := h.2
    split at h
    · rename_i fs hu
      split at h
      · rename_i f hf
        simp only [Bool.and_eq_true] at h
        exact ⟨fs, f, hu, hf, Nat.eq_of_beq_eq_true h.1, layB_ok h.2.1, layB_ok h.2.2⟩
      · cases h
    · cases h
  | .pair a b, .inr (fs, n, o), h => by
    simp only [layB] at h
    split at h
    · rename_i f hf
      simp only [Bool.and_eq_true] at h
      exact ⟨f, hf, Nat.eq_of_beq_eq_true h.1, layB_ok h.2.1, layB_ok h.2.2⟩
    · cases h
  | .int _, .inr _, h | .bool, .inr _, h | .str, .inr _, h | .slice _, .inr _, h | .arr _ _, .inr _, h => by simp [layB] at h

/-- '==' at a struct goes through its fields. -/
def eqTyB (P : Program) : Ty → TypeId ⊕ (Array Field × Nat) → Bool
  | .int _, .inl _ | .bool, .inl _ | .str, .inl _ => true
  | .unit, .inl t => !P.stoodInHeld t
  | .unit, .inr _ => true
  | .pair a b, .inl t => !P.stoodInHeld t && (match P.underlying t with
    | some (.struct fs) => (match fs[0]? with
      | some f => f.name != "_" && (eqTyB P a (.inl f.type) && eqTyB P b (.inr (fs, 1)))
      | none => false)
    | _ => false)
  | .pair a b, .inr q => (match q.1[q.2]? with
    | some f => f.name != "_" && (eqTyB P a (.inl f.type) && eqTyB P b (.inr (q.1, q.2 + 1)))
    | none => false)
  | _, _ => false

def Ty.deep : Ty → Nat
  | .pair a b => a.deep + b.deep + 1
  | _ => 1

theorem V.ofC {w : World} {M : Nat → Prop} {τ : Ty} {cs : List Value} {x : τ.den} (h : Rd w M τ cs x) : V w M τ (VM.ofCells τ cs) x := V.ofCells h

mutual
theorem eq_sound {w : World} {M : Nat → Prop} : ∀ {τ : Ty} {t : TypeId} {u v : Value} {x y : τ.den} {d : Nat}, Lay P τ t → eqTyB P τ (.inl t) = true → V w M τ u x → V w M τ v y → τ.deep ≤ d → (Op.equalIn d t u v).run P w = .ok (teq τ x y) w
  | .int k, t, u, v, x, y, d + 1, hl, _, hx, hy, _ => by
    simp only [V, Ty.isAgg, Bool.false_eq_true, if_false, Rd, List.cons.injEq, and_true] at hx hy
    subst hx; subst hy
    rw [run_equalIn_int w d t k k _ _ hl.int]; simp only [teq, eqB_eq]; congr 1
  | .bool, t, u, v, x, y, d + 1, hl, _, hx, hy, _ => by
    simp only [V, Ty.isAgg, Bool.false_eq_true, if_false, Rd, List.cons.injEq, and_true] at hx hy
    subst hx; subst hy
    rw [run_equalIn_bool w d t _ _ hl.bool]; simp only [teq]
  | .str, t, u, v, x, y, d + 1, hl, _, hx, hy, _ => by
    simp only [V, Ty.isAgg, Bool.false_eq_true, if_false, Rd, List.cons.injEq, and_true] at hx hy
    subst hx; subst hy
    rw [run_equalIn_string w d t _ _ hl.str]; simp only [teq, strEq_eq]; congr 1; rw [Bool.eq_iff_iff]; simp
  | .slice _, _, _, _, _, _, _, _, h, _, _, _ | .arr _ _, _, _, _, _, _, _, _, h, _, _, _ => by simp [eqTyB] at h
  | .unit, t, u, v, x, y, d + 1, hl, he, hx, hy, _ => by
    simp only [V, Ty.isAgg, if_true] at hx hy
    obtain ⟨cs, rfl, _⟩ := hx
    obtain ⟨cs', rfl, _⟩ := hy
    simp only [Lay, LayG] at hl
    obtain ⟨_, fs, hu, h0⟩ := hl
    have hfs : P.fieldsOf t = fs := by simp [Program.fieldsOf, hu]
    rw [run_equalIn_struct w d t cs cs' (by rw [hfs]; exact hu) (by simpa [eqTyB] using he), hfs]
    have : fs.toList = [] := by rw [← List.length_eq_zero_iff, Array.length_toList]; exact h0
    rw [this]; simp [Op.eqFields, teq]
  | .pair a b, t, u, v, x, y, d + 1, hl, he, hx, hy, hd => by
    simp only [V, Ty.isAgg, if_true] at hx hy
    obtain ⟨cs, rfl, hx⟩ := hx
    obtain ⟨cs', rfl, hy⟩ := hy
    simp only [Lay, LayG] at hl
    obtain ⟨_, fs, f, hu, hf, ho, hla, hlb⟩ := hl
    have hfs : P.fieldsOf t = fs := by simp [Program.fieldsOf, hu]
    simp only [eqTyB, hu, hf, Bool.and_eq_true] at he
    rw [run_equalIn_struct w d t cs cs' (by rw [hfs]; exact hu) (by simpa using he.1), hfs]
    have h0 : fs.toList = f :: fs.toList.drop 1 := by
      have h1 := List.drop_eq_getElem_cons (l := fs.toList) (i := 0) (by rw [Array.length_toList]; exact (Array.getElem?_eq_some_iff.1 hf).1)
      rw [List.drop_zero] at h1
      rw [h1]; congr 1
      rw [Array.getElem_toList]; exact (Array.getElem?_eq_some_iff.1 hf).2
    simp only [Ty.deep] at hd
    rw [h0]
    have hx' : Rd w M (.pair a b) (cs.toList.drop 0) x := by rw [List.drop_zero]; exact hx
    have hy' : Rd w M (.pair a b) (cs'.toList.drop 0) y := by rw [List.drop_zero]; exact hy
    have hne : f.name ≠ "_" := by simpa using he.2.1
    simp only [Op.eqFields, hne, ne_eq, not_false_eq_true, if_true]
    exact eqStep (off := 0) ho hla he.2.2.1 hx' hy' (by omega) (fun h1 h2 => eqRest (n := 1) (fs := fs) (off := a.size) hlb he.2.2.2 (by rw [Nat.zero_add] at h1; exact h1) (by rw [Nat.zero_add] at h2; exact h2) (by omega))
  | .int _, _, _, _, _, _, 0, _, _, _, _, hd | .bool, _, _, _, _, _, 0, _, _, _, _, hd | .str, _, _, _, _, _, 0, _, _, _, _, hd | .unit, _, _, _, _, _, 0, _, _, _, _, hd | .pair _ _, _, _, _, _, _, 0, _, _, _, _, hd => by simp [Ty.deep] at hd

theorem eqRest {w : World} {M : Nat → Prop} : ∀ {b : Ty} {fs : Array Field} {n off : Nat} {cs cs' : Array Value} {x y : b.den} {d : Nat}, LayG P b (.inr (fs, n, off)) → eqTyB P b (.inr (fs, n)) = true → Rd w M b (cs.toList.drop off) x → Rd w M b (cs'.toList.drop off) y → b.deep ≤ d →
    (Op.eqFields d cs cs' (fs.toList.drop n)).run P w = .ok (teq b x y) w
  | .unit, fs, n, off, cs, cs', x, y, d, hl, _, _, _, _ => by
    simp only [LayG] at hl
    rw [List.drop_of_length_le (by rw [Array.length_toList]; omega)]
    simp [Op.eqFields, teq]
  | .pair a b, fs, n, off, cs, cs', x, y, d, hl, he, hx, hy, hd => by
    simp only [LayG] at hl
    obtain ⟨f, hf, ho, hla, hlb⟩ := hl
    simp only [eqTyB, hf, Bool.and_eq_true] at he
    have h0 : fs.toList.drop n = f :: fs.toList.drop (n + 1) := by
      rw [List.drop_eq_getElem_cons (l := fs.toList) (i := n) (by rw [Array.length_toList]; exact (Array.getElem?_eq_some_iff.1 hf).1)]
      congr 1
      rw [Array.getElem_toList]; exact (Array.getElem?_eq_some_iff.1 hf).2
    simp only [Ty.deep] at hd
    rw [h0]
    have hne : f.name ≠ "_" := by simpa using he.1
    simp only [Op.eqFields, hne, ne_eq, not_false_eq_true, if_true]
    exact eqStep ho hla he.2.1 hx hy (by omega) (fun h1 h2 => eqRest hlb he.2.2 h1 h2 (by omega))
  | .int _, _, _, _, _, _, _, _, _, hl, _, _, _, _ | .bool, _, _, _, _, _, _, _, _, hl, _, _, _, _ | .str, _, _, _, _, _, _, _, _, hl, _, _, _, _ | .slice _, _, _, _, _, _, _, _, _, hl, _, _, _, _ | .arr _ _, _, _, _, _, _, _, _, _, hl, _, _, _, _ => by simp [LayG] at hl

theorem eqStep {w : World} {M : Nat → Prop} {a b : Ty} {f : Field} {fs : List Field} {off : Nat} {cs cs' : Array Value} {x y : (Ty.pair a b).den} {d : Nat} (ho : f.offset = off) (hla : Lay P a f.type) (he : eqTyB P a (.inl f.type) = true)
    (hx : Rd w M (.pair a b) (cs.toList.drop off) x) (hy : Rd w M (.pair a b) (cs'.toList.drop off) y) (hd : a.deep ≤ d)
    (hr : Rd w M b (cs.toList.drop (off + a.size)) x.2 → Rd w M b (cs'.toList.drop (off + a.size)) y.2 → (Op.eqFields d cs cs' fs).run P w = .ok (teq b x.2 y.2) w) :
    (do let u ← part f.type cs f.offset; let v ← part f.type cs' f.offset; let r ← Op.equalIn d f.type u v; if (!r) = true then pure false else Op.eqFields d cs cs' fs : Sem Bool).run P w = .ok (teq (.pair a b) x y) w := by
  simp only [Rd] at hx hy
  obtain ⟨c1, c2, hc, h1, h2⟩ := hx
  obtain ⟨c1', c2', hc', h1', h2'⟩ := hy
  subst ho
  have p1 : (cs.toList.drop f.offset).take a.size = c1 := by rw [hc, List.take_left' h1.length]
  have p2 : (cs'.toList.drop f.offset).take a.size = c1' := by rw [hc', List.take_left' h1'.length]
  have q1 : cs.toList.drop (f.offset + a.size) = c2 := by rw [← List.drop_drop, hc, List.drop_left' h1.length]
  have q2 : cs'.toList.drop (f.offset + a.size) = c2' := by rw [← List.drop_drop, hc', List.drop_left' h1'.length]
  have r1 := run_part hla (w := w) (M := M) (cs := cs) (off := f.offset) (x := x.1) (by rw [p1]; exact h1)
  have r2 := run_part hla (w := w) (M := M) (cs := cs') (off := f.offset) (x := y.1) (by rw [p2]; exact h1')
  have r3 := eq_sound (d := d) hla he (V.ofC (by rw [p1]; exact h1) : V w M a (VM.ofCells a ((cs.toList.drop f.offset).take a.size)) x.1) (V.ofC (by rw [p2]; exact h1') : V w M a (VM.ofCells a ((cs'.toList.drop f.offset).take a.size)) y.1) hd
  simp only [Sem.run_bind, r1, r2, r3, Result.andThen_ok, teq]
  cases teq a x.1 y.1
  · simp
  · simpa using hr (by rw [q1]; exact h2) (by rw [q2]; exact h2')
end

/-- A type that is compared. -/
def eqTB (P : Program) (τ : Ty) (t : TypeId) : Bool := !(τ.comparable && τ.isAgg) || (eqTyB P τ (.inl t) && (Nat.ble τ.deep 10000 && !P.eqGuardType P.depth t))

theorem eqTB_ok {τ : Ty} {t : TypeId} (hl : Lay P τ t) (h : eqTB P τ t = true) (hc : τ.comparable = true) (ha : τ.isAgg = true) : EqOk P t τ := by
  unfold eqTB at h
  rw [hc, ha] at h
  simp only [Bool.and_self, Bool.not_true, Bool.false_or, Bool.and_eq_true, Nat.ble_eq, Bool.not_eq_true'] at h
  obtain ⟨h1, h2, h3⟩ := h
  intro w M u v x y b xo yo hx hy
  have he := eq_sound (d := 10000) hl h1 hx hy h2
  unfold V at hx hy
  rw [if_pos ha] at hx hy
  obtain ⟨cs, rfl, _⟩ := hx
  obtain ⟨cs', rfl, _⟩ := hy
  refine ⟨?_, ?_, ?_⟩
  · cases b <;> simp [eqGuard, h3]
  · simp only [binOp]; simp [Op.equal, Op.maxDepth, he]
  · simp only [binOp]; simp [Op.equal, Op.maxDepth, he]

/-- A table of types. -/
def tabOk (P : Program) (l : List (Nat × Ty)) : Bool := l.all fun q => layB P q.2 (.inl q.1) && eqTB P q.2 q.1

end VM
end

section
/- The value machine, thirtieth text: what comes in, as values. -/
namespace VM
open Go Go.WideShapes Go.RowKit Go.ChangeShapes

/-- What values of types can be. -/
def WF : (τ : Ty) → τ.den → Prop
  | .int k, x => (Lit.int k x).wf = true
  | .bool, _ => True
  | .str, s => ByteArray.size s ≤ maxLen
  | .slice e, l => List.length l ≤ maxLen ∧ ∀ i (h : i < List.length l), WF e (List.get l ⟨i, h⟩)
  | .unit, _ => True
  | .pair a b, x => WF a x.1 ∧ WF b x.2
  | .arr _ e, l => ∀ i (h : i < List.length l), WF e (List.get l ⟨i, h⟩)

def Ty.solid : Ty → Bool
  | .slice e => Nat.blt 0 e.size && e.solid
  | .pair a b => a.solid && b.solid
  | .arr _ e => e.solid
  | _ => true

theorem mapM_all {α β : Type} {f : α → Option β} : ∀ {l : List α} {r : List β}, l.mapM f = some r → ∀ x ∈ l, ∃ y, f x = some y
  | [], _, _, x, hx => by cases hx
  | a :: l, r, h, x, hx => by
    rw [List.mapM_cons] at h
    simp only [bind, Option.bind_eq_some_iff, pure, Option.some.injEq] at h
    obtain ⟨y, hy, r', hr, _⟩ := h
    rcases List.mem_cons.1 hx with rfl | hx
    · exact ⟨y, hy⟩
    · exact mapM_all hr x hx

theorem mapM_get {α β : Type} {f : α → Option β} : ∀ {l : List α} {r : List β}, l.mapM f = some r → r.length = l.length ∧ ∀ i (h : i < l.length) (h' : i < r.length), f l[i] = some r[i]
  | [], r, h => by simp at h; subst h; exact ⟨rfl, fun i h => by cases h⟩
  | a :: l, r, h => by
    rw [List.mapM_cons] at h
    simp only [bind, Option.bind_eq_some_iff, pure, Option.some.injEq] at h
    obtain ⟨y, hy, r', hr, rfl⟩ := h
    obtain ⟨h1, h2⟩ := mapM_get hr
    refine ⟨by simp [h1], fun i hi hi' => ?_⟩
    cases i with
    | zero => exact hy
    | succ i => exact h2 i (by simpa using hi) (by simpa using hi')

theorem exists_list {α : Type} {p : Nat → α → Prop} : ∀ n, (∀ i, i < n → ∃ x, p i x) → ∃ l : List α, l.length = n ∧ ∀ i (h : i < l.length), p i (l.get ⟨i, h⟩)
  | 0, _ => ⟨[], rfl, fun i h => by cases h⟩
  | n + 1, h => by
    obtain ⟨l, hl, hp⟩ := exists_list n (fun i hi => h i (by omega))
    obtain ⟨x, hx⟩ := h n (by omega)
    refine ⟨l ++ [x], by simp [hl], fun i hi => ?_⟩
    simp only [List.get_eq_getElem]
    by_cases hlt : i < l.length
    · rw [List.getElem_append_left hlt]; exact hp i hlt
    · have hin : i = n := by simp at hi; omega
      subst hin
      rw [List.getElem_append_right (by omega)]
      simp [hl, hx]

section
variable {H : Type} {enc : TypeId × Value → H} {P : Program} {w : World}

theorem Lay.cells {τ : Ty} {t : TypeId} (h : Lay P τ t) : P.cellsOf t = τ.size := by
  obtain ⟨i, hi, hs, _⟩ := h.base
  simp [Program.cellsOf, hi, hs]

/-- A row of cells. -/
theorem cells_row {a : Addr} {n : Nat} {cs : List Value} (h : w.cells? 0 a n = some cs) : cs.length = n ∧ ∀ j v, cs[j]? = some v → w.cell? (a.add j) = some v := by
  unfold World.cells? at h
  rw [if_pos (Nat.zero_le _)] at h
  obtain ⟨h1, h2⟩ := mapM_get h
  rw [List.length_range] at h1
  refine ⟨h1, fun j v hj => ?_⟩
  obtain ⟨hlt, rfl⟩ := List.getElem?_eq_some_iff.1 hj
  have := h2 j (by rw [List.length_range]; omega) hlt
  rw [List.getElem_range] at this
  exact this

def OpenG (H : Type) (enc : TypeId × Value → H) (P : Program) (w : World) (τ : Ty) : TypeId ⊕ (Array Field × Nat × Nat) → Prop
  | .inl t => ∀ (fuel : Nat) (cs : List Value) (d : DataW H × List MemPlace), DataW.trod enc P w 0 (fun _ => true) true fuel t cs = some d → ∃ x : τ.den, Rd w (fun _ => False) τ cs x ∧ WF τ x
  | .inr q => ∀ (cs : List Value), cs.length = q.2.2 + τ.size → (∀ f ∈ q.1.toList, ∃ fuel d, DataW.trod enc P w 0 (fun _ => true) true fuel f.type ((cs.drop f.offset).take (P.cellsOf f.type)) = some d) → ∃ x : τ.den, Rd w (fun _ => False) τ (cs.drop q.2.2) x ∧ WF τ x

theorem open_step {a b : Ty} {f : Field} {fs : Array Field} {n off : Nat} (hf : fs[n]? = some f) (ho : f.offset = off) (hla : Lay P a f.type) (iha : OpenG H enc P w a (.inl f.type)) (ihb : OpenG H enc P w b (.inr (fs, n + 1, off + a.size)))
    {cs : List Value} (hc : cs.length = off + (a.size + b.size)) (hall : ∀ f ∈ fs.toList, ∃ fuel d, DataW.trod enc P w 0 (fun _ => true) true fuel f.type ((cs.drop f.offset).take (P.cellsOf f.type)) = some d) :
    ∃ x : (Ty.pair a b).den, Rd w (fun _ => False) (.pair a b) (cs.drop off) x ∧ WF (.pair a b) x := by
  subst ho
  obtain ⟨fuel, d, hd⟩ := hall f (by rw [Array.mem_toList_iff]; exact Array.mem_of_getElem? hf)
  rw [hla.cells] at hd
  obtain ⟨x, hx, hwx⟩ := iha fuel _ d hd
  obtain ⟨y, hy, hwy⟩ := ihb cs (by simp only; omega) hall
  refine ⟨(x, y), ?_, hwx, hwy⟩
  simp only [Rd]
  refine ⟨_, _, (List.take_append_drop a.size (cs.drop f.offset)).symm, hx, ?_⟩
  rw [List.drop_drop]; exact hy

theorem open_rd : ∀ {τ : Ty} {x : TypeId ⊕ (Array Field × Nat × Nat)}, LayG P τ x → τ.solid = true → OpenG H enc P w τ x
  | .int k, .inl t, hl, _ => by
    intro fuel cs d h
    simp only [LayG] at hl
    obtain ⟨n, rfl, _, hw⟩ := DataW.trod_int hl.2 h
    exact ⟨n, rfl, hw⟩
  | .bool, .inl t, hl, _ => by
    intro fuel cs d h
    simp only [LayG] at hl
    obtain ⟨b, rfl, _⟩ := DataW.trod_bool hl.2 h
    exact ⟨b, rfl, trivial⟩
  | .str, .inl t, hl, _ => by
    intro fuel cs d h
    simp only [LayG] at hl
    obtain ⟨s, rfl, _, hs⟩ := DataW.trod_string hl.2 h
    exact ⟨s, rfl, hs⟩
  | .slice e, .inl t, hl, hs => by
    intro fuel cs d h
    simp only [LayG] at hl
    obtain ⟨_, e', hu, hle⟩ := hl
    simp only [Ty.solid, Bool.and_eq_true, Nat.blt_eq] at hs
    have ih := open_rd hle hs.2
    have hsz : P.cellsOf e' = e.size := Lay.cells hle
    rcases DataW.trod_slice hu h with ⟨rfl, _⟩ | ⟨a, len, cap, elems, rest, n, _, rfl, _, _, hlc, hcm, hel, hall, _⟩
    · refine ⟨[], ?_, Nat.zero_le _, fun i h => by cases h⟩
      simp only [Rd]
      exact ⟨none, 0, rfl, Nat.le_refl _, fun i h => by cases h⟩
    · rw [hsz] at hall
      have get : ∀ i, i < len → ∃ cs' y, w.cells? 0 (a.add (i * e.size)) e.size = some cs' ∧ DataW.trod enc P w 0 (fun _ => true) true n e' cs' = some y := fun i hi => by
        have := hall i hi
        rw [List.getElem?_eq_getElem (by omega)] at this
        obtain ⟨cs', h1, h2⟩ := Option.bind_eq_some_iff.1 this
        exact ⟨cs', _, h1, h2⟩
      have key : ∀ i, i < len → ∃ x : e.den, (a.spot = none ∧ a.block < w.heap.size ∧ ∃ cs', At w a.block (a.off + i * e.size) cs' ∧ Rd w (fun _ => False) e cs' x) ∧ WF e x := by
        intro i hi
        obtain ⟨cs', y, hcs, ht⟩ := get i hi
        obtain ⟨h1, h2⟩ := cells_row hcs
        obtain ⟨x, hx, hw⟩ := ih n cs' y ht
        have hsp : a.spot = none ∧ a.block < w.heap.size := by
          obtain ⟨cs0, y0, hcs0, _⟩ := get 0 (by omega)
          obtain ⟨h10, h20⟩ := cells_row hcs0
          have := h20 0 cs0[0] (List.getElem?_eq_getElem (by omega))
          simp only [Nat.zero_mul, Addr.add, if_true, World.cell?] at this
          split at this
          · rename_i hb
            refine ⟨?_, (Array.getElem?_eq_some_iff.1 hb).1⟩
            split at this
            · cases this
            · rename_i hn; simpa using hn
          · cases this
        refine ⟨x, ⟨hsp.1, hsp.2, cs', fun j v hj => ?_, hx⟩, hw⟩
        have := h2 j v hj
        have he : (a.add (i * e.size)).add j = ⟨a.block, a.off + i * e.size + j, none⟩ := by
          obtain ⟨ab, ao, asp⟩ := a
          simp only at hsp
          obtain ⟨rfl, _⟩ := hsp
          simp only [Addr.add]
          split <;> split <;> simp_all <;> omega
        rw [he] at this
        exact this
      obtain ⟨l, hl, hp⟩ := exists_list len key
      refine ⟨l, ?_, by rw [hl]; omega, fun i h => (hp i h).2⟩
      simp only [Rd]
      refine ⟨some a, cap, by rw [hl], by rw [hl]; exact hlc, fun i h => ?_⟩
      obtain ⟨h1, h2, cs', h3, h4⟩ := (hp i h).1
      refine ⟨a.block, a.off, ?_, h2, fun h => h, cs', h3, h4⟩
      rw [← h1]
  | .unit, .inl t, hl, _ => by
    intro fuel cs d h
    simp only [LayG] at hl
    obtain ⟨⟨i, hi, hsz, _⟩, fs, hu, h0⟩ := hl
    obtain ⟨xs, n, _, _, hc, _⟩ := DataW.trod_struct hu h
    refine ⟨(), ?_, trivial⟩
    simp only [Rd]
    rw [← List.length_eq_zero_iff, hc]
    simp [Program.cellsOf, hi, hsz, Ty.size]
  | .unit, .inr q, hl, _ => by
    intro cs hc _
    refine ⟨(), ?_, trivial⟩
    simp only [Rd]
    rw [List.drop_of_length_le (by rw [hc]; simp [Ty.size])]
  | .pair a b, .inl t, hl, hs => by
    intro fuel cs d h
    simp only [LayG] at hl
    obtain ⟨⟨i, hi, hsz, _⟩, fs, f, hu, hf, ho, hla, hlb⟩ := hl
    simp only [Ty.solid, Bool.and_eq_true] at hs
    have iha := open_rd hla hs.1
    have ihb := open_rd hlb hs.2
    obtain ⟨xs, n, _, _, hc, hxl, hxs⟩ := DataW.trod_struct hu h
    have := open_step (b := b) (off := 0) hf ho hla iha (by simp only [Nat.zero_add]; exact ihb) (cs := cs) (by rw [hc]; simp [Program.cellsOf, hi, hsz, Ty.size]) (fun f hf => by
      obtain ⟨j, hj, rfl⟩ := List.mem_iff_getElem.1 hf
      rw [Array.length_toList] at hj
      have := hxs j fs[j] (by simp [hj])
      rw [List.getElem?_eq_getElem (by omega)] at this
      exact ⟨n, _, by rw [Array.getElem_toList]; exact this⟩)
    rw [List.drop_zero] at this
    exact this
  | .pair a b, .inr (fs, n, off), hl, hs => by
    intro cs hc hall
    simp only [LayG] at hl
    obtain ⟨f, hf, ho, hla, hlb⟩ := hl
    simp only [Ty.solid, Bool.and_eq_true] at hs
    exact open_step hf ho hla (open_rd hla hs.1) (open_rd hlb hs.2) (by simpa [Ty.size] using hc) hall
  | .arr n e, .inl t, hl, hs => by
    intro fuel cs d h
    simp only [LayG] at hl
    obtain ⟨⟨i, hi, hsz, _⟩, e', hu, hle⟩ := hl
    simp only [Ty.solid] at hs
    have ih := open_rd hle hs
    have hse : P.cellsOf e' = e.size := Lay.cells hle
    obtain ⟨xs, m, _, _, hc, hxl, hxs⟩ := DataW.trod_array hu h
    have hlen : cs.length = n * e.size := by rw [hc]; simp [Program.cellsOf, hi, hsz, Ty.size]
    have key : ∀ i, i < n → ∃ x : e.den, Rd w (fun _ => False) e ((cs.drop (i * e.size)).take e.size) x ∧ WF e x := fun i hi => by
      have := hxs i hi
      rw [List.getElem?_eq_getElem (by omega), hse] at this
      exact ih m _ _ this
    obtain ⟨l, hll, hp⟩ := exists_list n key
    refine ⟨l, ?_, fun i h => (hp i h).2⟩
    simp only [Rd]
    refine ⟨hll, (List.range n).map fun i => (cs.drop (i * e.size)).take e.size, by simp, ?_, fun i h h' => ?_⟩
    · clear hxs h key hp hll hu
      have : ∀ m, m ≤ n → cs.take (m * e.size) = ((List.range m).map fun i => (cs.drop (i * e.size)).take e.size).flatten := by
        intro m
        induction m with
        | zero => simp
        | succ m ihm =>
          intro hm
          rw [List.range_succ, List.map_append, List.flatten_append, ← ihm (by omega)]
          simp only [List.map_cons, List.map_nil, List.flatten_cons, List.flatten_nil, List.append_nil]
          rw [Nat.add_mul, Nat.one_mul, List.take_add]
      have h2 := this n (Nat.le_refl _)
      rw [List.take_of_length_le (by omega)] at h2
      exact h2
    · have := (hp i h).1
      simpa using this
  | .int _, .inr _, h, _ | .bool, .inr _, h, _ | .str, .inr _, h, _ | .slice _, .inr _, h, _ | .arr _ _, .inr _, h, _ => by simp [LayG] at h

/-- One argument. -/
theorem open_v {τ : Ty} {t : TypeId} {r : Reach} {b0 : Nat} {v : Value} {d : DataW H} {ps : List MemPlace} (hl : Lay P τ t) (hs : τ.solid = true) (hv : Value.okWide P w r b0 t v) (h : DataW.Trod enc P w 0 (fun _ => true) true t v d ps) :
    ∃ x : τ.den, V w (fun _ => False) τ v x ∧ WF τ x := by
  obtain ⟨fuel, h⟩ := h
  obtain ⟨x, hx, hw⟩ := open_rd (H := H) (enc := enc) (w := w) hl hs fuel _ _ h
  refine ⟨x, ?_, hw⟩
  unfold V
  cases τ with
  | int k =>
    obtain ⟨n, rfl⟩ := okWide_int hl.int hv
    exact hx
  | bool =>
    obtain ⟨n, rfl⟩ := okWide_bool hl.bool hv
    exact hx
  | str =>
    obtain ⟨n, rfl⟩ := okWide_string hl.str hv
    exact hx
  | slice e =>
    obtain ⟨e', hu, _⟩ := hl.slice
    obtain ⟨a, len, cap, rfl⟩ := okWide_slice hu hv
    exact hx
  | unit =>
    simp only [Lay, LayG] at hl
    obtain ⟨_, fs, hu, _⟩ := hl
    simp only [Value.okWide, hu] at hv
    obtain ⟨cs, rfl, _⟩ := hv
    exact ⟨cs, rfl, hx⟩
  | pair a b =>
    simp only [Lay, LayG] at hl
    obtain ⟨_, fs, f, hu, _⟩ := hl
    simp only [Value.okWide, hu] at hv
    obtain ⟨cs, rfl, _⟩ := hv
    exact ⟨cs, rfl, hx⟩
  | arr n e =>
    obtain ⟨e', hu, _⟩ := hl.arr
    simp only [Value.okWide, hu] at hv
    obtain ⟨cs, rfl, _⟩ := hv
    exact ⟨cs, rfl, hx⟩

def WFs : (ms : List Ty) → HP (ms.map .v) → Prop
  | [], _ => True
  | _ :: ms, x => WF _ (hpH x) ∧ WFs ms (hpT x)

def hpC : {m : AM} → {ms : List AM} → m.den → HP ms → HP (m :: ms)
  | _, [], x, _ => x
  | _, _ :: _, x, y => (x, y)
theorem hpH_hpC {m : AM} : ∀ {ms : List AM} (x : m.den) (y : HP ms), hpH (hpC x y) = x
  | [], _, _ => rfl
  | _ :: _, _, _ => rfl
theorem hpT_hpC {m : AM} : ∀ {ms : List AM} (x : m.den) (y : HP ms), hpT (hpC x y) = y
  | [], _, () => rfl
  | _ :: _, _, _ => rfl

/-- All arguments: what they are; behind the call they read as they did. -/
theorem open_args (laid : laidOutB P = true) {r : Reach} {b0 : Nat} : ∀ {τs : List Ty} {ts : List TypeId} {vs : List Value} {ds : List (DataW H)} {ps : List MemPlace}, DataW.TrodAll enc P w 0 (fun _ => true) true ts vs ds ps →
    τs.length = ts.length → (∀ (j : Nat) τ t, τs[j]? = some τ → ts[j]? = some t → (Lay P τ t ∧ τ.solid = true ∧ P.readableRec t = true ∧ t < P.types.size)) →
    (∀ (j : Nat) t v, ts[j]? = some t → vs[j]? = some v → Value.okWide P w r b0 t v) →
    (∃ x : HP (τs.map .v), ArgsR w (fun _ => False) (τs.map .v) x vs ∧ WFs τs x) ∧ ∀ w', Below w.heap.size w w' → ∃ ps', DataW.TrodAll enc P w' 0 (fun b => decide (b < w.heap.size)) true ts vs ds ps'
  | [], [], vs, ds, ps, h, _, _, _ => by
    obtain ⟨rfl, rfl, rfl⟩ := trodAll_nil h
    exact ⟨⟨(), rfl, trivial⟩, fun w' _ => ⟨[], rfl⟩⟩
  | τ :: τs, t :: ts, vs, ds, ps, h, hl, hty, hv => by
    obtain ⟨v, vs', d, ds', p, q, rfl, rfl, rfl, h1, h2⟩ := trodAll_cons h
    obtain ⟨hlay, hsol, hrr, hlt⟩ := hty 0 τ t rfl rfl
    obtain ⟨x, hx, hwx⟩ := open_v hlay hsol (hv 0 t v rfl rfl) h1
    obtain ⟨⟨y, hy, hwy⟩, hback⟩ := open_args laid h2 (by simpa using hl) (fun j τ' t' h h' => hty (j + 1) τ' t' (by simpa using h) (by simpa using h')) (fun j t' v' h h' => hv (j + 1) t' v' (by simpa using h) (by simpa using h'))
    refine ⟨⟨hpC (m := .v τ) x y, ?_, ?_⟩, fun w' hb => ?_⟩
    · show ArgsR w _ (.v τ :: τs.map .v) _ _
      simp only [ArgsR]
      exact ⟨v, vs', rfl, by rw [hpH_hpC]; exact hx, by rw [hpT_hpC]; exact hy⟩
    · simp only [WFs]
      exact ⟨by rw [hpH_hpC]; exact hwx, by rw [hpT_hpC]; exact hwy⟩
    · obtain ⟨ps', h'⟩ := hback w' hb
      have hlt' : ∀ z ∈ p, z.block < w.heap.size := by
        obtain ⟨m, hm⟩ := h1
        exact DataW.trod_lt m _ _ _ hm
      exact ⟨p ++ ps', trodAll_cons_mk (Below.trod laid hrr hlt h1 hb hlt') h'⟩
  | [], _ :: _, _, _, _, _, hl, _, _ | _ :: _, [], _, _, _, _, hl, _, _ => by simp at hl
end
end VM
end

section
/- The value machine: evaluation from cut to cut, the rest by tables; it answers as the whole evaluation does. -/
namespace VM
open Go
variable {α : Type}

/-- Behind a cut: as the table tells. -/
noncomputable def tailK (L : Nat → Option (List (Nat × CM))) (κ : Nat → St → Option α) (i : Option Nat) (f : St → Option α) : St → Option α :=
  match i with
  | none => f
  | some i => match L i with
    | none => f
    | some _ => κ i

noncomputable def evQ (E : Env) (κJ κL : Nat → St → Option α) (c : Code) : St → (St → Option α) → (Nat → St → Option α) → (St → Option α) → Option α :=
  Code.rec (motive := fun _ => St → (St → Option α) → (Nat → St → Option α) → (St → Option α) → Option α)
    (fun σ k _ _ => k σ)
    (fun _ ops draw σ k _ _ => regionK E ops draw σ k)
    (fun _ b A B σ k kx kr => A σ (fun σ' => cutK ((firstReg b).bind E.cutJ) σ' (tailK E.cutJ κJ (firstReg b) fun σ'' => B σ'' k kx kr)) kx kr)
    (fun c _ _ A B σ k kx kr => condK E c σ (fun σ' => A σ' k kx kr) (fun σ' => B σ' k kx kr))
    (fun id _ A σ k kx kr => A σ k (fun i σ' => cond (Nat.beq i id) (k σ') (kx i σ')) kr)
    (fun b _ σ _ kx kr => cutK ((firstReg b).bind E.cutL) σ (tailK E.cutL κL (firstReg b) (loopK ((firstReg b).bind E.cutL) (fun σ' kn => evC E b σ' kn kx kr) E.N)))
    (fun _ _ _ _ _ _ _ _ _ _ => none)
    (fun id σ _ kx _ => kx id σ)
    (fun _ A σ k kx kr => A σ k kx kr)
    (fun _ σ k _ _ => k σ)
    (fun _ _ _ _ _ => none)
    (fun σ _ _ kr => kr σ)
    (fun _ _ _ _ _ => none)
    c

/-- What stands behind each cut. -/
noncomputable def tails (E : Env) (c : Code) : (St → Option α) → (Nat → St → Option α) → (St → Option α) → List (Bool × Nat × (St → Option α)) :=
  Code.rec (motive := fun _ => (St → Option α) → (Nat → St → Option α) → (St → Option α) → List (Bool × Nat × (St → Option α)))
    (fun _ _ _ => [])
    (fun _ _ _ _ _ _ => [])
    (fun _ b A B k kx kr => A (fun σ' => cutK ((firstReg b).bind E.cutJ) σ' fun σ'' => evC E b σ'' k kx kr) kx kr ++ (((firstReg b).toList.map fun i => (false, i, fun σ'' => evC E b σ'' k kx kr)) ++ B k kx kr))
    (fun _ _ _ A B k kx kr => A k kx kr ++ B k kx kr)
    (fun id _ A k kx kr => A k (fun i σ' => cond (Nat.beq i id) (k σ') (kx i σ')) kr)
    (fun b _ _ kx kr => (firstReg b).toList.map fun i => (true, i, loopK ((firstReg b).bind E.cutL) (fun σ' kn => evC E b σ' kn kx kr) E.N))
    (fun _ _ _ _ _ _ _ _ _ => [])
    (fun _ _ _ _ => [])
    (fun _ A k kx kr => A k kx kr)
    (fun _ _ _ _ => [])
    (fun _ _ _ _ => [])
    (fun _ _ _ => [])
    (fun _ _ _ _ => [])
    c

noncomputable def selT (E : Env) (κJ κL : Nat → St → Option α) : List (Bool × Nat × (St → Option α)) → List ((St → Option α) × (St → Option α))
  | [] => []
  | q :: r => match q.1 with
    | false => match E.cutJ q.2.1 with
      | some _ => (κJ q.2.1, q.2.2) :: selT E κJ κL r
      | none => selT E κJ κL r
    | true => match E.cutL q.2.1 with
      | some _ => (κL q.2.1, q.2.2) :: selT E κJ κL r
      | none => selT E κJ κL r

def OkT (E : Env) (κJ κL : Nat → St → Option α) (l : List (Bool × Nat × (St → Option α))) : Prop := ∀ p ∈ selT E κJ κL l, p.1 = p.2

theorem okT_of {E : Env} {κJ κL : Nat → St → Option α} {l : List (Bool × Nat × (St → Option α))} (g : List (St → Option α)) (h : selT E κJ κL l = g.map fun f => (f, f)) : OkT E κJ κL l := by
  intro p hp
  rw [h] at hp
  obtain ⟨f, _, rfl⟩ := List.mem_map.1 hp
  rfl

theorem selT_append {E : Env} {κJ κL : Nat → St → Option α} : ∀ (l m : List (Bool × Nat × (St → Option α))), selT E κJ κL (l ++ m) = selT E κJ κL l ++ selT E κJ κL m
  | [], m => rfl
  | (b, i, f) :: l, m => by
    have ih := selT_append (E := E) (κJ := κJ) (κL := κL) l m
    cases b <;> simp only [List.cons_append, selT] <;> split <;> simp [ih]

theorem OkT.app {E : Env} {κJ κL : Nat → St → Option α} {l m : List (Bool × Nat × (St → Option α))} (h : OkT E κJ κL (l ++ m)) : OkT E κJ κL l ∧ OkT E κJ κL m := by
  unfold OkT at *
  rw [selT_append] at h
  exact ⟨fun p hp => h p (List.mem_append_left _ hp), fun p hp => h p (List.mem_append_right _ hp)⟩

theorem tailJ {E : Env} {κJ κL : Nat → St → Option α} {i : Option Nat} {f : St → Option α} (h : OkT E κJ κL (i.toList.map fun i => (false, i, f))) : tailK E.cutJ κJ i f = f := by
  cases i with
  | none => rfl
  | some i =>
    simp only [Option.toList, List.map, OkT, selT] at h
    unfold tailK
    cases hL : E.cutJ i with
    | none => simp [hL]
    | some L => rw [hL] at h; simp only [hL]; exact h (κJ i, f) (List.mem_singleton.2 rfl)

theorem tailL {E : Env} {κJ κL : Nat → St → Option α} {i : Option Nat} {f : St → Option α} (h : OkT E κJ κL (i.toList.map fun i => (true, i, f))) : tailK E.cutL κL i f = f := by
  cases i with
  | none => rfl
  | some i =>
    simp only [Option.toList, List.map, OkT, selT] at h
    unfold tailK
    cases hL : E.cutL i with
    | none => simp [hL]
    | some L => rw [hL] at h; simp only [hL]; exact h (κL i, f) (List.mem_singleton.2 rfl)

theorem evQ_eq {E : Env} {κJ κL : Nat → St → Option α} (c : Code) : ∀ (k : St → Option α) (kx : Nat → St → Option α) (kr : St → Option α) (σ : St), OkT E κJ κL (tails E c k kx kr) → evQ E κJ κL c σ k kx kr = evC E c σ k kx kr := by
  induction c with
  | skip => intros; rfl
  | region => intros; rfl
  | seq a b iha ihb =>
    intro k kx kr σ h
    obtain ⟨h1, h2⟩ := OkT.app (h : OkT E κJ κL (tails E a _ kx kr ++ (((firstReg b).toList.map fun i => (false, i, fun σ'' => evC E b σ'' k kx kr)) ++ tails E b k kx kr)))
    obtain ⟨h2, h3⟩ := OkT.app h2
    show evQ E κJ κL a σ (fun σ' => cutK ((firstReg b).bind E.cutJ) σ' (tailK E.cutJ κJ (firstReg b) fun σ'' => evQ E κJ κL b σ'' k kx kr)) kx kr = evC E a σ (fun σ' => cutK ((firstReg b).bind E.cutJ) σ' fun σ'' => evC E b σ'' k kx kr) kx kr
    have hb : (fun σ'' => evQ E κJ κL b σ'' k kx kr) = fun σ'' => evC E b σ'' k kx kr := funext fun σ'' => ihb k kx kr σ'' h3
    rw [hb, tailJ h2]
    exact iha _ _ _ _ h1
  | cond x a b iha ihb =>
    intro k kx kr σ h
    obtain ⟨h1, h2⟩ := OkT.app (h : OkT E κJ κL (tails E a k kx kr ++ tails E b k kx kr))
    show condK E x σ (fun σ' => evQ E κJ κL a σ' k kx kr) (fun σ' => evQ E κJ κL b σ' k kx kr) = condK E x σ (fun σ' => evC E a σ' k kx kr) (fun σ' => evC E b σ' k kx kr)
    rw [show (fun σ' => evQ E κJ κL a σ' k kx kr) = fun σ' => evC E a σ' k kx kr from funext fun σ' => iha k kx kr σ' h1, show (fun σ' => evQ E κJ κL b σ' k kx kr) = fun σ' => evC E b σ' k kx kr from funext fun σ' => ihb k kx kr σ' h2]
  | block id x ih => intro k kx kr σ h; exact ih _ _ _ σ h
  | loop b _ =>
    intro k kx kr σ h
    show cutK ((firstReg b).bind E.cutL) σ (tailK E.cutL κL (firstReg b) (loopK ((firstReg b).bind E.cutL) (fun σ' kn => evC E b σ' kn kx kr) E.N)) = cutK ((firstReg b).bind E.cutL) σ (loopK ((firstReg b).bind E.cutL) (fun σ' kn => evC E b σ' kn kx kr) E.N)
    rw [tailL (h : OkT E κJ κL ((firstReg b).toList.map fun i => (true, i, _)))]
  | rangeFunc => intros; rfl
  | exit => intros; rfl
  | scope x ih => intro k kx kr σ h; exact ih _ _ _ σ h
  | label => intros; rfl
  | goto => intros; rfl
  | ret => intros; rfl
  | refuse => intros; rfl

noncomputable def evAtQ (E : Env) (κJ κL : Nat → St → Option α) : List Nat → Code → List (St → Option α) → St → (St → Option α) → (Nat → St → Option α) → (St → Option α) → Option α
  | [], c, _, σ, k, kx, kr => evQ E κJ κL c σ k kx kr
  | n :: p, c, ks, σ, k, kx, kr => match c with
    | .seq a b => match n with
      | 0 => evAtQ E κJ κL p a ks σ (fun σ' => cutK ((firstReg b).bind E.cutJ) σ' (tailK E.cutJ κJ (firstReg b) fun σ'' => evQ E κJ κL b σ'' k kx kr)) kx kr
      | _ => evAtQ E κJ κL p b ks σ k kx kr
    | .cond _ a b => match n with
      | 0 => evAtQ E κJ κL p a ks σ k kx kr
      | _ => evAtQ E κJ κL p b ks σ k kx kr
    | .block id c => evAtQ E κJ κL p c ks σ k (fun i σ' => cond (Nat.beq i id) (k σ') (kx i σ')) kr
    | .loop b => match ks with
      | κ :: ks => evAtQ E κJ κL p b ks σ κ kx kr
      | [] => none
    | .scope c => evAtQ E κJ κL p c ks σ k kx kr
    | _ => none

noncomputable def tailsAt (E : Env) : List Nat → Code → List (St → Option α) → (St → Option α) → (Nat → St → Option α) → (St → Option α) → List (Bool × Nat × (St → Option α))
  | [], c, _, k, kx, kr => tails E c k kx kr
  | n :: p, c, ks, k, kx, kr => match c with
    | .seq a b => match n with
      | 0 => ((firstReg b).toList.map fun i => (false, i, fun σ'' => evC E b σ'' k kx kr)) ++ (tails E b k kx kr ++ tailsAt E p a ks (fun σ' => cutK ((firstReg b).bind E.cutJ) σ' fun σ'' => evC E b σ'' k kx kr) kx kr)
      | _ => tailsAt E p b ks k kx kr
    | .cond _ a b => match n with
      | 0 => tailsAt E p a ks k kx kr
      | _ => tailsAt E p b ks k kx kr
    | .block id c => tailsAt E p c ks k (fun i σ' => cond (Nat.beq i id) (k σ') (kx i σ')) kr
    | .loop b => match ks with
      | κ :: ks => tailsAt E p b ks κ kx kr
      | [] => []
    | .scope c => tailsAt E p c ks k kx kr
    | _ => []

theorem evAtQ_eq {E : Env} {κJ κL : Nat → St → Option α} : ∀ (p : List Nat) (c : Code) (ks : List (St → Option α)) (k : St → Option α) (kx : Nat → St → Option α) (kr : St → Option α) (σ : St), OkT E κJ κL (tailsAt E p c ks k kx kr) →
    evAtQ E κJ κL p c ks σ k kx kr = evAt E p c ks σ k kx kr
  | [], c, ks, k, kx, kr, σ, h => evQ_eq c k kx kr σ h
  | n :: p, c, ks, k, kx, kr, σ, h => by
    cases c with
    | seq a b =>
      cases n with
      | zero =>
        simp only [evAtQ, evAt, tailsAt] at h ⊢
        obtain ⟨h1, h2⟩ := OkT.app h
        obtain ⟨h2, h3⟩ := OkT.app h2
        rw [show (fun σ'' => evQ E κJ κL b σ'' k kx kr) = fun σ'' => evC E b σ'' k kx kr from funext fun σ'' => evQ_eq b k kx kr σ'' h2, tailJ h1]
        exact evAtQ_eq p a ks _ kx kr σ h3
      | succ n => simp only [evAtQ, evAt, tailsAt] at h ⊢; exact evAtQ_eq p b ks k kx kr σ h
    | cond x a b =>
      cases n with
      | zero => simp only [evAtQ, evAt, tailsAt] at h ⊢; exact evAtQ_eq p a ks k kx kr σ h
      | succ n => simp only [evAtQ, evAt, tailsAt] at h ⊢; exact evAtQ_eq p b ks k kx kr σ h
    | block id x => simp only [evAtQ, evAt, tailsAt] at h ⊢; exact evAtQ_eq p x ks k _ kr σ h
    | loop b =>
      cases ks with
      | nil => simp only [evAtQ, evAt]
      | cons κ ks => simp only [evAtQ, evAt, tailsAt] at h ⊢; exact evAtQ_eq p b ks κ kx kr σ h
    | scope x => simp only [evAtQ, evAt, tailsAt] at h ⊢; exact evAtQ_eq p x ks k kx kr σ h
    | _ => simp only [evAtQ, evAt]

/-- A function's code, and how it ends. -/
noncomputable def codeOf (fn : Func) : Code := fn.body.getD .skip
noncomputable def krOf (E : Env) (fn : Func) (args res : List AM) : St → Option (HP res) := fun σ => retK E res (fn.results.toList.map .inl ++ ioOf args 0) σ some
noncomputable def nox : Nat → St → Option α := fun _ _ => none
noncomputable def nox0 : St → Option α := fun _ => none

/-- At a place of a function. -/
noncomputable def atF (E : Env) (fn : Func) (args res : List AM) (p : List Nat) (ks : List (St → Option (HP res))) (σ : St) : Option (HP res) :=
  evAt E p (codeOf fn) ks σ (krOf E fn args res) nox (krOf E fn args res)
noncomputable def atQ (E : Env) (fn : Func) (args res : List AM) (κJ κL : Nat → St → Option (HP res)) (p : List Nat) (ks : List (St → Option (HP res))) (σ : St) : Option (HP res) :=
  evAtQ E κJ κL p (codeOf fn) ks σ (krOf E fn args res) nox (krOf E fn args res)
noncomputable def tlsF (E : Env) (fn : Func) (args res : List AM) (p : List Nat) (ks : List (St → Option (HP res))) : List (Bool × Nat × (St → Option (HP res))) :=
  tailsAt E p (codeOf fn) ks (krOf E fn args res) nox (krOf E fn args res)

theorem atQ_eq {E : Env} {fn : Func} {args res : List AM} {κJ κL : Nat → St → Option (HP res)} {p : List Nat} {ks : List (St → Option (HP res))} (g : List (St → Option (HP res))) (h : selT E κJ κL (tlsF E fn args res p ks) = g.map fun f => (f, f)) (σ : St) :
    atF E fn args res p ks σ = atQ E fn args res κJ κL p ks σ := (evAtQ_eq p _ ks _ _ _ σ (okT_of g h)).symm

theorem evF_at {E : Env} {fn : Func} {args res : List AM} (hb : fn.body.isSome = true) (x : HP args) : evF E fn args res x = atF E fn args res [] [] (entry args x 0 S0) := by
  unfold evF atF codeOf
  cases h : fn.body with
  | none => rw [h] at hb; cases hb
  | some c => rfl

/-- A loop that is cut. -/
noncomputable def lpF (E : Env) (fn : Func) (args res : List AM) (c : List (Nat × CM)) (p : List Nat) (ks : List (St → Option (HP res))) (n : Nat) : St → Option (HP res) :=
  loopK (some c) (fun σ kn => atF E fn args res p (ks ++ [kn]) σ) n

theorem lpF_succ (E : Env) (fn : Func) (args res : List AM) (c : List (Nat × CM)) (p : List Nat) (ks : List (St → Option (HP res))) (n : Nat) (σ : St) :
    lpF E fn args res c p ks (n + 1) σ = atF E fn args res p (ks ++ [fun σ' => cutK (some c) σ' (lpF E fn args res c p ks n)]) σ := rfl

/-- A table. -/
def AllT {β : Type} (κ : Nat → β) : List (Nat × β) → Prop
  | [] => True
  | q :: r => κ q.1 = q.2 ∧ AllT κ r
def AllE {β : Type} : List (β × β) → Prop
  | [] => True
  | q :: r => q.1 = q.2 ∧ AllE r

theorem AllE.mem {β : Type} : ∀ {l : List (β × β)}, AllE l → ∀ p ∈ l, p.1 = p.2
  | q :: r, h, p, hp => by
    rcases List.mem_cons.1 hp with rfl | hp
    · exact h.1
    · exact AllE.mem h.2 p hp

theorem tabs {β : Type} (d : β) : ∀ (l : List (Nat × β)), (l.map (·.1)).Nodup → ∃ κ : Nat → β, AllT κ l
  | [], _ => ⟨fun _ => d, trivial⟩
  | q :: r, h => by
    rw [List.map_cons, List.nodup_cons] at h
    obtain ⟨κ, hκ⟩ := tabs d r h.2
    refine ⟨fun i => if i = q.1 then q.2 else κ i, by simp, ?_⟩
    have key : ∀ (r' : List (Nat × β)), (∀ p ∈ r', p ∈ r) → AllT κ r' → AllT (fun i => if i = q.1 then q.2 else κ i) r' := by
      intro r'
      induction r' with
      | nil => intros; trivial
      | cons p r' ih =>
        intro hm ha
        refine ⟨?_, ih (fun p' hp' => hm p' (List.mem_cons_of_mem _ hp')) ha.2⟩
        have hne : p.1 ≠ q.1 := fun e => h.1 (e ▸ List.mem_map_of_mem (hm p (List.mem_cons_self ..)))
        show (if p.1 = q.1 then q.2 else κ p.1) = p.2
        rw [if_neg hne]
        exact ha.1
    exact key r (fun _ h => h) hκ

theorem tabs' {β : Type} (d : β) (l : List (Nat × β)) {ks : List Nat} (h : l.map (·.1) = ks) (hd : ks.Nodup) : ∃ κ : Nat → β, AllT κ l := tabs d l (h ▸ hd)

theorem at_eq (E : Env) (fn : Func) (args res : List AM) {κJ κL : Nat → St → Option (HP res)} {p : List Nat} {ks : List (St → Option (HP res))} {l : List ((St → Option (HP res)) × (St → Option (HP res)))} (h : selT E κJ κL (tlsF E fn args res p ks) = l) (hl : AllE l) (σ : St) :
    atF E fn args res p ks σ = atQ E fn args res κJ κL p ks σ := (evAtQ_eq p _ ks _ _ _ σ (by unfold OkT; rw [show selT E κJ κL (tailsAt E p (codeOf fn) ks (krOf E fn args res) nox (krOf E fn args res)) = l from h]; exact hl.mem)).symm

end VM
end

section
/- The value machine, thirty-first text: tables; a function's contract; a law's call. -/
namespace VM
open Go Go.RowKit
variable {P : Program}

def lookT (i : Nat) : List (Nat × Ty) → Option Ty
  | [] => none
  | q :: r => cond (Nat.beq i q.1) (some q.2) (lookT i r)
theorem lookT_mem {i : Nat} {τ : Ty} : ∀ {l : List (Nat × Ty)}, lookT i l = some τ → (i, τ) ∈ l
  | q :: r, h => by
    unfold lookT at h
    cases hb : Nat.beq i q.1 <;> rw [hb] at h
    · exact List.mem_cons_of_mem _ (lookT_mem h)
    · cases h; rw [Nat.eq_of_beq_eq_true hb]; exact List.mem_cons_self ..

/-- A program whose types are as the table tells. -/
structure TabOk (P : Program) (tab : List (Nat × Ty)) : Prop where
  ok : tabOk P tab = true
  mixed : P.follows .mixedOrders = true

/-- A law's call: nothing is handed over, true comes back, and nothing that was there has turned. -/
theorem law_calls {E : Env} (hE : EnvOk P E) (hio0 : E.io = []) {f : FuncId} {fn : Func} (hf : P.funcs[f]? = some fn) (τs : List Ty)
    (hc : (Nat.beq E.nt fn.ntmps && Nat.ble τs.length E.nt) = true) {w : World} {vs : List Value} {x : HP (τs.map .v)} (hA : ArgsR w (fun _ => False) (τs.map .v) x vs)
    (h : evF E fn (τs.map .v) [.v .bool] x = some true) : Calls P f vs.toArray w fun e w' => e = .returned (.bool true) ∧ Below w.heap.size w w' := by
  rw [Bool.and_eq_true] at hc
  have hnt := Nat.eq_of_beq_eq_true hc.1
  have hlen := Nat.le_of_ble_eq_true hc.2
  have hh : ∀ (τs : List Ty) (vs : List Value), hands (τs.map .v) vs = [] := by
    intro τs
    induction τs with
    | nil => intro vs; cases vs <;> rfl
    | cons τ τs ih => intro vs; cases vs with
      | nil => rfl
      | cons v vs => simp [hands, hand1, ih]
  have hi : ∀ (τs : List Ty) (vs : List Value), iosOf (τs.map .v) vs = [] := by
    intro τs
    induction τs with
    | nil => intro vs; cases vs <;> rfl
    | cons τ τs ih => intro vs; cases vs with
      | nil => rfl
      | cons v vs => simp [iosOf, AM.isIo, ih]
  refine (evF_sound (M0 := fun _ => False) (vs := vs) hE hf hnt (fun i m hm hio => ?_) (fun i hi => by rw [hio0] at hi; cases hi) (by rw [List.length_map]; rw [← hnt]; exact hlen) (fun b hb => hb.elim) (by rw [hh]; simpa using hA) (by rw [hh]; exact List.nodup_nil) (fun b _ hb => hb) h).mono ?_
  · rw [List.getElem?_map] at hm
    obtain ⟨τ, _, rfl⟩ := Option.map_eq_some_iff.1 hm
    cases hio
  · rintro e w' ⟨v, rfl, us, M', rfl, hRR, hL, _, _⟩
    rw [hh] at hL
    rw [hi] at hRR
    simp only [RR] at hRR
    rcases hRR with ⟨p, ps', h1, _⟩ | ⟨v, vs', _, _, rfl, hv, rfl, _⟩
    · cases h1
    · refine ⟨?_, hL.os, hL.tape, hL.output, hL.size, fun b hb => hL.frame b hb (by simp)⟩
      have : v = .bool true := by
        simp only [A1, V, Ty.isAgg, Bool.false_eq_true, if_false, Rd, List.cons.injEq, and_true] at hv
        exact hv
      rw [this]; rfl

/-- What is asked of a parameter. -/
def argB (P : Program) : List Ty → List TypeId → Bool
  | [], [] => true
  | τ :: τs, t :: ts => (layB P τ (.inl t) && τ.solid) && ((P.readableRec t && decide (t < P.types.size)) && argB P τs ts)
  | _, _ => false

theorem argB_ok : ∀ {τs : List Ty} {ts : List TypeId}, argB P τs ts = true → τs.length = ts.length ∧ ∀ (j : Nat) τ t, τs[j]? = some τ → ts[j]? = some t → (Lay P τ t ∧ τ.solid = true ∧ P.readableRec t = true ∧ t < P.types.size)
  | [], [], _ => ⟨rfl, fun j τ t h => by simp at h⟩
  | τ :: τs, t :: ts, h => by
    simp only [argB, Bool.and_eq_true] at h
    obtain ⟨⟨h1, h2⟩, ⟨h3, h4⟩, h5⟩ := h
    obtain ⟨hl, ih⟩ := argB_ok h5
    refine ⟨by simp [hl], fun j τ' t' ha hb => ?_⟩
    cases j with
    | zero =>
      simp only [List.getElem?_cons_zero, Option.some.injEq] at ha hb
      subst ha; subst hb
      exact ⟨layB_ok h1, h2, h3, of_decide_eq_true h4⟩
    | succ j => exact ih j τ' t' (by simpa using ha) (by simpa using hb)
  | [], _ :: _, h | _ :: _, [], h => by simp [argB] at h

/-- A law's arguments, as values; and its call. -/
theorem row_args {H : Type} {enc : TypeId × Value → H} {w : World} {fn : Func} {args : Array Value} {ds : List (DataW H)} {ps : List MemPlace} {r : Reach} {b0 : Nat} (laid : laidOutB P = true) (τs : List Ty)
    (hA : DataW.TrodAll enc P w 0 (fun _ => true) true fn.params.toList args.toList ds ps) (hty : argB P τs fn.params.toList = true)
    (hv : ∀ (j : Nat) t v, fn.params[j]? = some t → args[j]? = some v → Value.okWide P w r b0 t v) :
    (∃ x : HP (τs.map .v), ArgsR w (fun _ => False) (τs.map .v) x args.toList ∧ WFs τs x) ∧ ∀ w', Below w.heap.size w w' → ∃ ps', DataW.TrodAll enc P w' 0 (fun b => decide (b < w.heap.size)) true fn.params.toList args.toList ds ps' :=
  open_args laid hA (argB_ok hty).1 (argB_ok hty).2 (fun j t v h h' => hv j t v (by rw [Array.getElem?_toList] at h; exact h) (by rw [Array.getElem?_toList] at h'; exact h'))

end VM
end

