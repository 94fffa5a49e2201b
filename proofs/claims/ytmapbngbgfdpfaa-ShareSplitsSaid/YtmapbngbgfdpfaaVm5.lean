/- A part of the proof of the six laws of layer 3: a machine that reads a function of the program as an equation between values. -/
import Derived.Test.YtmapbngbgfdpfaaVm4
import Derived.Laws.StructEq
import Derived.OpenShut
import Derived.ChangeShapes
import Derived.ChangeMaps5
import Derived.RowKit
import Derived.ChangeOld
import Derived.Carry
import Derived.Below
import Derived.Test.YtmapbngbgfdpfaaVm0
import Derived.Laws.Externs
import Derived.Shelf.Spec.SlicesInsertGrow
set_option linter.all false
section
/- The value machine, twenty-eighth text: what the evaluator answers, the function answers. -/
namespace VM
open Go
variable {P : Program} {E : Env} {o : Oper} {a : Act} {w : World} {M : Nat → Prop} {ν : Nat → Value} {σ : St} {c : Ctx} {α : Type} {r : α} {next : Act → World → Prop} {Q : Exit → Act → World → Prop}

theorem rsR_split {tm : Array Value} : ∀ {rv : List ResultVar} {is : List (ResultVar ⊕ Nat)} {us ps : List Value}, RsR P tm w (rv.map .inl ++ is) us ps →
    ∃ us1 us2, us = us1 ++ us2 ∧ us1.length = rv.length ∧ (∀ i (h : i < rv.length) (h' : i < us1.length), ResV P tm w rv[i] us1[i]) ∧ RsR P tm w is us2 ps
  | [], is, us, ps, h => ⟨[], us, rfl, rfl, fun i h => by simp at h, h⟩
  | rv :: rvs, is, us, ps, h => by
    simp only [List.map_cons, List.cons_append, RsR] at h
    obtain ⟨u, us', rfl, h1, h2⟩ := h
    obtain ⟨us1, us2, rfl, hl, h3, h4⟩ := rsR_split h2
    refine ⟨u :: us1, us2, rfl, by simp [hl], fun i hi hi' => ?_, h4⟩
    cases i with
    | zero => exact h1
    | succ i => exact h3 i (by simpa using hi) (by simpa using hi')

theorem rsR_io {tm : Array Value} : ∀ {ms : List AM} {vs : List Value} {i : Nat} {us ps : List Value}, vs.length = ms.length → (∀ j v m, vs[j]? = some v → ms[j]? = some m → m.isIo = true → tm.getD (i + j) undef = v) → RsR P tm w (ioOf ms i) us ps → us = [] ∧ ps = iosOf ms vs
  | [], vs, i, us, ps, _, _, h => by simp only [ioOf, RsR] at h; simpa [iosOf] using h
  | m :: ms, [], _, _, _, hl, _, _ => by simp at hl
  | m :: ms, v :: vs, i, us, ps, hl, htm, h => by
    have htm' : ∀ j u m, vs[j]? = some u → ms[j]? = some m → m.isIo = true → tm.getD (i + 1 + j) undef = u := fun j u m hj hm hio => by
      have := htm (j + 1) u m (by simpa using hj) (by simpa using hm) hio
      rwa [show i + (j + 1) = i + 1 + j from by omega] at this
    have hl' : vs.length = ms.length := by simpa using hl
    cases m with
    | io τ =>
      simp only [ioOf, RsR] at h
      obtain ⟨p, ps', rfl, hp, h⟩ := h
      obtain ⟨h1, h2⟩ := rsR_io hl' htm' h
      refine ⟨h1, ?_⟩
      have := htm 0 v (.io τ) rfl rfl rfl
      simp only [Nat.add_zero] at this
      simp [iosOf, AM.isIo, h2, hp, this]
    | v τ =>
      obtain ⟨h1, h2⟩ := rsR_io hl' htm' (show RsR P tm w (ioOf ms (i + 1)) us ps from h)
      exact ⟨h1, by simp [iosOf, AM.isIo, h2]⟩
    | own τ =>
      obtain ⟨h1, h2⟩ := rsR_io hl' htm' (show RsR P tm w (ioOf ms (i + 1)) us ps from h)
      exact ⟨h1, by simp [iosOf, AM.isIo, h2]⟩
    | fn f τ =>
      obtain ⟨h1, h2⟩ := rsR_io hl' htm' (show RsR P tm w (ioOf ms (i + 1)) us ps from h)
      exact ⟨h1, by simp [iosOf, AM.isIo, h2]⟩

theorem run_results {fn : Func} {tm : Array Value} {us : List Value} (hl : us.length = fn.results.toList.length) (h : ∀ i (h : i < fn.results.toList.length) (h' : i < us.length), ResV P tm w fn.results.toList[i] us[i]) :
    (results fn tm).run P w = .ok (packV us) w := by
  have key : ∀ (rs : List ResultVar) (us : List Value), us.length = rs.length → (∀ i (h : i < rs.length) (h' : i < us.length), ResV P tm w rs[i] us[i]) → (rs.mapM (resSem tm)).run P w = .ok us w := by
    intro rs
    induction rs with
    | nil => intro us hl _; cases us with
      | nil => simp
      | cons _ _ => simp at hl
    | cons r rs ih => intro us hl h; cases us with
      | nil => simp at hl
      | cons u us =>
        have h0 : (resSem tm r).run P w = .ok u w := h 0 (by simp) (by simp)
        have h1 := ih us (by simpa using hl) (fun i hi hi' => h (i + 1) (by simpa using hi) (by simpa using hi'))
        simp [List.mapM_cons, h0, h1]
  have h2 := key fn.results.toList us hl h
  have h3 : results fn tm = (do let vs ← fn.results.mapM (resSem tm); pure (if h : vs.size = 1 then vs[0] else .tuple vs)) := by
    unfold results
    congr 1
  rw [h3, Array.mapM_eq_mapM_toList]
  simp only [Sem.run_bind, Sem.run_map, h2]
  unfold packV
  by_cases h3 : us.length = 1
  · simp [h3]
  · simp [h3]

theorem evF_sound (hE : EnvOk P E) {f : FuncId} {fn : Func} (hf : P.funcs[f]? = some fn) (hnt : E.nt = fn.ntmps) {args res : List AM} (hio : ∀ i m, args[i]? = some m → m.isIo = true → i ∈ E.io) (hiot : ∀ i ∈ E.io, i < args.length) (hlen : args.length ≤ fn.ntmps)
    {M0 : Nat → Prop} {vs : List Value} {x : HP args} {y : HP res} (hlim : ∀ b, M0 b → b < w.heap.size) (hA : ArgsR w (fun b => M0 b ∨ b ∈ hands args vs) args x vs) (hnd : (hands args vs).Nodup) (hdis : ∀ b ∈ hands args vs, ¬ M0 b)
    (h : evF E fn args res x = some y) :
    Calls P f vs.toArray w fun e w' => ∃ v, e = .returned v ∧ ∃ us M', v = packV us ∧ RR w' M' res y us (iosOf args vs) ∧ Left w M0 (hands args vs) w' M' ∧ (blocksR res us (iosOf args vs)).Nodup ∧ ∀ b ∈ blocksR res us (iosOf args vs), ¬ M0 b := by
  unfold evF at h
  split at h
  · cases h
  rename_i cd hb
  simp only at h
  have hvl : ∀ {ms : List AM} {x : HP ms} {vs : List Value} {M : Nat → Prop}, ArgsR w M ms x vs → vs.length = ms.length := by
    intro ms
    induction ms with
    | nil => intro x vs M h; simp only [ArgsR] at h; subst h; rfl
    | cons m ms ih => intro x vs M h; simp only [ArgsR] at h; obtain ⟨v, vs', rfl, _, h⟩ := h; simp [ih h]
  have hvs := hvl hA
  let tm : Array Value := vs.toArray ++ Array.replicate (fn.ntmps - vs.toArray.size) undef
  have htm : ∀ j v, vs[j]? = some v → tm.getD j undef = v := by
    intro j v hj
    have hlt : j < vs.length := (List.getElem?_eq_some_iff.1 hj).1
    rw [Array.getD_eq_getD_getElem?, Array.getElem?_append_left (by simpa using hlt), List.getElem?_toArray, hj]; rfl
  have hsz : tm.size = fn.ntmps := by simp [tm]; omega
  -- the blocks that are handed over are there
  have hhb : ∀ {ms : List AM} {x : HP ms} {vs : List Value} {M : Nat → Prop}, ArgsR w M ms x vs → ∀ b ∈ hands ms vs, b < w.heap.size := by
    intro ms
    induction ms with
    | nil => intro x vs M h b hb; simp [hands] at hb
    | cons m ms ih =>
      intro x vs M h b hb
      simp only [ArgsR] at h
      obtain ⟨v, vs', rfl, h1, h⟩ := h
      simp only [hands, List.mem_append] at hb
      rcases hb with hb | hb
      · cases m with
        | v _ => simp [hand1] at hb
        | fn _ _ => simp [hand1] at hb
        | own e =>
          simp only [hand1, Option.mem_toList, A1, ER] at hb h1
          rcases h1 with ⟨_, a, hv⟩ | ⟨b', cs, t, cap, hv, hg, _⟩
          · rw [hv] at hb; cases a <;> simp [blk] at hb
          · rw [hv] at hb
            simp only [blk] at hb
            split at hb
            · cases hb
            · simp only [Option.some.injEq] at hb; subst hb; exact lt_of_block hg
        | io τ =>
          simp only [hand1, Option.mem_toList, A1, ER] at hb h1
          obtain ⟨b', cs, t, hv, hg, _⟩ := h1
          rw [hv] at hb
          simp only [blk, Option.some.injEq] at hb; subst hb; exact lt_of_block hg
      · exact ih h b hb
  let cx : Ctx := { B := w.heap.size, w0 := w, M0 := M0, may := fun b => b ∈ hands args vs, arg := fun i => tm.getD i undef }
  have hm0 : Mem cx (fun _ => none) w (fun b => M0 b ∨ b ∈ hands args vs) (fun _ => undef) :=
    ⟨fun i e hi => (by cases hi), fun i j e e' b _ hi => (by cases hi), fun i e b hi => (by cases hi), fun i e l b hi => (by cases hi), fun b hb => .inl hb, fun b hb => hb.elim (hlim b) (hhb hA b), fun _ _ _ => rfl, Nat.le_refl _, hlim, rfl, rfl, rfl⟩
  have hc0 : Core cx ⟨fun _ => .any, fun _ => none⟩ tm w (fun b => M0 b ∨ b ∈ hands args vs) (fun _ => undef) := ⟨hm0, fun i => by simp [VR]⟩
  obtain ⟨ν', hc⟩ := entry_sound (i := 0) (used := []) hc0 hA (fun j v hj => by rw [Nat.zero_add]; exact htm j v hj) (fun _ _ => rfl) (fun j e b hj => by cases hj) (by simpa using hnd) (fun b hb => hb) (fun b hb => hdis b hb)
  have hI : Inv cx E (entry args x 0 ⟨fun _ => .any, fun _ => none⟩) { tmps := tm, defers := [] } w := ⟨⟨_, _, hc⟩, by rw [hnt, hsz], rfl, fun i _ => rfl⟩
  refine calls_of_wp hf hb ?_
  have hret : ∀ (σ' : St) (a' : Act) (w' : World), retK E res (fn.results.toList.map .inl ++ ioOf args 0) σ' some = some y → Inv cx E σ' a' w' →
      a'.defers = [] ∧ ∃ v, (results fn a'.tmps).run P w' = .ok v w' ∧ ∃ v', Ending.returned v = .returned v' ∧ ∃ us M', v' = packV us ∧ RR w' M' res y us (iosOf args vs) ∧ Left w M0 (hands args vs) w' M' ∧ (blocksR res us (iosOf args vs)).Nodup ∧ ∀ b ∈ blocksR res us (iosOf args vs), ¬ M0 b := by
    rintro σ' a' w' hk ⟨⟨M1, ν1, hc1⟩, hs1, hd1, harg⟩
    obtain ⟨y', us, ps, H2, uo, uf, io, Hq, M2, hy, hA2, hK, hRR, hRs⟩ := retK_sound (P := P) hE.toEnvTy (ArgSt.start hc1.mem) hc1.tmp hk
    cases hy
    obtain ⟨us1, us2, rfl, hl, hv, hio2⟩ := rsR_split hRs
    obtain ⟨rfl, hps⟩ := rsR_io (vs := vs) hvs (fun j v m hj hm hmio => by
      rw [Nat.zero_add]
      rw [harg j (hio j m hm hmio)]
      exact htm j v hj) hio2
    rw [List.append_nil] at *
    subst hps
    simp only [List.nil_append] at hA2
    have hprov : ∀ b ∈ blocksR res us1 (iosOf args vs), b < w.heap.size → b ∈ hands args vs := fun b hb hlt => (hA2.prov b hb).elim (fun h' => absurd hlt (Nat.not_lt.2 h')) (fun h => h)
    have hkeep : Keeps w' M2 w' (fun b => M2 b ∧ (b < w.heap.size → M0 b ∨ b ∈ hands args vs)) := ⟨Nat.le_refl _, fun _ _ _ => rfl, fun _ _ h => h.1⟩
    refine ⟨hd1, packV us1, run_results hl hv, _, rfl, us1, fun b => M2 b ∧ (b < w.heap.size → M0 b ∨ b ∈ hands args vs), rfl, RR.keepV hkeep (fun b hb => ⟨rfl, hRR.blocks_mem b hb, fun hlt => .inr (hprov b hb hlt)⟩) hRR, ⟨fun b hb => ⟨hA2.mem.sub b hb, fun _ => .inl hb⟩, fun b hb => hA2.mem.lim b hb.1, fun b hlt hb => hb.2 hlt, fun b hlt hb => hA2.mem.frame b hlt hb, hA2.mem.size, hA2.mem.os, hA2.mem.tape, hA2.mem.output⟩, hA2.nd, fun b hb h0 => ?_⟩
    rcases hA2.prov b hb with h' | h'
    · exact absurd (hlim b h0) (Nat.not_lt.2 h')
    · exact hdis b h' h0
  refine evC_sound (c := cx) hE cd _ _ w _ _ _ _ hI h (fun σ' a' w' hk hI' => ?_) (fun i σ' a' w' hk => by cases hk) (fun σ' a' w' hk hI' => ?_)
  · exact hret σ' a' w' hk hI'
  · exact hret σ' a' w' hk hI'

/-- A summary that the evaluator bears out. -/
theorem sumOk_of (hE : EnvOk P E) {f : FuncId} {fn : Func} (hf : P.funcs[f]? = some fn) (hname : (fn.name == "runtime.NumGoroutine") = false) (hnt : E.nt = fn.ntmps) (S : Summ)
    (hio : ∀ i m, S.args[i]? = some m → m.isIo = true → i ∈ E.io) (hiot : ∀ i ∈ E.io, i < S.args.length) (hlen : S.args.length ≤ fn.ntmps) (hq : S.quiet = true → S.res.all AM.flat = true) (hios : ioTys S.args = ioTys S.res)
    (hrun : ∀ x, evF E fn S.args S.res x = S.run x) : SumOk P f S := by
  refine ⟨hq, hios, fun M0 w vs x y hlim hA hnd hdis hy => ?_⟩
  have hb : fn.body.isNone = false := by
    have := hrun x
    rw [hy] at this
    unfold evF at this
    split at this
    · cases this
    · rename_i cd hcd; rw [hcd]; rfl
  exact does_of_calls hf hname hb (evF_sound hE hf hnt hio hiot hlen hlim hA hnd hdis (by rw [hrun, hy]))

end VM
end

section
/- The value machine, twenty-ninth text: a program's types, checked by a run in the kernel. -/
namespace VM
open Go
variable {P : Program}

/-- Takes a shape's zero cells off a list's front. -/
def eatZ : Ty → List Value → Option (List Value)
  | .int k, v :: r => match v with
    | .int k' n => if k' = k ∧ n = 0 then some r else none
    | _ => none
  | .bool, v :: r => match v with
    | .bool false => some r
    | _ => none
  | .str, v :: r => match v with
    | .string s => if s.data.size = 0 then some r else none
    | _ => none
  | .slice _, v :: r => match v with
    | .slice none n m => if n = 0 ∧ m = 0 then some r else none
    | _ => none
  | .unit, r => some r
  | .pair a b, r => match eatZ a r with
    | some r => eatZ b r
    | none => none
  | .arr n e, r => Nat.rec (motive := fun _ => List Value → Option (List Value)) (fun r => some r) (fun _ ih r => match eatZ e r with
    | some r => ih r
    | none => none) n r
  | _, [] => none

theorem eatZ_ok : ∀ {τ : Ty} {l r : List Value}, eatZ τ l = some r → l = τ.zcells ++ r
  | .int k, [], _, h | .bool, [], _, h | .str, [], _, h | .slice _, [], _, h => by simp [eatZ] at h
  | .int k, v :: l, r, h => by
    simp only [eatZ] at h
    split at h
    · split at h
      · rename_i hc; obtain ⟨rfl, rfl⟩ := hc; cases h; rfl
      · cases h
    · cases h
  | .bool, v :: l, r, h => by
    simp only [eatZ] at h
    split at h
    · cases h; rfl
    · cases h
  | .str, v :: l, r, h => by
    simp only [eatZ] at h
    split at h
    · rename_i s
      split at h
      · rename_i hs
        cases h
        have : s = ByteArray.empty := by
          obtain ⟨d⟩ := s
          have : d = #[] := Array.eq_empty_of_size_eq_zero hs
          subst this; rfl
        subst this; rfl
      · cases h
    · cases h
  | .slice _, v :: l, r, h => by
    simp only [eatZ] at h
    split at h
    · split at h
      · rename_i hc; obtain ⟨rfl, rfl⟩ := hc; cases h; rfl
      · cases h
    · cases h
  | .unit, l, r, h => by simp only [eatZ] at h; cases h; rfl
  | .pair a b, l, r, h => by
    simp only [eatZ] at h
    split at h
    · rename_i r1 h1
      rw [eatZ_ok h1, eatZ_ok h]; simp [Ty.zcells]
    · cases h
  | .arr n e, l, r, h => by
    simp only [eatZ] at h
    simp only [Ty.zcells]
    induction n generalizing l with
    | zero => cases h; rfl
    | succ n ih =>
      simp only at h
      split at h
      · rename_i r1 h1
        rw [eatZ_ok h1, ih _ h]; simp [List.replicate_succ]
      · cases h

def baseB (P : Program) (τ : Ty) (t : TypeId) : Bool :=
  match P.info? t with
  | none => false
  | some i => Nat.beq i.size τ.size && Nat.ble i.bytes 2048 && (match i.zero with
    | none => false
    | some z => match τ.isAgg, z with
      | true, .agg cs => (match eatZ τ cs.toList with | some [] => true | _ => false)
      | false, z => (match eatZ τ [z] with | some [] => true | _ => false)
      | _, _ => false)

theorem baseB_ok {τ : Ty} {t : TypeId} (h : baseB P τ t = true) : Base P τ t := by
  unfold baseB at h
  split at h
  · cases h
  · rename_i i hi
    simp only [Bool.and_eq_true, Nat.ble_eq] at h
    obtain ⟨⟨h1, h2⟩, h3⟩ := h
    refine ⟨i, hi, Nat.eq_of_beq_eq_true h1, ?_, h2⟩
    split at h3
    · cases h3
    · rename_i z hz
      rw [hz]
      split at h3
      · rename_i _ cs ha
        split at h3
        · rename_i he
          have := eatZ_ok he
          unfold ofCells
          rw [if_pos ha, ← List.append_nil τ.zcells, ← this]
        · cases h3
      · rename_i ha
        split at h3
        · rename_i he
          have := eatZ_ok he
          unfold ofCells
          rw [if_neg (by rw [ha]; exact Bool.false_ne_true), ← List.append_nil τ.zcells, ← this]; rfl
        · cases h3
      · cases h3

def layB (P : Program) : Ty → TypeId ⊕ (Array Field × Nat × Nat) → Bool
  | .int k, .inl t => baseB P (.int k) t && (match P.underlying t with | some (.int k') => decide (k' = k) | _ => false)
  | .bool, .inl t => baseB P .bool t && (match P.underlying t with | some .bool => true | _ => false)
  | .str, .inl t => baseB P .str t && (match P.underlying t with | some .string => true | _ => false)
  | .slice e, .inl t => baseB P (.slice e) t && (match P.underlying t with | some (.slice e') => layB P e (.inl e') | _ => false)
  | .arr n e, .inl t => baseB P (.arr n e) t && (match P.underlying t with | some (.array n' e') => Nat.beq n' n && layB P e (.inl e') | _ => false)
  | .unit, .inl t => baseB P .unit t && (match P.underlying t with | some (.struct fs) => Nat.beq fs.size 0 | _ => false)
  | .unit, .inr q => Nat.beq q.1.size q.2.1
  | .pair a b, .inl t => baseB P (.pair a b) t && (match P.underlying t with
    | some (.struct fs) => (match fs[0]? with
      | some f => Nat.beq f.offset 0 && (layB P a (.inl f.type) && layB P b (.inr (fs, 1, a.size)))
      | none => false)
    | _ => false)
  | .pair a b, .inr q => (match q.1[q.2.1]? with
    | some f => Nat.beq f.offset q.2.2 && (layB P a (.inl f.type) && layB P b (.inr (q.1, q.2.1 + 1, q.2.2 + a.size)))
    | none => false)
  | _, .inr _ => false

theorem layB_ok : ∀ {τ : Ty} {x : TypeId ⊕ (Array Field × Nat × Nat)}, layB P τ x = true → LayG P τ x
  | .int k, .inl t, h => by
    simp only [layB, Bool.and_eq_true] at h
    refine ⟨baseB_ok h.1, ?_⟩
    have h := h.2
    split at h
    · rename_i k' hu; rw [hu, of_decide_eq_true h]
    · cases h
  | .bool, .inl t, h => by
    simp only [layB, Bool.and_eq_true] at h
    refine ⟨baseB_ok h.1, ?_⟩
    have h := h.2
    split at h
    · rename_i hu; exact hu
    · cases h
  | .str, .inl t, h => by
    simp only [layB, Bool.and_eq_true] at h
    refine ⟨baseB_ok h.1, ?_⟩
    have h := h.2
    split at h
    · rename_i hu; exact hu
    · cases h
  | .slice e, .inl t, h => by
    simp only [layB, Bool.and_eq_true] at h
    refine ⟨baseB_ok h.1, ?_⟩
    have h := h.2
    split at h
    · rename_i e' hu; exact ⟨e', hu, layB_ok h⟩
    · cases h
  | .arr n e, .inl t, h => by
    simp only [layB, Bool.and_eq_true] at h
    refine ⟨baseB_ok h.1, ?_⟩
    have h := h.2
    split at h
    · rename_i n' e' hu
      simp only [Bool.and_eq_true] at h
      obtain ⟨h0, h⟩ := h
      rw [Nat.eq_of_beq_eq_true h0] at hu
      exact ⟨e', hu, layB_ok h⟩
    · cases h
  | .unit, .inl t, h => by
    simp only [layB, Bool.and_eq_true] at h
    refine ⟨baseB_ok h.1, ?_⟩
    have h := h.2
    split at h
    · rename_i fs hu; exact ⟨fs, hu, Nat.eq_of_beq_eq_true h⟩
    · cases h
  | .unit, .inr (fs, n, o), h => by simp only [layB] at h; exact Nat.eq_of_beq_eq_true h
  | .pair a b, .inl t, h => by
    simp only [layB, Bool.and_eq_true] at h
    refine ⟨baseB_ok h.1, ?_⟩
    have h := h.2
    split at h
    · rename_i fs hu
      split at h
      · rename_i f hf
        simp only [Bool.and_eq_true] at h
        exact ⟨fs, f, hu, hf, Nat.eq_of_beq_eq_true h.1, layB_ok h.2.1, layB_ok h.2.2⟩
      · cases h
    · cases h
  | .pair a b, .inr (fs, n, o), h => by
    simp only [layB] at h
    split at h
    · rename_i f hf
      simp only [Bool.and_eq_true] at h
      exact ⟨f, hf, Nat.eq_of_beq_eq_true h.1, layB_ok h.2.1, layB_ok h.2.2⟩
    · cases h
  | .int _, .inr _, h | .bool, .inr _, h | .str, .inr _, h | .slice _, .inr _, h | .arr _ _, .inr _, h => by simp [layB] at h

/-- '==' at a struct goes through its fields. -/
def eqTyB (P : Program) : Ty → TypeId ⊕ (Array Field × Nat) → Bool
  | .int _, .inl _ | .bool, .inl _ | .str, .inl _ => true
  | .unit, .inl t => !P.stoodInHeld t
  | .unit, .inr _ => true
  | .pair a b, .inl t => !P.stoodInHeld t && (match P.underlying t with
    | some (.struct fs) => (match fs[0]? with
      | some f => f.name != "_" && (eqTyB P a (.inl f.type) && eqTyB P b (.inr (fs, 1)))
      | none => false)
    | _ => false)
  | .pair a b, .inr q => (match q.1[q.2]? with
    | some f => f.name != "_" && (eqTyB P a (.inl f.type) && eqTyB P b (.inr (q.1, q.2 + 1)))
    | none => false)
  | _, _ => false

def Ty.deep : Ty → Nat
  | .pair a b => a.deep + b.deep + 1
  | _ => 1

theorem V.ofC {w : World} {M : Nat → Prop} {τ : Ty} {cs : List Value} {x : τ.den} (h : Rd w M τ cs x) : V w M τ (VM.ofCells τ cs) x := V.ofCells h

mutual
theorem eq_sound {w : World} {M : Nat → Prop} : ∀ {τ : Ty} {t : TypeId} {u v : Value} {x y : τ.den} {d : Nat}, Lay P τ t → eqTyB P τ (.inl t) = true → V w M τ u x → V w M τ v y → τ.deep ≤ d → (Op.equalIn d t u v).run P w = .ok (teq τ x y) w
  | .int k, t, u, v, x, y, d + 1, hl, _, hx, hy, _ => by
    simp only [V, Ty.isAgg, Bool.false_eq_true, if_false, Rd, List.cons.injEq, and_true] at hx hy
    subst hx; subst hy
    rw [run_equalIn_int w d t k k _ _ hl.int]; simp only [teq, eqB_eq]; congr 1
  | .bool, t, u, v, x, y, d + 1, hl, _, hx, hy, _ => by
    simp only [V, Ty.isAgg, Bool.false_eq_true, if_false, Rd, List.cons.injEq, and_true] at hx hy
    subst hx; subst hy
    rw [run_equalIn_bool w d t _ _ hl.bool]; simp only [teq]
  | .str, t, u, v, x, y, d + 1, hl, _, hx, hy, _ => by
    simp only [V, Ty.isAgg, Bool.false_eq_true, if_false, Rd, List.cons.injEq, and_true] at hx hy
    subst hx; subst hy
    rw [run_equalIn_string w d t _ _ hl.str]; simp only [teq, strEq_eq]; congr 1; rw [Bool.eq_iff_iff]; simp
  | .slice _, _, _, _, _, _, _, _, h, _, _, _ | .arr _ _, _, _, _, _, _, _, _, h, _, _, _ => by simp [eqTyB] at h
  | .unit, t, u, v, x, y, d + 1, hl, he, hx, hy, _ => by
    simp only [V, Ty.isAgg, if_true] at hx hy
    obtain ⟨cs, rfl, _⟩ := hx
    obtain ⟨cs', rfl, _⟩ := hy
    simp only [Lay, LayG] at hl
    obtain ⟨_, fs, hu, h0⟩ := hl
    have hfs : P.fieldsOf t = fs := by simp [Program.fieldsOf, hu]
    rw [run_equalIn_struct w d t cs cs' (by rw [hfs]; exact hu) (by simpa [eqTyB] using he), hfs]
    have : fs.toList = [] := by rw [← List.length_eq_zero_iff, Array.length_toList]; exact h0
    rw [this]; simp [Op.eqFields, teq]
  | .pair a b, t, u, v, x, y, d + 1, hl, he, hx, hy, hd => by
    simp only [V, Ty.isAgg, if_true] at hx hy
    obtain ⟨cs, rfl, hx⟩ := hx
    obtain ⟨cs', rfl, hy⟩ := hy
    simp only [Lay, LayG] at hl
    obtain ⟨_, fs, f, hu, hf, ho, hla, hlb⟩ := hl
    have hfs : P.fieldsOf t = fs := by simp [Program.fieldsOf, hu]
    simp only [eqTyB, hu, hf, Bool.and_eq_true] at he
    rw [run_equalIn_struct w d t cs cs' (by rw [hfs]; exact hu) (by simpa using he.1), hfs]
    have h0 : fs.toList = f :: fs.toList.drop 1 := by
      have h1 := List.drop_eq_getElem_cons (l := fs.toList) (i := 0) (by rw [Array.length_toList]; exact (Array.getElem?_eq_some_iff.1 hf).1)
      rw [List.drop_zero] at h1
      rw [h1]; congr 1
      rw [Array.getElem_toList]; exact (Array.getElem?_eq_some_iff.1 hf).2
    simp only [Ty.deep] at hd
    rw [h0]
    have hx' : Rd w M (.pair a b) (cs.toList.drop 0) x := by rw [List.drop_zero]; exact hx
    have hy' : Rd w M (.pair a b) (cs'.toList.drop 0) y := by rw [List.drop_zero]; exact hy
    have hne : f.name ≠ "_" := by simpa using he.2.1
    simp only [Op.eqFields, hne, ne_eq, not_false_eq_true, if_true]
    exact eqStep (off := 0) ho hla he.2.2.1 hx' hy' (by omega) (fun h1 h2 => eqRest (n := 1) (fs := fs) (off := a.size) hlb he.2.2.2 (by rw [Nat.zero_add] at h1; exact h1) (by rw [Nat.zero_add] at h2; exact h2) (by omega))
  | .int _, _, _, _, _, _, 0, _, _, _, _, hd | .bool, _, _, _, _, _, 0, _, _, _, _, hd | .str, _, _, _, _, _, 0, _, _, _, _, hd | .unit, _, _, _, _, _, 0, _, _, _, _, hd | .pair _ _, _, _, _, _, _, 0, _, _, _, _, hd => by simp [Ty.deep] at hd

theorem eqRest {w : World} {M : Nat → Prop} : ∀ {b : Ty} {fs : Array Field} {n off : Nat} {cs cs' : Array Value} {x y : b.den} {d : Nat}, LayG P b (.inr (fs, n, off)) → eqTyB P b (.inr (fs, n)) = true → Rd w M b (cs.toList.drop off) x → Rd w M b (cs'.toList.drop off) y → b.deep ≤ d →
    (Op.eqFields d cs cs' (fs.toList.drop n)).run P w = .ok (teq b x y) w
  | .unit, fs, n, off, cs, cs', x, y, d, hl, _, _, _, _ => by
    simp only [LayG] at hl
    rw [List.drop_of_length_le (by rw [Array.length_toList]; omega)]
    simp [Op.eqFields, teq]
  | .pair a b, fs, n, off, cs, cs', x, y, d, hl, he, hx, hy, hd => by
    simp only [LayG] at hl
    obtain ⟨f, hf, ho, hla, hlb⟩ := hl
    simp only [eqTyB, hf, Bool.and_eq_true] at he
    have h0 : fs.toList.drop n = f :: fs.toList.drop (n + 1) := by
      rw [List.drop_eq_getElem_cons (l := fs.toList) (i := n) (by rw [Array.length_toList]; exact (Array.getElem?_eq_some_iff.1 hf).1)]
      congr 1
      rw [Array.getElem_toList]; exact (Array.getElem?_eq_some_iff.1 hf).2
    simp only [Ty.deep] at hd
    rw [h0]
    have hne : f.name ≠ "_" := by simpa using he.1
    simp only [Op.eqFields, hne, ne_eq, not_false_eq_true, if_true]
    exact eqStep ho hla he.2.1 hx hy (by omega) (fun h1 h2 => eqRest hlb he.2.2 h1 h2 (by omega))
  | .int _, _, _, _, _, _, _, _, _, hl, _, _, _, _ | .bool, _, _, _, _, _, _, _, _, hl, _, _, _, _ | .str, _, _, _, _, _, _, _, _, hl, _, _, _, _ | .slice _, _, _, _, _, _, _, _, _, hl, _, _, _, _ | .arr _ _, _, _, _, _, _, _, _, _, hl, _, _, _, _ => by simp [LayG] at hl

theorem eqStep {w : World} {M : Nat → Prop} {a b : Ty} {f : Field} {fs : List Field} {off : Nat} {cs cs' : Array Value} {x y : (Ty.pair a b).den} {d : Nat} (ho : f.offset = off) (hla : Lay P a f.type) (he : eqTyB P a (.inl f.type) = true)
    (hx : Rd w M (.pair a b) (cs.toList.drop off) x) (hy : Rd w M (.pair a b) (cs'.toList.drop off) y) (hd : a.deep ≤ d)
    (hr : Rd w M b (cs.toList.drop (off + a.size)) x.2 → Rd w M b (cs'.toList.drop (off + a.size)) y.2 → (Op.eqFields d cs cs' fs).run P w = .ok (teq b x.2 y.2) w) :
    (do let u ← part f.type cs f.offset; let v ← part f.type cs' f.offset; let r ← Op.equalIn d f.type u v; if (!r) = true then pure false else Op.eqFields d cs cs' fs : Sem Bool).run P w = .ok (teq (.pair a b) x y) w := by
  simp only [Rd] at hx hy
  obtain ⟨c1, c2, hc, h1, h2⟩ := hx
  obtain ⟨c1', c2', hc', h1', h2'⟩ := hy
  subst ho
  have p1 : (cs.toList.drop f.offset).take a.size = c1 := by rw [hc, List.take_left' h1.length]
  have p2 : (cs'.toList.drop f.offset).take a.size = c1' := by rw [hc', List.take_left' h1'.length]
  have q1 : cs.toList.drop (f.offset + a.size) = c2 := by rw [← List.drop_drop, hc, List.drop_left' h1.length]
  have q2 : cs'.toList.drop (f.offset + a.size) = c2' := by rw [← List.drop_drop, hc', List.drop_left' h1'.length]
  have r1 := run_part hla (w := w) (M := M) (cs := cs) (off := f.offset) (x := x.1) (by rw [p1]; exact h1)
  have r2 := run_part hla (w := w) (M := M) (cs := cs') (off := f.offset) (x := y.1) (by rw [p2]; exact h1')
  have r3 := eq_sound (d := d) hla he (V.ofC (by rw [p1]; exact h1) : V w M a (VM.ofCells a ((cs.toList.drop f.offset).take a.size)) x.1) (V.ofC (by rw [p2]; exact h1') : V w M a (VM.ofCells a ((cs'.toList.drop f.offset).take a.size)) y.1) hd
  simp only [Sem.run_bind, r1, r2, r3, Result.andThen_ok, teq]
  cases teq a x.1 y.1
  · simp
  · simpa using hr (by rw [q1]; exact h2) (by rw [q2]; exact h2')
end

/-- A type that is compared. -/
def eqTB (P : Program) (τ : Ty) (t : TypeId) : Bool := !(τ.comparable && τ.isAgg) || (eqTyB P τ (.inl t) && (Nat.ble τ.deep 10000 && !P.eqGuardType P.depth t))

theorem eqTB_ok {τ : Ty} {t : TypeId} (hl : Lay P τ t) (h : eqTB P τ t = true) (hc : τ.comparable = true) (ha : τ.isAgg = true) : EqOk P t τ := by
  unfold eqTB at h
  rw [hc, ha] at h
  simp only [Bool.and_self, Bool.not_true, Bool.false_or, Bool.and_eq_true, Nat.ble_eq, Bool.not_eq_true'] at h
  obtain ⟨h1, h2, h3⟩ := h
  intro w M u v x y b xo yo hx hy
  have he := eq_sound (d := 10000) hl h1 hx hy h2
  unfold V at hx hy
  rw [if_pos ha] at hx hy
  obtain ⟨cs, rfl, _⟩ := hx
  obtain ⟨cs', rfl, _⟩ := hy
  refine ⟨?_, ?_, ?_⟩
  · cases b <;> simp [eqGuard, h3]
  · simp only [binOp]; simp [Op.equal, Op.maxDepth, he]
  · simp only [binOp]; simp [Op.equal, Op.maxDepth, he]

/-- A table of types. -/
def tabOk (P : Program) (l : List (Nat × Ty)) : Bool := l.all fun q => layB P q.2 (.inl q.1) && eqTB P q.2 q.1

end VM
end

section
/- The value machine, thirtieth text: what comes in, as values. -/
namespace VM
open Go Go.WideShapes Go.RowKit Go.ChangeShapes

/-- What values of types can be. -/
def WF : (τ : Ty) → τ.den → Prop
  | .int k, x => (Lit.int k x).wf = true
  | .bool, _ => True
  | .str, s => ByteArray.size s ≤ maxLen
  | .slice e, l => List.length l ≤ maxLen ∧ ∀ i (h : i < List.length l), WF e (List.get l ⟨i, h⟩)
  | .unit, _ => True
  | .pair a b, x => WF a x.1 ∧ WF b x.2
  | .arr _ e, l => ∀ i (h : i < List.length l), WF e (List.get l ⟨i, h⟩)

def Ty.solid : Ty → Bool
  | .slice e => Nat.blt 0 e.size && e.solid
  | .pair a b => a.solid && b.solid
  | .arr _ e => e.solid
  | _ => true

theorem mapM_all {α β : Type} {f : α → Option β} : ∀ {l : List α} {r : List β}, l.mapM f = some r → ∀ x ∈ l, ∃ y, f x = some y
  | [], _, _, x, hx => by cases hx
  | a :: l, r, h, x, hx => by
    rw [List.mapM_cons] at h
    simp only [bind, Option.bind_eq_some_iff, pure, Option.some.injEq] at h
    obtain ⟨y, hy, r', hr, _⟩ := h
    rcases List.mem_cons.1 hx with rfl | hx
    · exact ⟨y, hy⟩
    · exact mapM_all hr x hx

theorem mapM_get {α β : Type} {f : α → Option β} : ∀ {l : List α} {r : List β}, l.mapM f = some r → r.length = l.length ∧ ∀ i (h : i < l.length) (h' : i < r.length), f l[i] = some r[i]
  | [], r, h => by simp at h; subst h; exact ⟨rfl, fun i h => by cases h⟩
  | a :: l, r, h => by
    rw [List.mapM_cons] at h
    simp only [bind, Option.bind_eq_some_iff, pure, Option.some.injEq] at h
    obtain ⟨y, hy, r', hr, rfl⟩ := h
    obtain ⟨h1, h2⟩ := mapM_get hr
    refine ⟨by simp [h1], fun i hi hi' => ?_⟩
    cases i with
    | zero => exact hy
    | succ i => exact h2 i (by simpa using hi) (by simpa using hi')

theorem exists_list {α : Type} {p : Nat → α → Prop} : ∀ n, (∀ i, i < n → ∃ x, p i x) → ∃ l : List α, l.length = n ∧ ∀ i (h : i < l.length), p i (l.get ⟨i, h⟩)
  | 0, _ => ⟨[], rfl, fun i h => by cases h⟩
  | n + 1, h => by
    obtain ⟨l, hl, hp⟩ := exists_list n (fun i hi => h i (by omega))
    obtain ⟨x, hx⟩ := h n (by omega)
    refine ⟨l ++ [x], by simp [hl], fun i hi => ?_⟩
    simp only [List.get_eq_getElem]
    by_cases hlt : i < l.length
    · rw [List.getElem_append_left hlt]; exact hp i hlt
    · have hin : i = n := by simp at hi; omega
      subst hin
      rw [List.getElem_append_right (by omega)]
      simp [hl, hx]

section
variable {H : Type} {enc : TypeId × Value → H} {P : Program} {w : World}

theorem Lay.cells {τ : Ty} {t : TypeId} (h : Lay P τ t) : P.cellsOf t = τ.size := by
  obtain ⟨i, hi, hs, _⟩ := h.base
  simp [Program.cellsOf, hi, hs]

/-- A row of cells. -/
theorem cells_row {a : Addr} {n : Nat} {cs : List Value} (h : w.cells? 0 a n = some cs) : cs.length = n ∧ ∀ j v, cs[j]? = some v → w.cell? (a.add j) = some v := by
  unfold World.cells? at h
  rw [if_pos (Nat.zero_le _)] at h
  obtain ⟨h1, h2⟩ := mapM_get h
  rw [List.length_range] at h1
  refine ⟨h1, fun j v hj => ?_⟩
  obtain ⟨hlt, rfl⟩ := List.getElem?_eq_some_iff.1 hj
  have := h2 j (by rw [List.length_range]; omega) hlt
  rw [List.getElem_range] at this
  exact this

def OpenG (H : Type) (enc : TypeId × Value → H) (P : Program) (w : World) (τ : Ty) : TypeId ⊕ (Array Field × Nat × Nat) → Prop
  | .inl t => ∀ (fuel : Nat) (cs : List Value) (d : DataW H × List MemPlace), DataW.trod enc P w 0 (fun _ => true) true fuel t cs = some d → ∃ x : τ.den, Rd w (fun _ => False) τ cs x ∧ WF τ x
  | .inr q => ∀ (cs : List Value), cs.length = q.2.2 + τ.size → (∀ f ∈ q.1.toList, ∃ fuel d, DataW.trod enc P w 0 (fun _ => true) true fuel f.type ((cs.drop f.offset).take (P.cellsOf f.type)) = some d) → ∃ x : τ.den, Rd w (fun _ => False) τ (cs.drop q.2.2) x ∧ WF τ x

theorem open_step {a b : Ty} {f : Field} {fs : Array Field} {n off : Nat} (hf : fs[n]? = some f) (ho : f.offset = off) (hla : Lay P a f.type) (iha : OpenG H enc P w a (.inl f.type)) (ihb : OpenG H enc P w b (.inr (fs, n + 1, off + a.size)))
    {cs : List Value} (hc : cs.length = off + (a.size + b.size)) (hall : ∀ f ∈ fs.toList, ∃ fuel d, DataW.trod enc P w 0 (fun _ => true) true fuel f.type ((cs.drop f.offset).take (P.cellsOf f.type)) = some d) :
    ∃ x : (Ty.pair a b).den, Rd w (fun _ => False) (.pair a b) (cs.drop off) x ∧ WF (.pair a b) x := by
  subst ho
  obtain ⟨fuel, d, hd⟩ := hall f (by rw [Array.mem_toList_iff]; exact Array.mem_of_getElem? hf)
  rw [hla.cells] at hd
  obtain ⟨x, hx, hwx⟩ := iha fuel _ d hd
  obtain ⟨y, hy, hwy⟩ := ihb cs (by simp only; omega) hall
  refine ⟨(x, y), ?_, hwx, hwy⟩
  simp only [Rd]
  refine ⟨_, _, (List.take_append_drop a.size (cs.drop f.offset)).symm, hx, ?_⟩
  rw [List.drop_drop]; exact hy

theorem open_rd : ∀ {τ : Ty} {x : TypeId ⊕ (Array Field × Nat × Nat)}, LayG P τ x → τ.solid = true → OpenG H enc P w τ x
  | .int k, .inl t, hl, _ => by
    intro fuel cs d h
    simp only [LayG] at hl
    obtain ⟨n, rfl, _, hw⟩ := DataW.trod_int hl.2 h
    exact ⟨n, rfl, hw⟩
  | .bool, .inl t, hl, _ => by
    intro fuel cs d h
    simp only [LayG] at hl
    obtain ⟨b, rfl, _⟩ := DataW.trod_bool hl.2 h
    exact ⟨b, rfl, trivial⟩
  | .str, .inl t, hl, _ => by
    intro fuel cs d h
    simp only [LayG] at hl
    obtain ⟨s, rfl, _, hs⟩ := DataW.trod_string hl.2 h
    exact ⟨s, rfl, hs⟩
  | .slice e, .inl t, hl, hs => by
    intro fuel cs d h
    simp only [LayG] at hl
    obtain ⟨_, e', hu, hle⟩ := hl
    simp only [Ty.solid, Bool.and_eq_true, Nat.blt_eq] at hs
    have ih := open_rd hle hs.2
    have hsz : P.cellsOf e' = e.size := Lay.cells hle
    rcases DataW.trod_slice hu h with ⟨rfl, _⟩ | ⟨a, len, cap, elems, rest, n, _, rfl, _, _, hlc, hcm, hel, hall, _⟩
    · refine ⟨[], ?_, Nat.zero_le _, fun i h => by cases h⟩
      simp only [Rd]
      exact ⟨none, 0, rfl, Nat.le_refl _, fun i h => by cases h⟩
    · rw [hsz] at hall
      have get : ∀ i, i < len → ∃ cs' y, w.cells? 0 (a.add (i * e.size)) e.size = some cs' ∧ DataW.trod enc P w 0 (fun _ => true) true n e' cs' = some y := fun i hi => by
        have := hall i hi
        rw [List.getElem?_eq_getElem (by omega)] at this
        obtain ⟨cs', h1, h2⟩ := Option.bind_eq_some_iff.1 this
        exact ⟨cs', _, h1, h2⟩
      have key : ∀ i, i < len → ∃ x : e.den, (a.spot = none ∧ a.block < w.heap.size ∧ ∃ cs', At w a.block (a.off + i * e.size) cs' ∧ Rd w (fun _ => False) e cs' x) ∧ WF e x := by
        intro i hi
        obtain ⟨cs', y, hcs, ht⟩ := get i hi
        obtain ⟨h1, h2⟩ := cells_row hcs
        obtain ⟨x, hx, hw⟩ := ih n cs' y ht
        have hsp : a.spot = none ∧ a.block < w.heap.size := by
          obtain ⟨cs0, y0, hcs0, _⟩ := get 0 (by omega)
          obtain ⟨h10, h20⟩ := cells_row hcs0
          have := h20 0 cs0[0] (List.getElem?_eq_getElem (by omega))
          simp only [Nat.zero_mul, Addr.add, if_true, World.cell?] at this
          split at this
          · rename_i hb
            refine ⟨?_, (Array.getElem?_eq_some_iff.1 hb).1⟩
            split at this
            · cases this
            · rename_i hn; simpa using hn
          · cases this
        refine ⟨x, ⟨hsp.1, hsp.2, cs', fun j v hj => ?_, hx⟩, hw⟩
        have := h2 j v hj
        have he : (a.add (i * e.size)).add j = ⟨a.block, a.off + i * e.size + j, none⟩ := by
          obtain ⟨ab, ao, asp⟩ := a
          simp only at hsp
          obtain ⟨rfl, _⟩ := hsp
          simp only [Addr.add]
          split <;> split <;> simp_all <;> omega
        rw [he] at this
        exact this
      obtain ⟨l, hl, hp⟩ := exists_list len key
      refine ⟨l, ?_, by rw [hl]; omega, fun i h => (hp i h).2⟩
      simp only [Rd]
      refine ⟨some a, cap, by rw [hl], by rw [hl]; exact hlc, fun i h => ?_⟩
      obtain ⟨h1, h2, cs', h3, h4⟩ := (hp i h).1
      refine ⟨a.block, a.off, ?_, h2, fun h => h, cs', h3, h4⟩
      rw [← h1]
  | .unit, .inl t, hl, _ => by
    intro fuel cs d h
    simp only [LayG] at hl
    obtain ⟨⟨i, hi, hsz, _⟩, fs, hu, h0⟩ := hl
    obtain ⟨xs, n, _, _, hc, _⟩ := DataW.trod_struct hu h
    refine ⟨(), ?_, trivial⟩
    simp only [Rd]
    rw [← List.length_eq_zero_iff, hc]
    simp [Program.cellsOf, hi, hsz, Ty.size]
  | .unit, .inr q, hl, _ => by
    intro cs hc _
    refine ⟨(), ?_, trivial⟩
    simp only [Rd]
    rw [List.drop_of_length_le (by rw [hc]; simp [Ty.size])]
  | .pair a b, .inl t, hl, hs => by
    intro fuel cs d h
    simp only [LayG] at hl
    obtain ⟨⟨i, hi, hsz, _⟩, fs, f, hu, hf, ho, hla, hlb⟩ := hl
    simp only [Ty.solid, Bool.and_eq_true] at hs
    have iha := open_rd hla hs.1
    have ihb := open_rd hlb hs.2
    obtain ⟨xs, n, _, _, hc, hxl, hxs⟩ := DataW.trod_struct hu h
    have := open_step (b := b) (off := 0) hf ho hla iha (by simp only [Nat.zero_add]; exact ihb) (cs := cs) (by rw [hc]; simp [Program.cellsOf, hi, hsz, Ty.size]) (fun f hf => by
      obtain ⟨j, hj, rfl⟩ := List.mem_iff_getElem.1 hf
      rw [Array.length_toList] at hj
      have := hxs j fs[j] (by simp [hj])
      rw [List.getElem?_eq_getElem (by omega)] at this
      exact ⟨n, _, by rw [Array.getElem_toList]; exact this⟩)
    rw [List.drop_zero] at this
    exact this
  | .pair a b, .inr (fs, n, off), hl, hs => by
    intro cs hc hall
    simp only [LayG] at hl
    obtain ⟨f, hf, ho, hla, hlb⟩ := hl
    simp only [Ty.solid, Bool.and_eq_true] at hs
    exact open_step hf ho hla (open_rd hla hs.1) (open_rd hlb hs.2) (by simpa [Ty.size] using hc) hall
  | .arr n e, .inl t, hl, hs => by
    intro fuel cs d h
    simp only [LayG] at hl
    obtain ⟨⟨i, hi, hsz, _⟩, e', hu, hle⟩ := hl
    simp only [Ty.solid] at hs
    have ih := open_rd hle hs
    have hse : P.cellsOf e' = e.size := Lay.cells hle
    obtain ⟨xs, m, _, _, hc, hxl, hxs⟩ := DataW.trod_array hu h
    have hlen : cs.length = n * e.size := by rw [hc]; simp [Program.cellsOf, hi, hsz, Ty.size]
    have key : ∀ i, i < n → ∃ x : e.den, Rd w (fun _ => False) e ((cs.drop (i * e.size)).take e.size) x ∧ WF e x := fun i hi => by
      have := hxs i hi
      rw [List.getElem?_eq_getElem (by omega), hse] at this
      exact ih m _ _ this
    obtain ⟨l, hll, hp⟩ := exists_list n key
    refine ⟨l, ?_, fun i h => (hp i h).2⟩
    simp only [Rd]
    refine ⟨hll, (List.range n).map fun i => (cs.drop (i * e.size)).take e.size, by simp, ?_, fun i h h' => ?_⟩
    · clear hxs h key hp hll hu
      have : ∀ m, m ≤ n → cs.take (m * e.size) = ((List.range m).map fun i => (cs.drop (i * e.size)).take e.size).flatten := by
        intro m
        induction m with
        | zero => simp
        | succ m ihm =>
          intro hm
          rw [List.range_succ, List.map_append, List.flatten_append, ← ihm (by omega)]
          simp only [List.map_cons, List.map_nil, List.flatten_cons, List.flatten_nil, List.append_nil]
          rw [Nat.add_mul, Nat.one_mul, List.take_add]
      have h2 := this n (Nat.le_refl _)
      rw [List.take_of_length_le (by omega)] at h2
      exact h2
    · have := (hp i h).1
      simpa using this
  | .int _, .inr _, h, _ | .bool, .inr _, h, _ | .str, .inr _, h, _ | .slice _, .inr _, h, _ | .arr _ _, .inr _, h, _ => by simp [LayG] at h

/-- One argument. -/
theorem open_v {τ : Ty} {t : TypeId} {r : Reach} {b0 : Nat} {v : Value} {d : DataW H} {ps : List MemPlace} (hl : Lay P τ t) (hs : τ.solid = true) (hv : Value.okWide P w r b0 t v) (h : DataW.Trod enc P w 0 (fun _ => true) true t v d ps) :
    ∃ x : τ.den, V w (fun _ => False) τ v x ∧ WF τ x := by
  obtain ⟨fuel, h⟩ := h
  obtain ⟨x, hx, hw⟩ := open_rd (H := H) (enc := enc) (w := w) hl hs fuel _ _ h
  refine ⟨x, ?_, hw⟩
  unfold V
  cases τ with
  | int k =>
    obtain ⟨n, rfl⟩ := okWide_int hl.int hv
    exact hx
  | bool =>
    obtain ⟨n, rfl⟩ := okWide_bool hl.bool hv
    exact hx
  | str =>
    obtain ⟨n, rfl⟩ := okWide_string hl.str hv
    exact hx
  | slice e =>
    obtain ⟨e', hu, _⟩ := hl.slice
    obtain ⟨a, len, cap, rfl⟩ := okWide_slice hu hv
    exact hx
  | unit =>
    simp only [Lay, LayG] at hl
    obtain ⟨_, fs, hu, _⟩ := hl
    simp only [Value.okWide, hu] at hv
    obtain ⟨cs, rfl, _⟩ := hv
    exact ⟨cs, rfl, hx⟩
  | pair a b =>
    simp only [Lay, LayG] at hl
    obtain ⟨_, fs, f, hu, _⟩ := hl
    simp only [Value.okWide, hu] at hv
    obtain ⟨cs, rfl, _⟩ := hv
    exact ⟨cs, rfl, hx⟩
  | arr n e =>
    obtain ⟨e', hu, _⟩ := hl.arr
    simp only [Value.okWide, hu] at hv
    obtain ⟨cs, rfl, _⟩ := hv
    exact ⟨cs, rfl, hx⟩

def WFs : (ms : List Ty) → HP (ms.map .v) → Prop
  | [], _ => True
  | _ :: ms, x => WF _ (hpH x) ∧ WFs ms (hpT x)

def hpC : {m : AM} → {ms : List AM} → m.den → HP ms → HP (m :: ms)
  | _, [], x, _ => x
  | _, _ :: _, x, y => (x, y)
theorem hpH_hpC {m : AM} : ∀ {ms : List AM} (x : m.den) (y : HP ms), hpH (hpC x y) = x
  | [], _, _ => rfl
  | _ :: _, _, _ => rfl
theorem hpT_hpC {m : AM} : ∀ {ms : List AM} (x : m.den) (y : HP ms), hpT (hpC x y) = y
  | [], _, () => rfl
  | _ :: _, _, _ => rfl

/-- All arguments: what they are; behind the call they read as they did. -/
theorem open_args (laid : laidOutB P = true) {r : Reach} {b0 : Nat} : ∀ {τs : List Ty} {ts : List TypeId} {vs : List Value} {ds : List (DataW H)} {ps : List MemPlace}, DataW.TrodAll enc P w 0 (fun _ => true) true ts vs ds ps →
    τs.length = ts.length → (∀ (j : Nat) τ t, τs[j]? = some τ → ts[j]? = some t → (Lay P τ t ∧ τ.solid = true ∧ P.readableRec t = true ∧ t < P.types.size)) →
    (∀ (j : Nat) t v, ts[j]? = some t → vs[j]? = some v → Value.okWide P w r b0 t v) →
    (∃ x : HP (τs.map .v), ArgsR w (fun _ => False) (τs.map .v) x vs ∧ WFs τs x) ∧ ∀ w', Below w.heap.size w w' → ∃ ps', DataW.TrodAll enc P w' 0 (fun b => decide (b < w.heap.size)) true ts vs ds ps'
  | [], [], vs, ds, ps, h, _, _, _ => by
    obtain ⟨rfl, rfl, rfl⟩ := trodAll_nil h
    exact ⟨⟨(), rfl, trivial⟩, fun w' _ => ⟨[], rfl⟩⟩
  | τ :: τs, t :: ts, vs, ds, ps, h, hl, hty, hv => by
    obtain ⟨v, vs', d, ds', p, q, rfl, rfl, rfl, h1, h2⟩ := trodAll_cons h
    obtain ⟨hlay, hsol, hrr, hlt⟩ := hty 0 τ t rfl rfl
    obtain ⟨x, hx, hwx⟩ := open_v hlay hsol (hv 0 t v rfl rfl) h1
    obtain ⟨⟨y, hy, hwy⟩, hback⟩ := open_args laid h2 (by simpa using hl) (fun j τ' t' h h' => hty (j + 1) τ' t' (by simpa using h) (by simpa using h')) (fun j t' v' h h' => hv (j + 1) t' v' (by simpa using h) (by simpa using h'))
    refine ⟨⟨hpC (m := .v τ) x y, ?_, ?_⟩, fun w' hb => ?_⟩
    · show ArgsR w _ (.v τ :: τs.map .v) _ _
      simp only [ArgsR]
      exact ⟨v, vs', rfl, by rw [hpH_hpC]; exact hx, by rw [hpT_hpC]; exact hy⟩
    · simp only [WFs]
      exact ⟨by rw [hpH_hpC]; exact hwx, by rw [hpT_hpC]; exact hwy⟩
    · obtain ⟨ps', h'⟩ := hback w' hb
      have hlt' : ∀ z ∈ p, z.block < w.heap.size := by
        obtain ⟨m, hm⟩ := h1
        exact DataW.trod_lt m _ _ _ hm
      exact ⟨p ++ ps', trodAll_cons_mk (Below.trod laid hrr hlt h1 hb hlt') h'⟩
  | [], _ :: _, _, _, _, _, hl, _, _ | _ :: _, [], _, _, _, _, hl, _, _ => by simp at hl
end
end VM
end

section
/- The value machine, thirty-first text: tables; a function's contract; a law's call. -/
namespace VM
open Go Go.RowKit
variable {P : Program}

def lookT (i : Nat) : List (Nat × Ty) → Option Ty
  | [] => none
  | q :: r => cond (Nat.beq i q.1) (some q.2) (lookT i r)
def lookG (i : Nat) : List (Nat × List Summ) → List Summ
  | [] => []
  | q :: r => cond (Nat.beq i q.1) q.2 (lookG i r)
def lookC (i : Nat) : List (Nat × List (Nat × CM)) → Option (List (Nat × CM))
  | [] => none
  | q :: r => cond (Nat.beq i q.1) (some q.2) (lookC i r)

theorem lookT_mem {i : Nat} {τ : Ty} : ∀ {l : List (Nat × Ty)}, lookT i l = some τ → (i, τ) ∈ l
  | q :: r, h => by
    unfold lookT at h
    cases hb : Nat.beq i q.1 <;> rw [hb] at h
    · exact List.mem_cons_of_mem _ (lookT_mem h)
    · cases h; rw [Nat.eq_of_beq_eq_true hb]; exact List.mem_cons_self ..

/-- A function's surroundings. -/
def mkE (nt : Nat) (tab : List (Nat × Ty)) (G : List (Nat × List Summ)) (cL cJ : List (Nat × List (Nat × CM))) (io : List Nat) (N : Nat) : Env :=
  { nt, ty := fun i => lookT i tab, Γ := fun i => lookG i G, N, cutL := fun i => lookC i cL, cutJ := fun i => lookC i cJ, io }

def AllL (P : Program) (f : Nat) : List Summ → Prop
  | [] => True
  | S :: r => SumOk P f S ∧ AllL P f r
def AllS (P : Program) : List (Nat × List Summ) → Prop
  | [] => True
  | q :: r => AllL P q.1 q.2 ∧ AllS P r

theorem AllL.mem {f : Nat} : ∀ {l : List Summ}, AllL P f l → ∀ S ∈ l, SumOk P f S
  | T :: r, h, S, hS => by
    rcases List.mem_cons.1 hS with rfl | hS
    · exact h.1
    · exact AllL.mem h.2 S hS

theorem lookG_ok : ∀ {l : List (Nat × List Summ)}, AllS P l → ∀ f S, S ∈ lookG f l → SumOk P f S
  | [], _, f, S, h => by simp [lookG] at h
  | q :: r, ha, f, S, h => by
    unfold lookG at h
    cases hb : Nat.beq f q.1 <;> rw [hb] at h
    · exact lookG_ok ha.2 f S h
    · rw [Nat.eq_of_beq_eq_true hb]; exact AllL.mem ha.1 S h

theorem lookC_ok : ∀ {l : List (Nat × List (Nat × CM))}, (l.all fun q => freshL q.2) = true → ∀ i L, lookC i l = some L → freshL L = true
  | q :: r, ha, i, L, h => by
    rw [List.all_cons, Bool.and_eq_true] at ha
    unfold lookC at h
    cases hb : Nat.beq i q.1 <;> rw [hb] at h
    · exact lookC_ok ha.2 i L h
    · cases h; exact ha.1

/-- A program whose types are as the table tells. -/
structure TabOk (P : Program) (tab : List (Nat × Ty)) : Prop where
  ok : tabOk P tab = true
  mixed : P.follows .mixedOrders = true

theorem mkE_ok {nt : Nat} {tab : List (Nat × Ty)} {G : List (Nat × List Summ)} {cL cJ : List (Nat × List (Nat × CM))} {io : List Nat} {N : Nat} (ht : TabOk P tab) (hG : AllS P G)
    (hc : ((cL.all fun q => freshL q.2) && cJ.all fun q => freshL q.2) = true) : EnvOk P (mkE nt tab G cL cJ io N) := by
  have hall : ∀ t τ, lookT t tab = some τ → layB P τ (.inl t) = true ∧ eqTB P τ t = true := fun t τ h => by
    have := List.all_eq_true.1 ht.ok _ (lookT_mem h)
    simpa using this
  rw [Bool.and_eq_true] at hc
  exact { ty := fun t τ h => layB_ok (hall t τ h).1, eq := fun t τ h hc ha => eqTB_ok (layB_ok (hall t τ h).1) (hall t τ h).2 hc ha, sums := lookG_ok hG, mixed := ht.mixed, freshL := lookC_ok hc.1, freshJ := lookC_ok hc.2 }

def Ty.beq : Ty → Ty → Bool
  | a, b => decide (a = b)

/-- What is asked of a summary's signs. -/
def sigB (S : Summ) (io : List Nat) (nt : Nat) : Bool :=
  ((S.args.zipIdx.all fun q => !q.1.isIo || io.contains q.2) && io.all fun i => Nat.blt i S.args.length) && (Nat.ble S.args.length nt && ((!S.quiet || S.res.all AM.flat) && decide (ioTys S.args = ioTys S.res)))

/-- .. and of a function. -/
def fnB (fn : Func) (nt : Nat) : Bool := !(fn.name == "runtime.NumGoroutine") && Nat.beq nt fn.ntmps

theorem zipIdx_io {l : List AM} {io : List Nat} : ∀ {k : Nat}, (l.zipIdx k).all (fun q => !q.1.isIo || io.contains q.2) = true → ∀ i m, l[i]? = some m → m.isIo = true → k + i ∈ io := by
  induction l with
  | nil => intro k _ i m h; simp at h
  | cons a l ih =>
    intro k h i m hm hio
    rw [List.zipIdx_cons, List.all_cons, Bool.and_eq_true] at h
    cases i with
    | zero =>
      simp only [List.getElem?_cons_zero, Option.some.injEq] at hm
      subst hm
      have := h.1
      rw [hio] at this
      simpa using this
    | succ i =>
      have := ih h.2 i m (by simpa using hm) hio
      rw [show k + (i + 1) = k + 1 + i from by omega]; exact this

theorem sum_mk {nt : Nat} {tab : List (Nat × Ty)} {G : List (Nat × List Summ)} {cL cJ : List (Nat × List (Nat × CM))} {io : List Nat} {N : Nat} (hE : EnvOk P (mkE nt tab G cL cJ io N)) (S : Summ) {f : FuncId} {fn : Func} (hf : P.funcs[f]? = some fn)
    (hc : (fnB fn nt && sigB S io nt) = true) (hrun : ∀ x, evF (mkE nt tab G cL cJ io N) fn S.args S.res x = S.run x) : SumOk P f S := by
  simp only [Bool.and_eq_true, fnB, sigB] at hc
  obtain ⟨⟨h1, h2⟩, ⟨h3, h4⟩, h5, h6, h7⟩ := hc
  refine sumOk_of hE hf (by simpa using h1) (Nat.eq_of_beq_eq_true h2) S (fun i m hm hio => ?_) (fun i hi => ?_) ?_ (fun hq => ?_) (of_decide_eq_true h7) hrun
  · have := zipIdx_io h3 i m hm hio
    rwa [Nat.zero_add] at this
  · have := List.all_eq_true.1 h4 i hi
    simpa using this
  · have := Nat.le_of_ble_eq_true h5
    rwa [Nat.eq_of_beq_eq_true h2] at this
  · rw [hq] at h6; simpa using h6

/-- A law's call: nothing is handed over, true comes back, and nothing that was there has turned. -/
theorem law_calls {nt : Nat} {tab : List (Nat × Ty)} {G : List (Nat × List Summ)} {cL cJ : List (Nat × List (Nat × CM))} {N : Nat} (hE : EnvOk P (mkE nt tab G cL cJ [] N)) {f : FuncId} {fn : Func} (hf : P.funcs[f]? = some fn) (τs : List Ty)
    (hc : (Nat.beq nt fn.ntmps && Nat.ble τs.length nt) = true) {w : World} {vs : List Value} {x : HP (τs.map .v)} (hA : ArgsR w (fun _ => False) (τs.map .v) x vs)
    (h : evF (mkE nt tab G cL cJ [] N) fn (τs.map .v) [.v .bool] x = some true) : Calls P f vs.toArray w fun e w' => e = .returned (.bool true) ∧ Below w.heap.size w w' := by
  rw [Bool.and_eq_true] at hc
  have hnt := Nat.eq_of_beq_eq_true hc.1
  have hlen := Nat.le_of_ble_eq_true hc.2
  have hh : ∀ (τs : List Ty) (vs : List Value), hands (τs.map .v) vs = [] := by
    intro τs
    induction τs with
    | nil => intro vs; cases vs <;> rfl
    | cons τ τs ih => intro vs; cases vs with
      | nil => rfl
      | cons v vs => simp [hands, hand1, ih]
  have hi : ∀ (τs : List Ty) (vs : List Value), iosOf (τs.map .v) vs = [] := by
    intro τs
    induction τs with
    | nil => intro vs; cases vs <;> rfl
    | cons τ τs ih => intro vs; cases vs with
      | nil => rfl
      | cons v vs => simp [iosOf, AM.isIo, ih]
  refine (evF_sound (M0 := fun _ => False) (vs := vs) hE hf hnt (fun i m hm hio => ?_) (fun i hi => by cases hi) (by rw [List.length_map]; rw [← hnt]; exact hlen) (fun b hb => hb.elim) (by rw [hh]; simpa using hA) (by rw [hh]; exact List.nodup_nil) (fun b _ hb => hb) h).mono ?_
  · rw [List.getElem?_map] at hm
    obtain ⟨τ, _, rfl⟩ := Option.map_eq_some_iff.1 hm
    cases hio
  · rintro e w' ⟨v, rfl, us, M', rfl, hRR, hL, _, _⟩
    rw [hh] at hL
    rw [hi] at hRR
    simp only [RR] at hRR
    rcases hRR with ⟨p, ps', h1, _⟩ | ⟨v, vs', _, _, rfl, hv, rfl, _⟩
    · cases h1
    · refine ⟨?_, hL.os, hL.tape, hL.output, hL.size, fun b hb => hL.frame b hb (by simp)⟩
      have : v = .bool true := by
        simp only [A1, V, Ty.isAgg, Bool.false_eq_true, if_false, Rd, List.cons.injEq, and_true] at hv
        exact hv
      rw [this]; rfl

/-- What is asked of a parameter. -/
def argB (P : Program) : List Ty → List TypeId → Bool
  | [], [] => true
  | τ :: τs, t :: ts => (layB P τ (.inl t) && τ.solid) && ((P.readableRec t && decide (t < P.types.size)) && argB P τs ts)
  | _, _ => false

theorem argB_ok : ∀ {τs : List Ty} {ts : List TypeId}, argB P τs ts = true → τs.length = ts.length ∧ ∀ (j : Nat) τ t, τs[j]? = some τ → ts[j]? = some t → (Lay P τ t ∧ τ.solid = true ∧ P.readableRec t = true ∧ t < P.types.size)
  | [], [], _ => ⟨rfl, fun j τ t h => by simp at h⟩
  | τ :: τs, t :: ts, h => by
    simp only [argB, Bool.and_eq_true] at h
    obtain ⟨⟨h1, h2⟩, ⟨h3, h4⟩, h5⟩ := h
    obtain ⟨hl, ih⟩ := argB_ok h5
    refine ⟨by simp [hl], fun j τ' t' ha hb => ?_⟩
    cases j with
    | zero =>
      simp only [List.getElem?_cons_zero, Option.some.injEq] at ha hb
      subst ha; subst hb
      exact ⟨layB_ok h1, h2, h3, of_decide_eq_true h4⟩
    | succ j => exact ih j τ' t' (by simpa using ha) (by simpa using hb)
  | [], _ :: _, h | _ :: _, [], h => by simp [argB] at h

/-- A law's arguments, as values; and its call. -/
theorem row_args {H : Type} {enc : TypeId × Value → H} {w : World} {fn : Func} {args : Array Value} {ds : List (DataW H)} {ps : List MemPlace} {r : Reach} {b0 : Nat} (laid : laidOutB P = true) (τs : List Ty)
    (hA : DataW.TrodAll enc P w 0 (fun _ => true) true fn.params.toList args.toList ds ps) (hty : argB P τs fn.params.toList = true)
    (hv : ∀ (j : Nat) t v, fn.params[j]? = some t → args[j]? = some v → Value.okWide P w r b0 t v) :
    (∃ x : HP (τs.map .v), ArgsR w (fun _ => False) (τs.map .v) x args.toList ∧ WFs τs x) ∧ ∀ w', Below w.heap.size w w' → ∃ ps', DataW.TrodAll enc P w' 0 (fun b => decide (b < w.heap.size)) true fn.params.toList args.toList ds ps' :=
  open_args laid hA (argB_ok hty).1 (argB_ok hty).2 (fun j t v h h' => hv j t v (by rw [Array.getElem?_toList] at h; exact h) (by rw [Array.getElem?_toList] at h'; exact h'))

end VM
end

section
/- The value machine, thirty-second text: functions that the model runs itself. -/
namespace VM
open Go
variable {P : Program}

theorem Left.same (w : World) (M0 : Nat → Prop) (h : ∀ b, M0 b → b < w.heap.size) : Left w M0 [] w M0 :=
  ⟨fun _ h => h, h, fun _ _ h => .inl h, fun _ _ _ => rfl, Nat.le_refl _, rfl, rfl, rfl⟩

theorem args3 {w : World} {M : Nat → Prop} {a b c : IntKind} {x : HP [.v (.int a), .v (.int b), .v (.int c)]} {vs : List Value} (h : ArgsR w M [.v (.int a), .v (.int b), .v (.int c)] x vs) : vs = [.int a x.1, .int b x.2.1, .int c x.2.2] := by
  simp only [ArgsR, A1, V, Ty.isAgg, Bool.false_eq_true, if_false, Rd, List.cons.injEq, and_true] at h
  obtain ⟨v, vs, rfl, rfl, v, vs, rfl, rfl, v, vs, rfl, rfl, rfl⟩ := h
  rfl

theorem rr2 {w : World} {M : Nat → Prop} {a b : IntKind} (x y : Int) : RR w M [.v (.int a), .v (.int b)] (x, y) [.int a x, .int b y] [] := by
  simp only [RR]
  refine .inr ⟨_, _, rfl, rfl, rfl, ?_, .inr ⟨_, _, rfl, rfl, rfl, ?_, rfl, trivial⟩⟩ <;> simp [A1, V, Ty.isAgg, Rd, hpH, hpT]

theorem extern3 {f : FuncId} (run : Int × Int × Int → Option (Int × Int))
    (h : ∀ (w : World) (a b c u v : Int), run (a, b, c) = some (u, v) → (callFunc f #[.int .u64 a, .int .u64 b, .int .u64 c]).run P w = .ok (.value (.tuple #[.int .u64 u, .int .u64 v])) w) :
    SumOk P f { args := [.v (.int .u64), .v (.int .u64), .v (.int .u64)], res := [.v (.int .u64), .v (.int .u64)], quiet := true, run } := by
  refine ⟨fun _ => rfl, rfl, fun M0 w vs x y hlim hA _ _ hy => ?_⟩
  have hvs := args3 hA
  subst hvs
  exact does_of_value (h w x.1 x.2.1 x.2.2 y.1 y.2 hy) ⟨_, M0, rfl, rr2 y.1 y.2, Left.same w M0 hlim, List.nodup_nil, fun b hb => by cases hb⟩

theorem three_run (nm : String) (a b c : Nat) (h : c ≤ 1) (w : World) : (Extern.MathBitsCarry.three nm #[.int .u64 a, .int .u64 b, .int .u64 c]).run P w = .ok (a, b, c) w := by
  have h5 : ¬ (1 < c) := by omega
  have : Extern.MathBitsCarry.three nm #[.int .u64 a, .int .u64 b, .int .u64 c] = (do
    let c := (← asInt (.int .u64 c)).toNat
    if c > 1 then unsupported (.noEntry ("extern/math/bits." ++ nm ++ ": a carry that is neither 0 nor 1"))
    pure ((← asInt (.int .u64 a)).toNat, (← asInt (.int .u64 b)).toNat, c)) := rfl
  rw [this]
  simp [asInt, asIntOf]
  omega

theorem add64_sum {f : FuncId} {fn : Func} (N : Nat) (hf : P.funcs[f]? = some fn) (hname : (fn.name == "runtime.NumGoroutine") = false) (hb : fn.body.isNone = true) (hn : Extern.findNext fn = none)
    (he : Extern.find fn = (Extern.MathBitsCarry.rows[0]?).map (·.2)) : SumOk P f (add64.S N) := by
  refine extern3 (fun x => add64 N x.1 x.2.1 x.2.2) fun w a b c u v hy => ?_
  simp only [add64] at hy
  split at hy
  · rename_i hc
    obtain ⟨h1, h2, h3, h4⟩ := hc
    obtain ⟨a, rfl⟩ := Int.eq_ofNat_of_zero_le h1
    obtain ⟨b, rfl⟩ := Int.eq_ofNat_of_zero_le h2
    obtain ⟨c, rfl⟩ := Int.eq_ofNat_of_zero_le h3
    cases hy
    rw [run_callFunc_extern hf hname hb hn he]
    simp [three_run _ a b c (by omega), Extern.MathBitsCarry.pair, Extern.MathBitsCarry.m64]
  · cases hy

theorem sub64_sum {f : FuncId} {fn : Func} (N : Nat) (hf : P.funcs[f]? = some fn) (hname : (fn.name == "runtime.NumGoroutine") = false) (hb : fn.body.isNone = true) (hn : Extern.findNext fn = none)
    (he : Extern.find fn = (Extern.MathBitsCarry.rows[1]?).map (·.2)) : SumOk P f (sub64.S N) := by
  refine extern3 (fun x => sub64 N x.1 x.2.1 x.2.2) fun w a b c u v hy => ?_
  simp only [sub64] at hy
  split at hy
  · rename_i hc
    obtain ⟨h1, h1', h2, h2', h3, h4⟩ := hc
    obtain ⟨a, rfl⟩ := Int.eq_ofNat_of_zero_le h1
    obtain ⟨b, rfl⟩ := Int.eq_ofNat_of_zero_le h2
    obtain ⟨c, rfl⟩ := Int.eq_ofNat_of_zero_le h3
    cases hy
    rw [run_callFunc_extern hf hname hb hn he]
    have e1 : ((a + 18446744073709551616 - b - c : Nat) : Int) = (a : Int) + 18446744073709551616 - b - c := by omega
    by_cases h : a < b + c
    · have h' : (a : Int) < (b : Int) + (c : Int) := by omega
      simp [three_run _ a b c (by omega), Extern.MathBitsCarry.pair, Extern.MathBitsCarry.m64, e1, h, h']
    · have h' : ¬ (a : Int) < (b : Int) + (c : Int) := by omega
      simp [three_run _ a b c (by omega), Extern.MathBitsCarry.pair, Extern.MathBitsCarry.m64, e1, h, h']
  · cases hy

end VM
end

section
/- The value machine: slices.Insert, at one element, of any type. -/
set_option linter.unusedVariables false
set_option linter.unusedSimpArgs false
namespace VM
open Go Go.Shelf Go.RowKit Go.Lib Go.Proofs
variable {P : Program} {ρ : Ren}

/-- The library's own text, under a program's numbers. -/
noncomputable def insFn (ρ : Ren) (fn : Func) : Func := { fn with body := (Body2.n22 ρ).body, ntmps := 95, results := (Body2.n22 ρ).results, nfree := 0 }
theorem insFn_ntmps (ρ : Ren) (fn : Func) : (insFn ρ fn).ntmps = 95 := rfl

structure InsP (P : Program) (e : Ty) (ρ : Ren) (f : FuncId) (fn fo : Func) : Prop where
  hf : P.funcs[f]? = some (insFn ρ fn)
  t3 : P.underlying (ρ.t 3) = some (.int .i64)
  t4 : P.underlying (ρ.t 4) = some .bool
  t24 : P.underlying (ρ.t 24) = some (.slice (ρ.t 9))
  lay : Lay P e (ρ.t 9)
  solid : 0 < e.size
  mixed : P.follows .mixedOrders = true

set_option maxHeartbeats 4000000 in
set_option maxRecDepth 100000 in
/-- At the end. -/
theorem ins_end {e : Ty} {f : FuncId} {fn fo : Func} (L : InsP P e ρ f fn fo) (w : World) (base : Option Addr) (n c m vc : Nat) (va : Addr) (v' : Value) (w' : World) (hm : 0 < m) (hn : n ≤ c)
   (happ : ∀ ty, (Builtin.append_ #[ρ.t 24, ρ.t 24] ty #[.slice base n c, .slice (some va) m vc]).run P w = .ok v' w') :
    Calls P f #[.slice base n c, .int .i64 n, .slice (some va) m vc] w fun r w2 => r = .returned v' ∧ w2 = w' := by
  have u3 := run_underlying L.t3; have u4 := run_underlying L.t4; have u24 := run_underlying L.t24
  have t3 := L.t3; have t4 := L.t4; have t24 := L.t24
  have z9 := fun w => run_sizeOf' L.lay w
  have mixed := L.mixed
  have hz1 : ¬ ((m : Int) = 0) := by omega
  go_enter L.hf, insFn_ntmps ρ fn
  cases base with
  | none =>
    go_wp2_with (at_builtin; refine Lib.wpList_append_run _ rfl _ _ _ _ rfl _ _ rfl rfl _ _ (happ _) ?_)
    all_goals (go_ret; exact ⟨rfl, rfl⟩)
  | some a =>
    obtain ⟨ab, ao, asp⟩ := a
    go_wp2_with (at_builtin; refine Lib.wpList_append_run _ rfl _ _ _ _ rfl _ _ rfl rfl _ _ (happ _) ?_)
    all_goals (go_ret; exact ⟨rfl, rfl⟩)

/-- A copy into a row. -/
theorem run_copy_row {t te e : TypeId} {k : Nat} (ht : P.underlying t = some (.slice e)) (hk : ∀ w, (Go.sizeOf e).run P w = .ok k w) {W : World} {b o dLen dCap sLen sCap n : Nat} {a : Addr} {cs : Array Value} (hg : W.heap[b]? = some (.cells cs te (0, 0)))
    {news : List Value} (hnn : Nat.min sLen dLen = n) (hl : news.length = n * k) (hn : ∀ j u, news[j]? = some u → W.cell? (a.add j) = some u) (h1 : ∀ u ∈ news, u.oneCell' = true) (hfit : o + news.length ≤ cs.size) (ty : TypeId) :
    (Builtin.copy_ #[t, t] ty #[.slice (some ⟨b, o, none⟩) dLen dCap, .slice (some a) sLen sCap]).run P W = .ok (goInt n) (W.setRow b (spl cs.toList o news).toArray) := by
  have hf := run_firstCells_some (P := P) W k n a sLen sCap news hl hn
  have hst := run_storeCells_at (P := P) b o te news 0 cs W hg (by omega) h1
  simp only [Nat.add_zero] at hst
  simp [Builtin.copy_, run_underlying ht, hk, Builtin.lenOf, hnn, hf, hst, spl]

set_option maxHeartbeats 4000000 in
set_option maxRecDepth 100000 in
/-- Within, and there is room. -/
theorem ins_shift {e : Ty} {f : FuncId} {fn fo : Func} (L : InsP P e ρ f fn fo) (w : World) (b n c i m vc : Nat) (va : Addr) (row1 row2 : Array Value) (hi : i < n) (hm : 0 < m) (hr : n + m ≤ c) (hc63 : c ≤ 9223372036854775807)
   (hov : ∀ x lb cb, (callFunc (ρ.f 29) #[.slice (some va) m vc, .slice (some ⟨b, x, none⟩) lb cb]).run P w = .ok (.value (.bool false)) w)
   (hcp1 : ∀ ty dc sc, (Builtin.copy_ #[(ρ.t 24), (ρ.t 24)] ty #[.slice (some ⟨b, (i + m) * e.size, none⟩) (n + m - (i + m)) dc, .slice (some ⟨b, i * e.size, none⟩) (n + m - i) sc]).run P w.drew = .ok (goInt ((n - i : Nat) : Int)) (w.drew.setRow b row1))
   (hcp2 : ∀ W : World, W.heap = (w.setRow b row1).heap → ∀ ty dc, (Builtin.copy_ #[(ρ.t 24), (ρ.t 24)] ty #[.slice (some ⟨b, i * e.size, none⟩) (n + m - i) dc, .slice (some va) m vc]).run P W = .ok (goInt m) (W.setRow b row2)) :
    Calls P f #[.slice (some ⟨b, 0, none⟩) n c, .int .i64 i, .slice (some va) m vc] w fun r w2 => r = .returned (.slice (some ⟨b, 0, none⟩) (n + m) c) ∧ w2 = (w.drew.setRow b row1).setRow b row2 := by
  have u3 := run_underlying L.t3; have u4 := run_underlying L.t4; have u24 := run_underlying L.t24
  have t3 := L.t3; have t4 := L.t4; have t24 := L.t24
  have z9 := fun w => run_sizeOf' L.lay w
  have mixed := L.mixed
  have hz1 : ¬ ((m : Int) = 0) := by omega
  have hz2 : ¬ ((i : Int) = (n : Int)) := by omega
  have hw1 : IntKind.i64.wrap ((i : Int) + (m : Int)) = (i : Int) + (m : Int) := by rw [IntKind.wrap_i64]; omega
  have hb1 : (0 : Int) ≤ (i : Int) + (m : Int) := by omega
  have hin : i ≤ n := by omega
  have htn : ((i : Int) + (m : Int)).toNat = i + m := by omega
  have hb2 : ¬ (c = i + m) := by omega
  have hb3 : (i : Int) ≤ (n : Int) + (m : Int) := by omega
  have hb4 : ¬ (c = i) := by omega
  go_enter L.hf, insFn_ntmps ρ fn
  go_wp2_with (simp only [hov])
  go_region_law_o (refine step_copy_runI rfl _ _ (ρ.t 24) (ρ.t 24) rfl _ _ (by simp [Act.eval, Act.put]) (by simp [Act.eval, Act.put]) (hcp1 _ _ _) ?_)
  have h2 := hcp2 (w.drew.setRow b row1) rfl
  go_wp2
  go_ret
  exact ⟨rfl, rfl⟩

set_option maxHeartbeats 4000000 in
set_option maxRecDepth 100000 in
/-- Within, and there is no room. -/
theorem ins_grow {e : Ty} {f : FuncId} {fn fo : Func} (L : InsP P e ρ f fn fo) (w : World) (b n c i m vc nb G : Nat) (va : Addr) (row0 row1 row2 : Array Value) (hi : i < n) (hm : 0 < m) (hnc : n ≤ c) (hr : c < n + m) (hc63 : c ≤ 9223372036854775807) (h63 : n + m ≤ 9223372036854775807) (hG : n + m ≤ G) (hG63 : G ≤ 9223372036854775807)
   (happ : ∀ ty, (Builtin.append_ #[(ρ.t 24), (ρ.t 3)] ty #[.slice (some ⟨b, 0, none⟩) i c, .int .i64 ((n : Int) + (m : Int) - (i : Int))]).run P w = .ok (.slice (some ⟨w.heap.size, 0, none⟩) (n + m) G) (w.drew.alloc (.cells row0 (ρ.t 9))))
   (hcp1 : ∀ W : World, W.heap = (w.alloc (.cells row0 (ρ.t 9))).heap → ∀ ty dc, (Builtin.copy_ #[(ρ.t 24), (ρ.t 24)] ty #[.slice (some ⟨w.heap.size, i * e.size, none⟩) (n + m - i) dc, .slice (some va) m vc]).run P W = .ok (goInt m) (W.setRow w.heap.size row1))
   (hcp2 : ∀ W : World, W.heap = ((w.alloc (.cells row0 (ρ.t 9))).setRow w.heap.size row1).heap → ∀ ty dc sc, (Builtin.copy_ #[(ρ.t 24), (ρ.t 24)] ty #[.slice (some ⟨w.heap.size, (i + m) * e.size, none⟩) (n + m - (i + m)) dc, .slice (some ⟨b, i * e.size, none⟩) (n - i) sc]).run P W = .ok (goInt ((n - i : Nat) : Int)) (W.setRow w.heap.size row2)) :
    Calls P f #[.slice (some ⟨b, 0, none⟩) n c, .int .i64 i, .slice (some va) m vc] w fun r w2 => r = .returned (.slice (some ⟨w.heap.size, 0, none⟩) (n + m) G) ∧ w2 = ((w.drew.alloc (.cells row0 (ρ.t 9))).setRow w.heap.size row1).drew.setRow w.heap.size row2 := by
  have u3 := run_underlying L.t3; have u4 := run_underlying L.t4; have u24 := run_underlying L.t24
  have t3 := L.t3; have t4 := L.t4; have t24 := L.t24
  have z9 := fun w => run_sizeOf' L.lay w
  have mixed := L.mixed
  have hz1 : ¬ ((m : Int) = 0) := by omega
  have hz2 : ¬ ((i : Int) = (n : Int)) := by omega
  have hz3 : (c : Int) < (n : Int) + (m : Int) := by omega
  have hw1 : IntKind.i64.wrap ((i : Int) + (m : Int)) = (i : Int) + (m : Int) := by rw [IntKind.wrap_i64]; omega
  have hb1 : (0 : Int) ≤ (i : Int) + (m : Int) := by omega
  have hin : i ≤ n := by omega
  have htn : ((i : Int) + (m : Int)).toNat = i + m := by omega
  have hGi : ¬ (G = i) := by omega
  have hGim : ¬ (G = i + m) := by omega
  have hci : ¬ (c = i) := by omega
  have hb3 : (i : Int) ≤ (n : Int) := by omega
  have h1 := hcp1 ((w.alloc (.cells row0 (ρ.t 9))).drew) rfl
  have h2 := hcp2 (((w.alloc (.cells row0 (ρ.t 9))).drew.setRow w.heap.size row1).drew) rfl
  go_enter L.hf, insFn_ntmps ρ fn
  go_wp2_with (first
    | (at_builtin; refine Lib.wpList_append_run _ rfl _ _ _ _ rfl _ _ rfl rfl _ _ (happ _) ?_)
    | (at_builtin; refine wpList_copy_runI _ rfl _ _ (ρ.t 24) (ρ.t 24) rfl _ _ rfl rfl (hcp1 _ (by exact rfl) _ _) ?_)
    | (at_builtin; refine wpList_copy_runI _ rfl _ _ (ρ.t 24) (ρ.t 24) rfl _ _ rfl rfl (hcp2 _ (by exact rfl) _ _ _) ?_))
  go_region_law_o (refine step_copy_runI rfl _ _ (ρ.t 24) (ρ.t 24) rfl _ _ (by simp [Act.eval, Act.put]) (by simp [Act.eval, Act.put]) (h2 _ _ _) ?_)
  go_wp2
  go_ret
  exact ⟨rfl, rfl⟩

/-! ### Rows -/
theorem spl_mid {α : Type} (A Z news : List α) : spl (A ++ Z) A.length news = A ++ (news ++ Z.drop news.length) := by
  unfold spl
  rw [List.take_left' rfl, List.append_assoc, ← List.drop_drop, List.drop_left' rfl]

theorem RdL.takeL {w : World} {M : Nat → Prop} {e : Ty} {cs : List Value} {l : List e.den} (h : RdL w M e cs l) (i : Nat) : RdL w M e (cs.take (i * e.size)) (l.take i) := by
  intro j hj
  rw [List.length_take] at hj
  have := mul_lt_of (s := e.size) (show j < i by omega)
  rw [List.drop_take, List.take_take, Nat.min_eq_left (by omega), List.getElem_take]
  exact h j (by omega)

theorem RdL.dropL {w : World} {M : Nat → Prop} {e : Ty} {cs : List Value} {l : List e.den} (h : RdL w M e cs l) (i : Nat) : RdL w M e ((cs.drop (i * e.size)).take ((l.length - i) * e.size)) (l.drop i) := by
  intro j hj
  rw [List.length_drop] at hj
  have := mul_lt_of (s := e.size) hj
  rw [List.drop_take, List.take_take, Nat.min_eq_left (by omega), List.drop_drop, List.getElem_drop, ← Nat.add_mul]
  exact h (i + j) (by omega)

/-- What a function leaves that hands back one new slice. -/
theorem one_own {w w' : World} {M0 : Nat → Prop} {hs : List Nat} {e : Ty} {rb cap : Nat} {row : Array Value} {t : TypeId} {l : List e.den} (hlim : ∀ b, M0 b → b < w.heap.size) (hdis : ∀ b ∈ hs, ¬ M0 b)
    (hfr : ∀ b, b < w.heap.size → b ∉ hs → w'.heap[b]? = w.heap[b]?) (hsz : w.heap.size ≤ w'.heap.size) (hrb : rb < w.heap.size → rb ∈ hs) (hos : w'.os = w.os) (htp : w'.tape = w.tape) (hout : w'.output = w.output)
    (hrow : w'.heap[rb]? = some (.cells row t (0, 0))) (h0 : 0 < cap) (hl : l.length ≤ cap) (hm : cap ≤ maxLen) (hrs : row.size = cap * e.size) (hrd : RdL w (fun b => M0 b ∨ b ∈ hs) e row.toList l) :
    ∃ us M', Value.slice (some ⟨rb, 0, none⟩) l.length cap = packV us ∧ RR w' M' [.own e] l us [] ∧ Left w M0 hs w' M' ∧ (blocksR [.own e] us []).Nodup ∧ ∀ b ∈ blocksR [.own e] us [], ¬ M0 b := by
  have hrl : rb < w'.heap.size := (Array.getElem?_eq_some_iff.1 hrow).1
  have hk : Keeps w (fun b => M0 b ∨ b ∈ hs) w' (fun b => M0 b ∨ b = rb) := ⟨hsz, fun b hb hn => hfr b hb (fun h => hn (.inr h)), fun b hb h => h.elim .inl (fun e => .inr (e ▸ hrb (e ▸ hb)))⟩
  have hbl : blocksR [.own e] [Value.slice (some ⟨rb, 0, none⟩) l.length cap] [] = [rb] := by
    have : cap ≠ 0 := by omega
    simp [blocksR, hand1, AM.isIo, blk, this]
  refine ⟨[.slice (some ⟨rb, 0, none⟩) l.length cap], fun b => M0 b ∨ b = rb, rfl, ?_, ?_, ?_, ?_⟩
  · simp only [RR]
    refine .inr ⟨_, [], rfl, rfl, rfl, ?_, rfl, trivial⟩
    simp only [A1, ER, hpH]
    exact .inr ⟨rb, row, t, cap, rfl, hrow, .inr rfl, h0, hl, hm, hrs, hrd.keep hk⟩
  · exact ⟨fun b h => .inl h, fun b h => h.elim (fun h => Nat.lt_of_lt_of_le (hlim b h) hsz) (fun h => h ▸ hrl), fun b hb h => h.elim .inl (fun e => .inr (e ▸ hrb (e ▸ hb))), hfr, hsz, hos, htp, hout⟩
  · rw [hbl]; simp
  · rw [hbl]
    intro b hb h
    rw [List.mem_singleton] at hb
    subst hb
    exact hdis b (hrb (hlim b h)) h

theorem setRow_other (w : World) {b c : Nat} (r : Array Value) (h : c ≠ b) : (w.setRow b r).heap[c]? = w.heap[c]? := by
  unfold World.setRow
  rw [Array.getElem?_modify, if_neg (fun e => h e.symm)]

theorem setRow_size (w : World) (b : Nat) (r : Array Value) : (w.setRow b r).heap.size = w.heap.size := by
  unfold World.setRow; simp

theorem alloc_old (w : World) (o : Obj) {c : Nat} (h : c < w.heap.size) : (w.alloc o).heap[c]? = w.heap[c]? := by
  show (w.heap.push o)[c]? = _
  rw [Array.getElem?_push, if_neg (by omega)]

theorem alloc_new (w : World) (o : Obj) : (w.alloc o).heap[w.heap.size]? = some o := by
  show (w.heap.push o)[w.heap.size]? = _
  simp

theorem alloc_size (w : World) (o : Obj) : (w.alloc o).heap.size = w.heap.size + 1 := by
  show (w.heap.push o).size = _
  simp

theorem cells_of_row {w : World} {b : Nat} {cs : Array Value} {t : TypeId} {f : Nat × Nat} (h : w.heap[b]? = some (.cells cs t f)) (o n : Nat) : ∀ j u, ((cs.toList.drop o).take n)[j]? = some u → w.cell? ((⟨b, o, none⟩ : Addr).add j) = some u := by
  intro j u hj
  rw [Addr.add_lit]
  rw [List.getElem?_take] at hj
  split at hj
  · rw [List.getElem?_drop, Array.getElem?_toList] at hj
    simp only [World.cell?, h]
    simpa using hj
  · cases hj

theorem own_inv {w : World} {M : Nat → Prop} {v : Value} {e : Ty} {l : List e.den} (h : ER w M v (.own e l)) : (l = [] ∧ ∃ a, v = .slice a 0 0) ∨
      ∃ b cs t cap, v = .slice (some ⟨b, 0, none⟩) l.length cap ∧ w.heap[b]? = some (.cells cs t (0, 0)) ∧ M b ∧ 0 < cap ∧ l.length ≤ cap ∧ cap ≤ maxLen ∧ cs.size = cap * e.size ∧ RdL w M e cs.toList l := h

end VM
end

