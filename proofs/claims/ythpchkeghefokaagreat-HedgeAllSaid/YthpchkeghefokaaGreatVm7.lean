/- A part of the proof of HedgeAll of layer 22: a machine that reads a function of the program as an equation between values. -/
import Derived.Test.YthpchkeghefokaaGreatVm6
import Derived.Test.YthpchkeghefokaaGreatVm0
import Derived.Laws.Externs
import Derived.Shelf.Spec.SlicesInsertGrow
set_option linter.all false
section
/- The value machine: a function by its pieces, in short. -/
namespace VM
open Go

/-- What is kept at a cut, as parameters. -/
@[reducible] def CM.arr : CM → Type → Type
  | .v τ, T | .obj τ, T | .io τ, T | .fn _ τ, T => τ.den → T
  | .own e, T => List e.den → T
  | .lnk τ _ e, T => τ.den → List e.den → T
  | .same _, T => T
@[reducible] def Cur : List (Nat × CM) → Type → Type
  | [], R => R
  | q :: r, R => q.2.arr (Cur r R)
def CM.lam {T : Type} (s : Nat) (σ : St) : (m : CM) → (St → T) → m.arr T
  | .v τ, f => fun x => f (σ.put s (.val τ x))
  | .own e, f => fun x => f ((σ.put s (.ref (16 * s + 14))).putH (16 * s + 14) (some (.own e x)))
  | .obj τ, f => fun x => f ((σ.put s (.adr (16 * s + 14) [])).putH (16 * s + 14) (some (.obj τ x)))
  | .lnk τ q e, f => fun x l => f (((σ.put s (.adr (16 * s + 14) [])).putH (16 * s + 13) (some (.own e l))).putH (16 * s + 14) (some (.lnk τ x q (16 * s + 13))))
  | .io τ, f => fun x => f ((σ.put s (.adr (16 * s + 15) [])).putH (16 * s + 15) (some (.obj τ x)))
  | .fn g τ, f => fun x => f (σ.put s (.clo g (capsL τ x)))
  | .same s', f => f (σ.put s (σ.T s'))
def curC {R : Type} (κ : St → R) : (L : List (Nat × CM)) → St → Cur L R
  | [], σ => κ σ
  | q :: r, σ => q.2.lam q.1 σ (curC κ r)
@[reducible] def CurA : List AM → Type → Type
  | [], R => R
  | m :: r, R => m.den → CurA r R
def uncA {R : Type} : (ms : List AM) → CurA ms R → HP ms → R
  | [], g, _ => g
  | [_], g, x => g x
  | _ :: n :: ms, g, x => uncA (n :: ms) (g x.1) x.2
def curA {R : Type} : (ms : List AM) → (HP ms → R) → CurA ms R
  | [], f => f ()
  | [_], f => f
  | _ :: n :: ms, f => fun x => curA (n :: ms) fun y => f (x, y)
theorem unc_cur {R : Type} : ∀ (ms : List AM) (f : HP ms → R) (x : HP ms), uncA ms (curA ms f) x = f x
  | [], _, () => rfl
  | [_], _, _ => rfl
  | _ :: n :: ms, f, x => unc_cur (n :: ms) (fun y => f (x.1, y)) x.2

/-- A piece: its number (twice the region's, and one more if it is a loop), what is kept, where it stands, the loops round it. -/
structure Pc where
  k : Nat
  c : List (Nat × CM)
  path : List Nat
  ks : List Nat
def pcOf : List Pc → Nat → Pc
  | [], _ => ⟨0, [], [], []⟩
  | p :: r, k => cond (Nat.beq k p.k) p (pcOf r k)
def cutOf : List Pc → Nat → Option (List (Nat × CM))
  | [], _ => none
  | p :: r, k => cond (Nat.beq k p.k) (some p.c) (cutOf r k)
def sumsOf : List (Nat × Summ) → Nat → List Summ
  | [], _ => []
  | q :: r, i => cond (Nat.beq i q.1) (q.2 :: sumsOf r i) (sumsOf r i)
def ioIx : List AM → Nat → List Nat
  | [], _ => []
  | .io _ :: r, i => i :: ioIx r (i + 1)
  | _ :: r, i => ioIx r (i + 1)

structure Fx where
  nt : Nat
  tab : List (Nat × Ty)
  G : List (Nat × Summ)
  N : Nat
  fn : Func
  args : List AM
  res : List AM
  pcs : List Pc
  lk : Option (Ty × List Step × Ty × List Nat) := none
namespace Fx
variable (X : Fx)
abbrev R := Option (HP X.res)
def E : Env := { nt := X.nt, ty := fun i => lookT i X.tab, Γ := sumsOf X.G, N := X.N, cutL := fun r => cutOf X.pcs (2 * r + 1), cutJ := fun r => cutOf X.pcs (2 * r), io := ioIx X.args 0, lk := X.lk }
@[reducible] def c (i : Nat) : List (Nat × CM) := (pcOf X.pcs i).c
def path (i : Nat) : List Nat := (pcOf X.pcs i).path
def odd (i : Nat) : Bool := Nat.beq (i % 2) 1
def cut (ρ : Nat → St → X.R) (l : Nat) : St → X.R := fun σ => cutK (some (X.c l)) σ (ρ l)
def ks (ρ : Nat → St → X.R) (i : Nat) : List (St → X.R) := (pcOf X.pcs i).ks.map (X.cut ρ)
noncomputable def lp (ρ : Nat → St → X.R) (i n : Nat) : St → X.R := lpF X.E X.fn X.args X.res (X.c i) (X.path i) (X.ks ρ i) n
noncomputable def sem (ρ : Nat → St → X.R) (i : Nat) : St → X.R := cond (odd i) (X.lp ρ i X.N) (atF X.E X.fn X.args X.res (X.path i) (X.ks ρ i))
def own (ρ : Nat → St → X.R) (i : Nat) : List (St → X.R) := X.ks ρ i ++ cond (odd i) [X.cut ρ i] []
noncomputable def at' (K ρ : Nat → St → X.R) (i : Nat) : St → X.R := atQ X.E X.fn X.args X.res (fun r => K (2 * r)) (fun r => K (2 * r + 1)) (X.path i) (X.own ρ i)
noncomputable def tl (K ρ : Nat → St → X.R) (i : Nat) : List ((St → X.R) × (St → X.R)) := selT X.E (fun r => K (2 * r)) (fun r => K (2 * r + 1)) (tlsF X.E X.fn X.args X.res (X.path i) (X.own ρ i))
@[reducible] def cu (i : Nat) (κ : St → X.R) : Cur (X.c i) X.R := curC κ (X.c i) S0
/-- Behind a piece's body: with the pieces behind it, with the loops round it. -/
@[reducible] noncomputable def bd (K ρ : Nat → St → X.R) (i : Nat) : Cur (X.c i) X.R := X.cu i (X.at' K ρ i)
@[reducible] def kc (ρ : Nat → St → X.R) (i : Nat) : Cur (X.c i) X.R := X.cu i (ρ i)
def none' : Nat → St → X.R := fun _ _ => none
noncomputable def top (K : Nat → St → X.R) : CurA X.args X.R := curA X.args fun x => atQ X.E X.fn X.args X.res (fun r => K (2 * r)) (fun r => K (2 * r + 1)) [] [] (entry X.args x 0 S0)
noncomputable def tlT (K : Nat → St → X.R) : List ((St → X.R) × (St → X.R)) := selT X.E (fun r => K (2 * r)) (fun r => K (2 * r + 1)) (tlsF X.E X.fn X.args X.res [] [])
noncomputable def S (q : Bool) (g : CurA X.args X.R) : Summ := { args := X.args, res := X.res, quiet := q, run := uncA X.args g }
variable {X}

theorem allE (f : Nat → St → X.R) : ∀ labs : List Nat, AllE (labs.map fun t => (f t, f t))
  | [] => trivial
  | _ :: r => ⟨rfl, allE f r⟩

theorem okJ {i : Nat} (labs : List Nat) (hi : odd i = false) (hr : ∀ K ρ, X.tl K ρ i = labs.map fun t => (K t, X.sem ρ t)) {g : (Nat → St → X.R) → (Nat → St → X.R) → Cur (X.c i) X.R} (h : ∀ K ρ, X.bd K ρ i = g K ρ) (ρ : Nat → St → X.R) : X.kc (X.sem ρ) i = g (X.sem ρ) ρ := by
  rw [← h]
  have : X.sem ρ i = X.at' (X.sem ρ) ρ i := by
    funext σ
    have h1 := hr (X.sem ρ) ρ
    unfold tl own at h1
    rw [hi, cond_false, List.append_nil] at h1
    unfold at' own
    rw [hi, cond_false, List.append_nil]
    rw [← at_eq X.E X.fn X.args X.res h1 (allE (X.sem ρ) labs) σ]
    unfold sem; rw [hi]; rfl
  unfold kc bd
  rw [this]

def okb (X : Fx) (i : Nat) : Bool := odd i && (pcOf X.pcs i).ks.all fun l => !(Nat.beq l i)

theorem okL {i : Nat} (labs : List Nat) (hi : okb X i = true) (hr : ∀ K ρ, X.tl K ρ i = labs.map fun t => (K t, X.sem ρ t)) {g : (Nat → St → X.R) → (Nat → St → X.R) → Cur (X.c i) X.R} (h : ∀ K ρ, X.bd K ρ i = g K ρ) (ρ : Nat → St → X.R)
    (G : Nat → Cur (X.c i) X.R) (h0 : X.cu i (fun _ => none) = G 0) (hs : ∀ n ρ', X.kc ρ' i = G n → (∀ l, Nat.beq l i = false → X.kc ρ' l = X.kc ρ l) → g (X.sem ρ') ρ' = G (n + 1)) : X.kc (X.sem ρ) i = G X.N := by
  unfold okb at hi
  rw [Bool.and_eq_true] at hi
  obtain ⟨hi, hk⟩ := hi
  have key : ∀ n, X.cu i (X.lp ρ i n) = G n := by
    intro n
    induction n with
    | zero => exact h0
    | succ n ih =>
      let ρ' : Nat → St → X.R := fun l => cond (Nat.beq l i) (X.lp ρ i n) (ρ l)
      have e1 : ρ' i = X.lp ρ i n := by show cond (Nat.beq i i) _ _ = _; rw [Nat.beq_refl]; rfl
      have e2 : ∀ l, Nat.beq l i = false → ρ' l = ρ l := fun l hl => by show cond (Nat.beq l i) _ _ = _; rw [hl]; rfl
      rw [← hs n ρ' (by unfold kc; rw [e1]; exact ih) (fun l hl => by unfold kc; rw [e2 l hl]), ← h]
      have e3 : X.ks ρ' i = X.ks ρ i := by
        unfold ks
        refine List.map_congr_left fun l hl => ?_
        have := List.all_eq_true.1 hk l hl
        unfold cut
        rw [e2 l (by simpa using this)]
      have : X.lp ρ i (n + 1) = X.at' (X.sem ρ') ρ' i := by
        funext σ
        have h1 := hr (X.sem ρ') ρ'
        unfold tl own at h1
        rw [hi, cond_true] at h1
        unfold at' own
        rw [hi, cond_true]
        rw [← at_eq X.E X.fn X.args X.res h1 (allE (X.sem ρ') labs) σ]
        unfold lp
        rw [lpF_succ, e3]
        unfold cut
        rw [e1]; rfl
      unfold bd
      rw [this]
  have : X.sem ρ i = X.lp ρ i X.N := by unfold sem; rw [hi]; rfl
  unfold kc
  rw [this]; exact key _

def AllG (P : Program) : List (Nat × Summ) → Prop
  | [] => True
  | q :: r => SumOk P q.1 q.2 ∧ AllG P r

theorem sumsOf_ok {P : Program} : ∀ {l : List (Nat × Summ)}, AllG P l → ∀ f S, S ∈ sumsOf l f → SumOk P f S
  | [], _, f, S, h => by simp [sumsOf] at h
  | q :: r, ha, f, S, h => by
    unfold sumsOf at h
    cases hb : Nat.beq f q.1 <;> rw [hb] at h
    · exact sumsOf_ok ha.2 f S h
    · rcases List.mem_cons.1 h with rfl | h
      · rw [Nat.eq_of_beq_eq_true hb]; exact ha.1
      · exact sumsOf_ok ha.2 f S h

theorem cutOf_ok : ∀ {l : List Pc}, (l.all fun p => freshL p.c) = true → ∀ i L, cutOf l i = some L → freshL L = true
  | q :: r, ha, i, L, h => by
    rw [List.all_cons, Bool.and_eq_true] at ha
    unfold cutOf at h
    cases hb : Nat.beq i q.k <;> rw [hb] at h
    · exact cutOf_ok ha.2 i L h
    · cases h; exact ha.1

def chk (X : Fx) (q : Bool) : Bool := (X.pcs.all fun p => freshL p.c) && ((!(X.fn.name == "runtime.NumGoroutine") && Nat.beq X.nt X.fn.ntmps) && (X.fn.body.isSome && (Nat.ble X.args.length X.nt && ((!q || X.res.all AM.flat) && decide (ioTys X.args = ioTys X.res)))))

theorem ioIx_mem : ∀ {ms : List AM} {k i : Nat} {m : AM}, ms[i]? = some m → m.isIo = true → k + i ∈ ioIx ms k
  | [], _, _, _, h, _ => by simp at h
  | m :: ms, k, 0, m', h, hio => by
    simp only [List.getElem?_cons_zero, Option.some.injEq] at h
    subst h
    cases m <;> simp [AM.isIo] at hio
    simp [ioIx]
  | m :: ms, k, i + 1, m', h, hio => by
    have := ioIx_mem (ms := ms) (k := k + 1) (i := i) (by simpa using h) hio
    rw [show k + (i + 1) = k + 1 + i from by omega]
    cases m <;> simp only [ioIx] <;> first | exact List.mem_cons_of_mem _ this | exact this

theorem ioIx_lt : ∀ {ms : List AM} {k i : Nat}, i ∈ ioIx ms k → i < k + ms.length
  | [], _, _, h => by simp [ioIx] at h
  | m :: ms, k, i, h => by
    have hr : i ∈ ioIx ms (k + 1) → i < k + (m :: ms).length := fun h => by have := ioIx_lt h; simp only [List.length_cons]; omega
    cases m <;> simp only [ioIx] at h <;> first
      | exact hr h
      | (rcases List.mem_cons.1 h with rfl | h
         · simp only [List.length_cons]; omega
         · exact hr h)

variable (X) in
theorem envOk {P : Program} (ht : TabOk P X.tab) (hG : AllG P X.G) (hc : (X.pcs.all fun p => freshL p.c) = true) : EnvOk P X.E := by
  have hall : ∀ t τ, lookT t X.tab = some τ → layB P τ (.inl t) = true ∧ eqTB P τ t = true := fun t τ h => by
    have := List.all_eq_true.1 ht.ok _ (lookT_mem h)
    simpa using this
  exact { ty := fun t τ h => layB_ok (hall t τ h).1, eq := fun t τ h hc ha => eqTB_ok (layB_ok (hall t τ h).1) (hall t τ h).2 hc ha, sums := sumsOf_ok hG, mixed := ht.mixed, freshL := fun i L h => cutOf_ok hc _ L h, freshJ := fun i L h => cutOf_ok hc _ L h }

/-- A function's contract. -/
theorem mkS {P : Program} (ht : TabOk P X.tab) {f : FuncId} (hf : P.funcs[f]? = some X.fn) {q : Bool} (hc : chk X q = true) (hG : AllG P X.G) {g : CurA X.args X.R} (h : ∀ x, evF X.E X.fn X.args X.res x = uncA X.args g x) : SumOk P f (X.S q g) := by
  unfold chk at hc
  simp only [Bool.and_eq_true] at hc
  obtain ⟨h0, ⟨h1, h2⟩, h3, h4, h5, h6⟩ := hc
  refine sumOk_of (envOk X ht hG h0) hf (by simpa using h1) (Nat.eq_of_beq_eq_true h2) (X.S q g) (fun i m hm hio => ?_) (fun i hi => ?_) ?_ (fun hq => ?_) (of_decide_eq_true h6) h
  · have := ioIx_mem (k := 0) hm hio
    rwa [Nat.zero_add] at this
  · have := ioIx_lt (k := 0) hi
    rwa [Nat.zero_add] at this
  · have := Nat.le_of_ble_eq_true h4
    rwa [Nat.eq_of_beq_eq_true h2] at this
  · have hq : q = true := hq
    subst hq
    show X.res.all AM.flat = true
    simpa using h5

/-- One without pieces. -/
theorem run0 {g : CurA X.args X.R} (h : curA X.args (evF X.E X.fn X.args X.res) = g) (x : HP X.args) : evF X.E X.fn X.args X.res x = uncA X.args g x := by rw [← h, unc_cur]
variable (X) in
theorem ok0 {P : Program} (ht : TabOk P X.tab) {f : FuncId} (hf : P.funcs[f]? = some X.fn) {q : Bool} (hc : chk X q = true) (hG : AllG P X.G) {g : CurA X.args X.R} (h : curA X.args (evF X.E X.fn X.args X.res) = g) : SumOk P f (X.S q g) :=
  mkS ht hf hc hG (run0 h)

/-- One with pieces. -/
theorem run1 (hb : X.fn.body.isSome = true) (labs : List Nat) (hr : ∀ K, X.tlT K = labs.map fun t => (K t, X.sem X.none' t))
    {g : (Nat → St → X.R) → CurA X.args X.R} (h : ∀ K, X.top K = g K) {f : CurA X.args X.R} (hf : g (X.sem X.none') = f) (x : HP X.args) : evF X.E X.fn X.args X.res x = uncA X.args f x := by
  rw [← hf, ← h, evF_at hb]
  unfold top
  rw [unc_cur]
  exact at_eq X.E X.fn X.args X.res (hr (X.sem X.none')) (allE (X.sem X.none') labs) _
variable (X) in
theorem ok1 {P : Program} (ht : TabOk P X.tab) {f : FuncId} (hf : P.funcs[f]? = some X.fn) {q : Bool} (hc : chk X q = true) (hG : AllG P X.G) (labs : List Nat) (hr : ∀ K, X.tlT K = labs.map fun t => (K t, X.sem X.none' t))
    {g : (Nat → St → X.R) → CurA X.args X.R} (h : ∀ K, X.top K = g K) {f' : CurA X.args X.R} (hf' : g (X.sem X.none') = f') : SumOk P f (X.S q f') := by
  have hb : X.fn.body.isSome = true := by
    unfold chk at hc
    simp only [Bool.and_eq_true] at hc
    exact hc.2.2.1
  exact mkS ht hf hc hG (run1 hb labs hr h hf')

end Fx

end VM
end

section
/- The value machine, thirty-second text: functions that the model runs itself. -/
namespace VM
open Go
variable {P : Program}

theorem Left.same (w : World) (M0 : Nat → Prop) (h : ∀ b, M0 b → b < w.heap.size) : Left w M0 [] w M0 :=
  ⟨fun _ h => h, h, fun _ _ h => .inl h, fun _ _ _ => rfl, Nat.le_refl _, rfl, rfl, rfl⟩

theorem args3 {w : World} {M : Nat → Prop} {a b c : IntKind} {x : HP [.v (.int a), .v (.int b), .v (.int c)]} {vs : List Value} (h : ArgsR w M [.v (.int a), .v (.int b), .v (.int c)] x vs) : vs = [.int a x.1, .int b x.2.1, .int c x.2.2] := by
  simp only [ArgsR, A1, V, Ty.isAgg, Bool.false_eq_true, if_false, Rd, List.cons.injEq, and_true] at h
  obtain ⟨v, vs, rfl, rfl, v, vs, rfl, rfl, v, vs, rfl, rfl, rfl⟩ := h
  rfl

theorem rr2 {w : World} {M : Nat → Prop} {a b : IntKind} (x y : Int) : RR w M [.v (.int a), .v (.int b)] (x, y) [.int a x, .int b y] [] := by
  simp only [RR]
  refine .inr ⟨_, _, rfl, rfl, rfl, ?_, .inr ⟨_, _, rfl, rfl, rfl, ?_, rfl, trivial⟩⟩ <;> simp [A1, V, Ty.isAgg, Rd, hpH, hpT]

theorem extern3 {f : FuncId} (run : Int × Int × Int → Option (Int × Int))
    (h : ∀ (w : World) (a b c u v : Int), run (a, b, c) = some (u, v) → (callFunc f #[.int .u64 a, .int .u64 b, .int .u64 c]).run P w = .ok (.value (.tuple #[.int .u64 u, .int .u64 v])) w) :
    SumOk P f { args := [.v (.int .u64), .v (.int .u64), .v (.int .u64)], res := [.v (.int .u64), .v (.int .u64)], quiet := true, run } := by
  refine ⟨fun _ => rfl, rfl, fun M0 w vs x y hlim hA _ _ hy => ?_⟩
  have hvs := args3 hA
  subst hvs
  exact does_of_value (h w x.1 x.2.1 x.2.2 y.1 y.2 hy) ⟨_, M0, rfl, rr2 y.1 y.2, Left.same w M0 hlim, List.nodup_nil, fun b hb => by cases hb⟩

theorem three_run (nm : String) (a b c : Nat) (h : c ≤ 1) (w : World) : (Extern.MathBitsCarry.three nm #[.int .u64 a, .int .u64 b, .int .u64 c]).run P w = .ok (a, b, c) w := by
  have h5 : ¬ (1 < c) := by omega
  have : Extern.MathBitsCarry.three nm #[.int .u64 a, .int .u64 b, .int .u64 c] = (do
    let c := (← asInt (.int .u64 c)).toNat
    if c > 1 then unsupported (.noEntry ("extern/math/bits." ++ nm ++ ": a carry that is neither 0 nor 1"))
    pure ((← asInt (.int .u64 a)).toNat, (← asInt (.int .u64 b)).toNat, c)) := rfl
  rw [this]
  simp [asInt, asIntOf]
  omega

theorem add64_sum {f : FuncId} {fn : Func} (N : Nat) (hf : P.funcs[f]? = some fn) (hname : (fn.name == "runtime.NumGoroutine") = false) (hb : fn.body.isNone = true) (hn : Extern.findNext fn = none)
    (he : Extern.find fn = (Extern.MathBitsCarry.rows[0]?).map (·.2)) : SumOk P f (add64.S N) := by
  refine extern3 (fun x => add64 N x.1 x.2.1 x.2.2) fun w a b c u v hy => ?_
  simp only [add64] at hy
  split at hy
  · rename_i hc
    obtain ⟨h1, h2, h3, h4⟩ := hc
    obtain ⟨a, rfl⟩ := Int.eq_ofNat_of_zero_le h1
    obtain ⟨b, rfl⟩ := Int.eq_ofNat_of_zero_le h2
    obtain ⟨c, rfl⟩ := Int.eq_ofNat_of_zero_le h3
    cases hy
    rw [run_callFunc_extern hf hname hb hn he]
    simp [three_run _ a b c (by omega), Extern.MathBitsCarry.pair, Extern.MathBitsCarry.m64]
  · cases hy

theorem sub64_sum {f : FuncId} {fn : Func} (N : Nat) (hf : P.funcs[f]? = some fn) (hname : (fn.name == "runtime.NumGoroutine") = false) (hb : fn.body.isNone = true) (hn : Extern.findNext fn = none)
    (he : Extern.find fn = (Extern.MathBitsCarry.rows[1]?).map (·.2)) : SumOk P f (sub64.S N) := by
  refine extern3 (fun x => sub64 N x.1 x.2.1 x.2.2) fun w a b c u v hy => ?_
  simp only [sub64] at hy
  split at hy
  · rename_i hc
    obtain ⟨h1, h1', h2, h2', h3, h4⟩ := hc
    obtain ⟨a, rfl⟩ := Int.eq_ofNat_of_zero_le h1
    obtain ⟨b, rfl⟩ := Int.eq_ofNat_of_zero_le h2
    obtain ⟨c, rfl⟩ := Int.eq_ofNat_of_zero_le h3
    cases hy
    rw [run_callFunc_extern hf hname hb hn he]
    have e1 : ((a + 18446744073709551616 - b - c : Nat) : Int) = (a : Int) + 18446744073709551616 - b - c := by omega
    by_cases h : a < b + c
    · have h' : (a : Int) < (b : Int) + (c : Int) := by omega
      simp [three_run _ a b c (by omega), Extern.MathBitsCarry.pair, Extern.MathBitsCarry.m64, e1, h, h']
    · have h' : ¬ (a : Int) < (b : Int) + (c : Int) := by omega
      simp [three_run _ a b c (by omega), Extern.MathBitsCarry.pair, Extern.MathBitsCarry.m64, e1, h, h']
  · cases hy

end VM
end

section
/- The value machine: slices.Insert, at one element, of any type. -/
set_option linter.unusedVariables false
set_option linter.unusedSimpArgs false
namespace VM
open Go Go.Shelf Go.RowKit Go.Lib Go.Proofs
variable {P : Program} {ρ : Ren}

/-- The library's own text, under a program's numbers. -/
noncomputable def insFn (ρ : Ren) (fn : Func) : Func := { fn with body := (Body2.n22 ρ).body, ntmps := 95, results := (Body2.n22 ρ).results, nfree := 0 }
theorem insFn_ntmps (ρ : Ren) (fn : Func) : (insFn ρ fn).ntmps = 95 := rfl

structure InsP (P : Program) (e : Ty) (ρ : Ren) (f : FuncId) (fn fo : Func) : Prop where
  hf : P.funcs[f]? = some (insFn ρ fn)
  t3 : P.underlying (ρ.t 3) = some (.int .i64)
  t4 : P.underlying (ρ.t 4) = some .bool
  t24 : P.underlying (ρ.t 24) = some (.slice (ρ.t 9))
  lay : Lay P e (ρ.t 9)
  solid : 0 < e.size
  mixed : P.follows .mixedOrders = true

set_option maxHeartbeats 4000000 in
set_option maxRecDepth 100000 in
/-- At the end. -/
theorem ins_end {e : Ty} {f : FuncId} {fn fo : Func} (L : InsP P e ρ f fn fo) (w : World) (base : Option Addr) (n c m vc : Nat) (va : Addr) (v' : Value) (w' : World) (hm : 0 < m) (hn : n ≤ c)
   (happ : ∀ ty, (Builtin.append_ #[ρ.t 24, ρ.t 24] ty #[.slice base n c, .slice (some va) m vc]).run P w = .ok v' w') :
    Calls P f #[.slice base n c, .int .i64 n, .slice (some va) m vc] w fun r w2 => r = .returned v' ∧ w2 = w' := by
  have u3 := run_underlying L.t3; have u4 := run_underlying L.t4; have u24 := run_underlying L.t24
  have t3 := L.t3; have t4 := L.t4; have t24 := L.t24
  have z9 := fun w => run_sizeOf' L.lay w
  have mixed := L.mixed
  have hz1 : ¬ ((m : Int) = 0) := by omega
  go_enter L.hf, insFn_ntmps ρ fn
  cases base with
  | none =>
    go_wp2_with (at_builtin; refine Lib.wpList_append_run _ rfl _ _ _ _ rfl _ _ rfl rfl _ _ (happ _) ?_)
    all_goals (go_ret; exact ⟨rfl, rfl⟩)
  | some a =>
    obtain ⟨ab, ao, asp⟩ := a
    go_wp2_with (at_builtin; refine Lib.wpList_append_run _ rfl _ _ _ _ rfl _ _ rfl rfl _ _ (happ _) ?_)
    all_goals (go_ret; exact ⟨rfl, rfl⟩)

/-- A copy into a row. -/
theorem run_copy_row {t te e : TypeId} {k : Nat} (ht : P.underlying t = some (.slice e)) (hk : ∀ w, (Go.sizeOf e).run P w = .ok k w) {W : World} {b o dLen dCap sLen sCap n : Nat} {a : Addr} {cs : Array Value} (hg : W.heap[b]? = some (.cells cs te (0, 0)))
    {news : List Value} (hnn : Nat.min sLen dLen = n) (hl : news.length = n * k) (hn : ∀ j u, news[j]? = some u → W.cell? (a.add j) = some u) (h1 : ∀ u ∈ news, u.oneCell' = true) (hfit : o + news.length ≤ cs.size) (ty : TypeId) :
    (Builtin.copy_ #[t, t] ty #[.slice (some ⟨b, o, none⟩) dLen dCap, .slice (some a) sLen sCap]).run P W = .ok (goInt n) (W.setRow b (spl cs.toList o news).toArray) := by
  have hf := run_firstCells_some (P := P) W k n a sLen sCap news hl hn
  have hst := run_storeCells_at (P := P) b o te news 0 cs W hg (by omega) h1
  simp only [Nat.add_zero] at hst
  simp [Builtin.copy_, run_underlying ht, hk, Builtin.lenOf, hnn, hf, hst, spl]

set_option maxHeartbeats 4000000 in
set_option maxRecDepth 100000 in
/-- Within, and there is room. -/
theorem ins_shift {e : Ty} {f : FuncId} {fn fo : Func} (L : InsP P e ρ f fn fo) (w : World) (b n c i m vc : Nat) (va : Addr) (row1 row2 : Array Value) (hi : i < n) (hm : 0 < m) (hr : n + m ≤ c) (hc63 : c ≤ 9223372036854775807)
   (hov : ∀ x lb cb, (callFunc (ρ.f 29) #[.slice (some va) m vc, .slice (some ⟨b, x, none⟩) lb cb]).run P w = .ok (.value (.bool false)) w)
   (hcp1 : ∀ ty dc sc, (Builtin.copy_ #[(ρ.t 24), (ρ.t 24)] ty #[.slice (some ⟨b, (i + m) * e.size, none⟩) (n + m - (i + m)) dc, .slice (some ⟨b, i * e.size, none⟩) (n + m - i) sc]).run P w.drew = .ok (goInt ((n - i : Nat) : Int)) (w.drew.setRow b row1))
   (hcp2 : ∀ W : World, W.heap = (w.setRow b row1).heap → ∀ ty dc, (Builtin.copy_ #[(ρ.t 24), (ρ.t 24)] ty #[.slice (some ⟨b, i * e.size, none⟩) (n + m - i) dc, .slice (some va) m vc]).run P W = .ok (goInt m) (W.setRow b row2)) :
    Calls P f #[.slice (some ⟨b, 0, none⟩) n c, .int .i64 i, .slice (some va) m vc] w fun r w2 => r = .returned (.slice (some ⟨b, 0, none⟩) (n + m) c) ∧ w2 = (w.drew.setRow b row1).setRow b row2 := by
  have u3 := run_underlying L.t3; have u4 := run_underlying L.t4; have u24 := run_underlying L.t24
  have t3 := L.t3; have t4 := L.t4; have t24 := L.t24
  have z9 := fun w => run_sizeOf' L.lay w
  have mixed := L.mixed
  have hz1 : ¬ ((m : Int) = 0) := by omega
  have hz2 : ¬ ((i : Int) = (n : Int)) := by omega
  have hw1 : IntKind.i64.wrap ((i : Int) + (m : Int)) = (i : Int) + (m : Int) := by rw [IntKind.wrap_i64]; omega
  have hb1 : (0 : Int) ≤ (i : Int) + (m : Int) := by omega
  have hin : i ≤ n := by omega
  have htn : ((i : Int) + (m : Int)).toNat = i + m := by omega
  have hb2 : ¬ (c = i + m) := by omega
  have hb3 : (i : Int) ≤ (n : Int) + (m : Int) := by omega
  have hb4 : ¬ (c = i) := by omega
  go_enter L.hf, insFn_ntmps ρ fn
  go_wp2_with (simp only [hov])
  go_region_law_o (refine step_copy_runI rfl _ _ (ρ.t 24) (ρ.t 24) rfl _ _ (by simp [Act.eval, Act.put]) (by simp [Act.eval, Act.put]) (hcp1 _ _ _) ?_)
  have h2 := hcp2 (w.drew.setRow b row1) rfl
  go_wp2
  go_ret
  exact ⟨rfl, rfl⟩

set_option maxHeartbeats 4000000 in
set_option maxRecDepth 100000 in
/-- Within, and there is no room. -/
theorem ins_grow {e : Ty} {f : FuncId} {fn fo : Func} (L : InsP P e ρ f fn fo) (w : World) (b n c i m vc nb G : Nat) (va : Addr) (row0 row1 row2 : Array Value) (hi : i < n) (hm : 0 < m) (hnc : n ≤ c) (hr : c < n + m) (hc63 : c ≤ 9223372036854775807) (h63 : n + m ≤ 9223372036854775807) (hG : n + m ≤ G) (hG63 : G ≤ 9223372036854775807)
   (happ : ∀ ty, (Builtin.append_ #[(ρ.t 24), (ρ.t 3)] ty #[.slice (some ⟨b, 0, none⟩) i c, .int .i64 ((n : Int) + (m : Int) - (i : Int))]).run P w = .ok (.slice (some ⟨w.heap.size, 0, none⟩) (n + m) G) (w.drew.alloc (.cells row0 (ρ.t 9))))
   (hcp1 : ∀ W : World, W.heap = (w.alloc (.cells row0 (ρ.t 9))).heap → ∀ ty dc, (Builtin.copy_ #[(ρ.t 24), (ρ.t 24)] ty #[.slice (some ⟨w.heap.size, i * e.size, none⟩) (n + m - i) dc, .slice (some va) m vc]).run P W = .ok (goInt m) (W.setRow w.heap.size row1))
   (hcp2 : ∀ W : World, W.heap = ((w.alloc (.cells row0 (ρ.t 9))).setRow w.heap.size row1).heap → ∀ ty dc sc, (Builtin.copy_ #[(ρ.t 24), (ρ.t 24)] ty #[.slice (some ⟨w.heap.size, (i + m) * e.size, none⟩) (n + m - (i + m)) dc, .slice (some ⟨b, i * e.size, none⟩) (n - i) sc]).run P W = .ok (goInt ((n - i : Nat) : Int)) (W.setRow w.heap.size row2)) :
    Calls P f #[.slice (some ⟨b, 0, none⟩) n c, .int .i64 i, .slice (some va) m vc] w fun r w2 => r = .returned (.slice (some ⟨w.heap.size, 0, none⟩) (n + m) G) ∧ w2 = ((w.drew.alloc (.cells row0 (ρ.t 9))).setRow w.heap.size row1).drew.setRow w.heap.size row2 := by
  have u3 := run_underlying L.t3; have u4 := run_underlying L.t4; have u24 := run_underlying L.t24
  have t3 := L.t3; have t4 := L.t4; have t24 := L.t24
  have z9 := fun w => run_sizeOf' L.lay w
  have mixed := L.mixed
  have hz1 : ¬ ((m : Int) = 0) := by omega
  have hz2 : ¬ ((i : Int) = (n : Int)) := by omega
  have hz3 : (c : Int) < (n : Int) + (m : Int) := by omega
  have hw1 : IntKind.i64.wrap ((i : Int) + (m : Int)) = (i : Int) + (m : Int) := by rw [IntKind.wrap_i64]; omega
  have hb1 : (0 : Int) ≤ (i : Int) + (m : Int) := by omega
  have hin : i ≤ n := by omega
  have htn : ((i : Int) + (m : Int)).toNat = i + m := by omega
  have hGi : ¬ (G = i) := by omega
  have hGim : ¬ (G = i + m) := by omega
  have hci : ¬ (c = i) := by omega
  have hb3 : (i : Int) ≤ (n : Int) := by omega
  have h1 := hcp1 ((w.alloc (.cells row0 (ρ.t 9))).drew) rfl
  have h2 := hcp2 (((w.alloc (.cells row0 (ρ.t 9))).drew.setRow w.heap.size row1).drew) rfl
  go_enter L.hf, insFn_ntmps ρ fn
  go_wp2_with (first
    | (at_builtin; refine Lib.wpList_append_run _ rfl _ _ _ _ rfl _ _ rfl rfl _ _ (happ _) ?_)
    | (at_builtin; refine wpList_copy_runI _ rfl _ _ (ρ.t 24) (ρ.t 24) rfl _ _ rfl rfl (hcp1 _ (by exact rfl) _ _) ?_)
    | (at_builtin; refine wpList_copy_runI _ rfl _ _ (ρ.t 24) (ρ.t 24) rfl _ _ rfl rfl (hcp2 _ (by exact rfl) _ _ _) ?_))
  go_region_law_o (refine step_copy_runI rfl _ _ (ρ.t 24) (ρ.t 24) rfl _ _ (by simp [Act.eval, Act.put]) (by simp [Act.eval, Act.put]) (h2 _ _ _) ?_)
  go_wp2
  go_ret
  exact ⟨rfl, rfl⟩

/-! ### Rows -/
theorem spl_mid {α : Type} (A Z news : List α) : spl (A ++ Z) A.length news = A ++ (news ++ Z.drop news.length) := by
  unfold spl
  rw [List.take_left' rfl, List.append_assoc, ← List.drop_drop, List.drop_left' rfl]

theorem RdL.takeL {w : World} {M : Nat → Prop} {e : Ty} {cs : List Value} {l : List e.den} (h : RdL w M e cs l) (i : Nat) : RdL w M e (cs.take (i * e.size)) (l.take i) := by
  intro j hj
  rw [List.length_take] at hj
  have := mul_lt_of (s := e.size) (show j < i by omega)
  rw [List.drop_take, List.take_take, Nat.min_eq_left (by omega), List.getElem_take]
  exact h j (by omega)

theorem RdL.dropL {w : World} {M : Nat → Prop} {e : Ty} {cs : List Value} {l : List e.den} (h : RdL w M e cs l) (i : Nat) : RdL w M e ((cs.drop (i * e.size)).take ((l.length - i) * e.size)) (l.drop i) := by
  intro j hj
  rw [List.length_drop] at hj
  have := mul_lt_of (s := e.size) hj
  rw [List.drop_take, List.take_take, Nat.min_eq_left (by omega), List.drop_drop, List.getElem_drop, ← Nat.add_mul]
  exact h (i + j) (by omega)

/-- What a function leaves that hands back one new slice. -/
theorem one_own {w w' : World} {M0 : Nat → Prop} {hs : List Nat} {e : Ty} {rb cap : Nat} {row : Array Value} {t : TypeId} {l : List e.den} (hlim : ∀ b, M0 b → b < w.heap.size) (hdis : ∀ b ∈ hs, ¬ M0 b)
    (hfr : ∀ b, b < w.heap.size → b ∉ hs → w'.heap[b]? = w.heap[b]?) (hsz : w.heap.size ≤ w'.heap.size) (hrb : rb < w.heap.size → rb ∈ hs) (hos : w'.os = w.os) (htp : w'.tape = w.tape) (hout : w'.output = w.output)
    (hrow : w'.heap[rb]? = some (.cells row t (0, 0))) (h0 : 0 < cap) (hl : l.length ≤ cap) (hm : cap ≤ maxLen) (hrs : row.size = cap * e.size) (hrd : RdL w (fun b => M0 b ∨ b ∈ hs) e row.toList l) :
    ∃ us M', Value.slice (some ⟨rb, 0, none⟩) l.length cap = packV us ∧ RR w' M' [.own e] l us [] ∧ Left w M0 hs w' M' ∧ (blocksR [.own e] us []).Nodup ∧ ∀ b ∈ blocksR [.own e] us [], ¬ M0 b := by
  have hrl : rb < w'.heap.size := (Array.getElem?_eq_some_iff.1 hrow).1
  have hk : Keeps w (fun b => M0 b ∨ b ∈ hs) w' (fun b => M0 b ∨ b = rb) := ⟨hsz, fun b hb hn => hfr b hb (fun h => hn (.inr h)), fun b hb h => h.elim .inl (fun e => .inr (e ▸ hrb (e ▸ hb)))⟩
  have hbl : blocksR [.own e] [Value.slice (some ⟨rb, 0, none⟩) l.length cap] [] = [rb] := by
    have : cap ≠ 0 := by omega
    simp [blocksR, hand1, AM.isIo, blk, this]
  refine ⟨[.slice (some ⟨rb, 0, none⟩) l.length cap], fun b => M0 b ∨ b = rb, rfl, ?_, ?_, ?_, ?_⟩
  · simp only [RR]
    refine .inr ⟨_, [], rfl, rfl, rfl, ?_, rfl, trivial⟩
    simp only [A1, ER, hpH]
    exact .inr ⟨rb, row, t, cap, rfl, hrow, .inr rfl, h0, hl, hm, hrs, hrd.keep hk⟩
  · exact ⟨fun b h => .inl h, fun b h => h.elim (fun h => Nat.lt_of_lt_of_le (hlim b h) hsz) (fun h => h ▸ hrl), fun b hb h => h.elim .inl (fun e => .inr (e ▸ hrb (e ▸ hb))), hfr, hsz, hos, htp, hout⟩
  · rw [hbl]; simp
  · rw [hbl]
    intro b hb h
    rw [List.mem_singleton] at hb
    subst hb
    exact hdis b (hrb (hlim b h)) h

theorem setRow_other (w : World) {b c : Nat} (r : Array Value) (h : c ≠ b) : (w.setRow b r).heap[c]? = w.heap[c]? := by
  unfold World.setRow
  rw [Array.getElem?_modify, if_neg (fun e => h e.symm)]

theorem setRow_size (w : World) (b : Nat) (r : Array Value) : (w.setRow b r).heap.size = w.heap.size := by
  unfold World.setRow; simp

theorem alloc_old (w : World) (o : Obj) {c : Nat} (h : c < w.heap.size) : (w.alloc o).heap[c]? = w.heap[c]? := by
  show (w.heap.push o)[c]? = _
  rw [Array.getElem?_push, if_neg (by omega)]

theorem alloc_new (w : World) (o : Obj) : (w.alloc o).heap[w.heap.size]? = some o := by
  show (w.heap.push o)[w.heap.size]? = _
  simp

theorem alloc_size (w : World) (o : Obj) : (w.alloc o).heap.size = w.heap.size + 1 := by
  show (w.heap.push o).size = _
  simp

theorem cells_of_row {w : World} {b : Nat} {cs : Array Value} {t : TypeId} {f : Nat × Nat} (h : w.heap[b]? = some (.cells cs t f)) (o n : Nat) : ∀ j u, ((cs.toList.drop o).take n)[j]? = some u → w.cell? ((⟨b, o, none⟩ : Addr).add j) = some u := by
  intro j u hj
  rw [Addr.add_lit]
  rw [List.getElem?_take] at hj
  split at hj
  · rw [List.getElem?_drop, Array.getElem?_toList] at hj
    simp only [World.cell?, h]
    simpa using hj
  · cases hj

theorem own_inv {w : World} {M : Nat → Prop} {v : Value} {e : Ty} {l : List e.den} (h : ER w M v (.own e l)) : (l = [] ∧ ∃ a, v = .slice a 0 0) ∨
      ∃ b cs t cap, v = .slice (some ⟨b, 0, none⟩) l.length cap ∧ w.heap[b]? = some (.cells cs t (0, 0)) ∧ M b ∧ 0 < cap ∧ l.length ≤ cap ∧ cap ≤ maxLen ∧ cs.size = cap * e.size ∧ RdL w M e cs.toList l := h

end VM
end

section
/- The value machine: slices.Insert's contract. -/
set_option linter.unusedVariables false
namespace VM
open Go Go.Shelf Go.RowKit Go.Lib Go.Proofs
variable {P : Program} {ρ : Ren}

theorem grow_run {w : World} {t e' : TypeId} {e : Ty} (hu : P.underlying t = some (.slice e')) (hle : Lay P e e') {n m cap cp : Nat} {olds news : List Value} {base : Option Addr} {a' : Addr} (hbase : base = none → n = 0 ∧ cap = 0)
    (hlo : olds.length = n * e.size) (ho : ∀ b, base = some b → ∀ j u, olds[j]? = some u → w.cell? (b.add j) = some u) (hln : news.length = m * e.size) (hn : ∀ j u, news[j]? = some u → w.cell? (a'.add j) = some u)
    (hg : cap < n + m) (hs : n + m < big) :
    ∃ cap' rest, (∀ ty, (Builtin.append_ #[t, t] ty #[.slice base n cap, .slice (some a') m cp]).run P w = .ok (.slice (some ⟨w.heap.size, 0, none⟩) (n + m) cap') (w.drew.alloc (.cells (olds ++ news ++ rest).toArray e'))) ∧
      n + m ≤ cap' ∧ cap' ≤ maxLen ∧ rest.length = (cap' - (n + m)) * e.size := by
  obtain ⟨i, hi, hsz, hz, hby⟩ := hle.base
  have hzs : (ofCells e e.zcells).cells.size = e.size := by rw [← Array.length_toList, ofCells_zero, length_zcells]
  have h63 : n + m ≤ maxLen := by simp only [big, maxLen] at hs ⊢; omega
  have hfit : (n + m) * i.bytes ≤ 140737488355328 := by
    have : (n + m) * i.bytes ≤ 68719476736 * 2048 := Nat.mul_le_mul (by simp only [big] at hs; omega) hby
    omega
  refine ⟨grownCap w (n + m) cap e', (Builtin.zeroCells (ofCells e e.zcells).cells (grownCap w (n + m) cap e' - (n + m))).toList, fun ty => ?_, grownCap_ge _ _ _ _, grownCap_le_maxLen _ _ _ _ h63, ?_⟩
  · cases base with
    | none =>
      obtain ⟨rfl, rfl⟩ := hbase rfl
      have ho0 : olds = [] := List.eq_nil_of_length_eq_zero (by rw [hlo]; simp)
      subst ho0
      have := run_append_nil (P := P) w t ty e' i _ hu hi hz a' m cp news (by rw [hln, hsz]) hn (by simpa using hg) (by simp only [big] at hs; omega) (by simp at hfit; omega)
      simp only [Nat.zero_add, List.nil_append]
      rw [this]
      congr 2
      apply congrArg (fun z => Obj.cells z e' (0, 0))
      apply Array.ext'; simp
    | some b =>
      have := run_append_grow (P := P) w t ty e' i _ hu hi hz b n cap olds (by rw [hlo, hsz]) (ho b rfl) a' m cp news (by rw [hln, hsz]) hn hg (by simp only [big] at hs; omega) (growslice_fits hg hfit)
      rw [this]
      congr 2
      apply congrArg (fun z => Obj.cells z e' (0, 0))
      apply Array.ext'; simp
  · rw [Array.length_toList, size_zeroCells, hzs]

theorem zeros_run {w : World} {t tn e' : TypeId} {e : Ty} (hu : P.underlying t = some (.slice e')) (htn : P.underlying tn = some (.int .i64)) (hle : Lay P e e') (hsol : 0 < e.size) {n k cap : Nat} {olds : List Value} {b : Addr}
    (hlo : olds.length = n * e.size) (ho : ∀ j u, olds[j]? = some u → w.cell? (b.add j) = some u) (hk : 0 < k) (hg : cap < n + k) (hs : n + k < big) :
    ∃ cap' rest, (∀ ty, (Builtin.append_ #[t, tn] ty #[.slice (some b) n cap, .int .i64 k]).run P w = .ok (.slice (some ⟨w.heap.size, 0, none⟩) (n + k) cap') (w.drew.alloc (.cells (olds ++ rest).toArray e'))) ∧
      n + k ≤ cap' ∧ cap' ≤ maxLen ∧ rest.length = (cap' - n) * e.size := by
  obtain ⟨i, hi, hsz, hz, hby⟩ := hle.base
  have hzs : (ofCells e e.zcells).cells.size = e.size := by rw [← Array.length_toList, ofCells_zero, length_zcells]
  have h63 : n + k ≤ maxLen := by simp only [big, maxLen] at hs ⊢; omega
  have hfit : (n + k) * i.bytes ≤ 140737488355328 := by
    have : (n + k) * i.bytes ≤ 68719476736 * 2048 := Nat.mul_le_mul (by simp only [big] at hs; omega) hby
    omega
  have hkb : k * i.bytes ≤ 281474976710656 := by
    have : k * i.bytes ≤ (n + k) * i.bytes := Nat.mul_le_mul_right _ (by omega)
    omega
  have hge := grownCap_ge w (n + k) cap e'
  refine ⟨grownCap w (n + k) cap e', (Builtin.zeroCells (ofCells e e.zcells).cells k ++ Builtin.zeroCells (ofCells e e.zcells).cells (grownCap w (n + k) cap e' - (n + k))).toList, fun ty => ?_, hge, grownCap_le_maxLen _ _ _ _ h63, ?_⟩
  · have hold : (Builtin.firstCells i.size n (.slice (some b) n cap)).run P w.drew = .ok olds.toArray w.drew := run_firstCells_some w.drew i.size n b n cap olds (by rw [hlo, hsz]) (fun j u hj => ho j u hj)
    have := Lib.run_append_grow_zeros w t tn ty e' i _ .i64 .i64 hu htn hi hz (some b) n cap olds hold k hk (by rw [hsz]; exact hsol) hg (by simp only [big] at hs; omega) hkb (growslice_fits hg hfit)
    rw [this]
    congr 2
    apply congrArg (fun z => Obj.cells z e' (0, 0))
    apply Array.ext'; simp
  · rw [Array.toList_append, List.length_append, Array.length_toList, Array.length_toList, size_zeroCells, size_zeroCells, hzs, ← Nat.add_mul]
    congr 1; omega

/-- Beside the walk's own facts: slices.overlaps. -/
structure OvP (P : Program) (ρ : Ren) (fo : Func) : Prop where
  hf : P.funcs[ρ.f 29]? = some fo
  name : (fo.name == "runtime.NumGoroutine") = false
  body : fo.body.isNone = true
  next : Extern.findNext fo = none
  find : Extern.find fo = some (Extern.SlicesOverlaps.overlaps #[ρ.t 24, ρ.t 24] #[ρ.t 4])

theorem insert_sum {e : Ty} {f : FuncId} {fn fo : Func} (L : InsP P e ρ f fn fo) (O : OvP P ρ fo) (hname : (fn.name == "runtime.NumGoroutine") = false) (hbody : (Body2.n22 ρ).body.isNone = false) (N : Nat) : SumOk P f (insertS e N) := by
  refine ⟨(fun h => by cases h), rfl, fun M0 w vs x y hlim hA hnd hdis hy => ?_⟩
  obtain ⟨l, i, v⟩ := x
  have hy' : insertL N l i v = some y := hy
  clear hy
  simp only [insertS, ArgsR] at hA
  obtain ⟨v0, vs1, rfl, h0, v1, vs2, rfl, h1, v2, vs3, rfl, h2, rfl⟩ := hA
  simp only [insertL] at hy'
  split at hy'
  case isFalse => cases hy'
  rename_i hc
  cases hy'
  obtain ⟨hi0, hil, hv1, hbig⟩ := hc
  obtain ⟨i, rfl⟩ := Int.eq_ofNat_of_zero_le hi0
  have hil' : i ≤ l.length := by omega
  simp only [A1, hpH, hpT, V, Ty.isAgg, Bool.false_eq_true, if_false, Rd, List.cons.injEq, and_true] at h0 h1 h2
  subst h1
  have hk := L.solid
  replace hv1 : List.length (α := e.den) v = 1 := hv1
  rcases own_inv h2 with ⟨hnil, _⟩ | ⟨b2, cs2, t2, cap2, hv2, hg2, hM2, hc2, hl2, hm2, hs2, hr2⟩
  · rw [hnil] at hv1; cases hv1
  replace hv2 : v2 = .slice (some ⟨b2, 0, none⟩) 1 cap2 := by rw [hv2]; congr 1
  subst hv2
  have hcs2 : e.size ≤ cs2.toList.length := by
    rw [Array.length_toList (xs := cs2), hs2]
    exact Nat.le_mul_of_pos_left _ hc2
  obtain ⟨news, hnews⟩ : ∃ news, news = cs2.toList.take e.size := ⟨_, rfl⟩
  have hnl : news.length = 1 * e.size := by rw [hnews, List.length_take, Nat.one_mul]; omega
  have hnr : RdL w (fun b => M0 b ∨ b ∈ hands (insertS e N).args [v0, .int .i64 (i : Int), .slice (some ⟨b2, 0, none⟩) 1 cap2]) e news v := by
    rw [hnews]; exact hr2.take (by rw [hv1, Nat.one_mul]; exact Nat.le_refl _)
  have hnc : ∀ j u, news[j]? = some u → w.cell? ((⟨b2, 0, none⟩ : Addr).add j) = some u := by
    have := cells_of_row hg2 0 e.size
    rw [List.drop_zero] at this
    rw [hnews]; exact this
  have hn1 : ∀ u ∈ news, u.oneCell' = true := by
    have := hnr 0 (by omega)
    rw [Nat.zero_mul, List.drop_zero, List.take_of_length_le (by omega)] at this
    exact this.oneCell
  have hb2 : blk (.slice (some ⟨b2, 0, none⟩) 1 cap2) = some b2 := by simp [blk]; omega
  replace hbig : List.length (α := e.den) l + 1 < big := hbig
  have hyl : (List.take i l ++ (v ++ List.drop i l)).length = l.length + 1 := by rw [List.length_append, List.length_append, List.length_take, List.length_drop, hv1]; omega
  have hbn : (insFn ρ fn).body.isNone = false := hbody
  refine does_of_calls L.hf hname hbn ?_
  rcases own_inv h0 with ⟨rfl, ad, rfl⟩ | ⟨b1, cs1, t1, cap1, rfl, hg1, hM1, hc1, hl1, hm1, hs1, hr1⟩
  · -- nothing was there
    have hi : i = 0 := by simpa using hil'
    subst hi
    obtain ⟨cap', rest, hrun, hc', hm', hrl⟩ := grow_run (P := P) (w := w) L.t24 L.lay (n := 0) (m := 1) (cap := 0) (cp := cap2) (olds := []) (news := news) (base := ad) (a' := ⟨b2, 0, none⟩) (fun _ => ⟨rfl, rfl⟩) (by simp) (fun _ _ j u hj => by simp at hj) hnl hnc (by omega) (by simp only [big]; omega)
    refine (ins_end L w ad 0 0 1 cap2 ⟨b2, 0, none⟩ _ _ (by omega) (Nat.le_refl _) hrun).mono ?_
    rintro e1 w' ⟨rfl, rfl⟩
    refine ⟨_, rfl, ?_⟩
    simp only [Nat.zero_add] at hc' hrl
    have hv : v = v ++ [] := by simp
    have := one_own (e := e) (rb := w.heap.size) (cap := cap') (l := v) (t := ρ.t 9) (w := w) (w' := w.drew.alloc (.cells ([] ++ news ++ rest).toArray (ρ.t 9))) hlim hdis (fun b hb _ => alloc_old w.drew _ hb) (by rw [alloc_size]; exact Nat.le_succ _) (fun h => absurd h (Nat.lt_irrefl _)) rfl rfl rfl (alloc_new w.drew _) (by omega) (by omega) hm'
      (by simp only [List.nil_append, List.size_toArray, List.length_append, hnl, hrl, ← Nat.add_mul]; congr 1; omega) (by simpa using hnr.more (cs' := rest) (by rw [hv1, hnl]; exact Nat.le_refl _))
    rw [hv1] at this
    simpa [insertS, iosOf, AM.isIo] using this
  · have hb1 : blk (.slice (some ⟨b1, 0, none⟩) l.length cap1) = some b1 := by simp [blk]; omega
    have hh : hands (insertS e N).args [.slice (some ⟨b1, 0, none⟩) l.length cap1, .int .i64 (i : Int), .slice (some ⟨b2, 0, none⟩) 1 cap2] = [b1, b2] := by simp [insertS, hands, hand1, hb1, hb2]
    rw [hh] at hnd hdis hnr ⊢
    replace hr1 : RdL w (fun b => M0 b ∨ b ∈ [b1, b2]) e cs1.toList l := by rw [← hh]; exact hr1
    have hne : b1 ≠ b2 := by simpa using hnd
    have hlt1 : b1 < w.heap.size := (Array.getElem?_eq_some_iff.1 hg1).1
    have hlt2 : b2 < w.heap.size := (Array.getElem?_eq_some_iff.1 hg2).1
    have hlk : l.length * e.size ≤ cs1.toList.length := by rw [Array.length_toList (xs := cs1), hs1]; exact Nat.mul_le_mul_right _ hl1
    have hik : i * e.size ≤ l.length * e.size := Nat.mul_le_mul_right _ hil'
    obtain ⟨A, hAe⟩ : ∃ A, A = cs1.toList.take (i * e.size) := ⟨_, rfl⟩
    obtain ⟨mid, hmid⟩ : ∃ mid, mid = (cs1.toList.drop (i * e.size)).take ((l.length - i) * e.size) := ⟨_, rfl⟩
    have hAl : A.length = i * e.size := by rw [hAe, List.length_take]; omega
    have hml : mid.length = (l.length - i) * e.size := by
      rw [hmid, List.length_take, List.length_drop, Nat.sub_mul]; omega
    have hAr := hr1.takeL i
    have hmr := hr1.dropL i
    rw [← hAe] at hAr
    rw [← hmid] at hmr
    have hti : (l.take i).length = i := by rw [List.length_take]; omega
    have hfull : ∀ rest : List Value, RdL w (fun b => M0 b ∨ b ∈ [b1, b2]) e (A ++ (news ++ (mid ++ rest))) (l.take i ++ (v ++ l.drop i)) := fun rest =>
      hAr.append (by rw [hAl, hti]) (hnr.append (by rw [hnl, hv1]) (hmr.more (by rw [List.length_drop, hml]; exact Nat.le_refl _)))
    have hAc : ∀ j u, A[j]? = some u → w.cell? ((⟨b1, 0, none⟩ : Addr).add j) = some u := by
      have := cells_of_row hg1 0 (i * e.size)
      rw [List.drop_zero] at this
      rw [hAe]; exact this
    have hmc : ∀ j u, mid[j]? = some u → w.cell? ((⟨b1, i * e.size, none⟩ : Addr).add j) = some u := by
      rw [hmid]; exact cells_of_row hg1 (i * e.size) _
    have hm1' : ∀ u ∈ mid, u.oneCell' = true := by
      intro u hu
      obtain ⟨j, hj, rfl⟩ := List.mem_iff_getElem.1 hu
      rw [hml] at hj
      have hq : j / e.size < l.length - i := Nat.div_lt_of_lt_mul (by rw [Nat.mul_comm]; exact hj)
      have := (hmr (j / e.size) (by rw [List.length_drop]; exact hq)).oneCell
      refine this _ ?_
      have hjm : j / e.size * e.size + j % e.size = j := by rw [Nat.mul_comm]; exact Nat.div_add_mod j e.size
      have hjl : j % e.size < e.size := Nat.mod_lt _ hk
      rw [List.mem_iff_getElem?]
      refine ⟨j % e.size, ?_⟩
      rw [List.getElem?_take, if_pos hjl, List.getElem?_drop, hjm]
      exact List.getElem?_eq_getElem _
    by_cases hin : i = l.length
    · -- at the end
      subst hin
      have hm0 : mid = [] := List.eq_nil_of_length_eq_zero (by rw [hml]; simp)
      by_cases hroom : l.length + 1 ≤ cap1
      · obtain ⟨ie, hie, hsz, _⟩ := L.lay.base
        have hrun : ∀ ty, (Builtin.append_ #[ρ.t 24, ρ.t 24] ty #[.slice (some ⟨b1, 0, none⟩) l.length cap1, .slice (some ⟨b2, 0, none⟩) 1 cap2]).run P w = _ := fun ty =>
          app_room (ty := ty) (cp := cap2) L.t24 hie hg1 (by rw [hsz]; exact hs1) (by rw [hsz]; exact hnl) hnc hn1 hroom
        refine (ins_end L w _ _ _ 1 cap2 ⟨b2, 0, none⟩ _ _ (by omega) hl1 hrun).mono ?_
        rintro e1 w' ⟨rfl, rfl⟩
        refine ⟨_, rfl, ?_⟩
        rw [hsz]
        have hrow : spl cs1.toList (l.length * e.size) news = A ++ (news ++ (mid ++ cs1.toList.drop (l.length * e.size + news.length))) := by
          rw [hm0, hAe]; simp [spl]
        have := one_own (e := e) (rb := b1) (cap := cap1) (l := l.take l.length ++ (v ++ l.drop l.length)) (t := t1) (w := w) (w' := w.setRow b1 (spl cs1.toList (l.length * e.size) news).toArray) hlim hdis (fun b hb hn => setRow_other w _ (fun e => hn (by simp [e]))) (by rw [setRow_size]; exact Nat.le_refl _) (fun _ => by simp) rfl rfl rfl (setRow_heap w b1 cs1 _ t1 _ hg1) hc1 (by rw [hyl]; exact hroom) hm1
          (by
            have := mul_lt_of (s := e.size) (show l.length < cap1 by omega)
            rw [hrow, List.size_toArray]
            simp only [List.length_append, hm0, List.length_nil, List.length_drop, Array.length_toList, hAl, hnl, hs1]
            omega)
          (by rw [hrow]; exact hfull _)
        rw [hyl] at this
        simpa [insertS, iosOf, AM.isIo] using this
      · obtain ⟨cap', rest, hrun, hc', hm', hrl⟩ := grow_run (P := P) (w := w) L.t24 L.lay (n := l.length) (m := 1) (cap := cap1) (cp := cap2) (olds := A) (news := news) (base := some ⟨b1, 0, none⟩) (a' := ⟨b2, 0, none⟩) (fun h => by cases h) hAl (fun b hb => by cases hb; exact hAc) hnl hnc (by omega) hbig
        refine (ins_end L w _ _ _ 1 cap2 ⟨b2, 0, none⟩ _ _ (by omega) hl1 hrun).mono ?_
        rintro e1 w' ⟨rfl, rfl⟩
        refine ⟨_, rfl, ?_⟩
        have := one_own (e := e) (rb := w.heap.size) (cap := cap') (l := l.take l.length ++ (v ++ l.drop l.length)) (t := ρ.t 9) (w := w) (w' := w.drew.alloc (.cells (A ++ news ++ rest).toArray (ρ.t 9))) hlim hdis (fun b hb _ => alloc_old w.drew _ hb) (by rw [alloc_size]; exact Nat.le_succ _) (fun h => absurd h (Nat.lt_irrefl _)) rfl rfl rfl (alloc_new w.drew _) (by omega) (by rw [hyl]; exact hc') hm'
          (by simp only [List.size_toArray, List.length_append, hAl, hnl, hrl, ← Nat.add_mul]; congr 1; omega) (by have := hfull rest; rw [hm0, List.nil_append, ← List.append_assoc] at this; exact this)
        rw [hyl] at this
        simpa [insertS, iosOf, AM.isIo] using this
    · have hilt : i < l.length := by omega
      have hi1 : i * e.size + e.size ≤ l.length * e.size := mul_lt_of hilt
      have e1k : (i + 1) * e.size = A.length + news.length := by rw [hAl, hnl, Nat.add_mul]
      have hmn : Nat.min 1 (l.length + 1 - i) = 1 := Nat.min_eq_left (by omega)
      by_cases hroom : l.length + 1 ≤ cap1
      · -- there is room
        have hc1k : l.length * e.size + e.size ≤ cs1.toList.length := by rw [Array.length_toList (xs := cs1), hs1]; exact mul_lt_of (by omega)
        have hsh : ∀ (b : Nat) (c : Array Value) (t : TypeId), w.heap[b]? = some (.cells c t (0, 0)) → w.shape? b = some (t, c.size) := fun b c t h => by simp [World.shape?, h]
        obtain ⟨B, hB⟩ : ∃ B, B = cs1.toList.drop (i * e.size) := ⟨_, rfl⟩
        have hcsAB : cs1.toList = A ++ B := by rw [hAe, hB, List.take_append_drop]
        have hBl : B.length = cs1.toList.length - i * e.size := by rw [hB, List.length_drop]
        have hBk : (B.take e.size).length = e.size := by rw [List.length_take]; omega
        have hrow1 : spl cs1.toList ((i + 1) * e.size) mid = A ++ (B.take e.size ++ (mid ++ (B.drop e.size).drop mid.length)) := by
          have : cs1.toList = (A ++ B.take e.size) ++ B.drop e.size := by rw [List.append_assoc, List.take_append_drop]; exact hcsAB
          rw [this, show (i + 1) * e.size = (A ++ B.take e.size).length from by rw [List.length_append, hBk, hAl, Nat.add_mul, Nat.one_mul], spl_mid, List.append_assoc]
        have hrow2 : spl (spl cs1.toList ((i + 1) * e.size) mid) (i * e.size) news = A ++ (news ++ (mid ++ (B.drop e.size).drop mid.length)) := by
          rw [hrow1, ← hAl, spl_mid, hnl, Nat.one_mul, List.drop_left' hBk]
        refine (ins_shift L w b1 l.length cap1 i 1 cap2 ⟨b2, 0, none⟩ (spl cs1.toList ((i + 1) * e.size) mid).toArray (spl (spl cs1.toList ((i + 1) * e.size) mid) (i * e.size) news).toArray hilt (by omega) hroom (by simp only [maxLen] at hm1; omega) (fun x lb cb => ?_) (fun ty dc sc => ?_) (fun W hW ty dc => ?_)).mono ?_
        · rw [run_callFunc_extern O.hf O.name O.body O.next O.find,
            Lib.run_overlaps_apart w (ρ.t 24) (ρ.t 4) (ρ.t 9) L.t24 e.size (fun w => run_sizeOf' L.lay w) ⟨b2, 0, none⟩ ⟨b1, x, none⟩ 1 cap2 lb cb (Ne.symm hne) t2 t1 cs2.size cs1.size (hsh b2 cs2 t2 hg2) (hsh b1 cs1 t1 hg1) (by rw [hs1]; exact Nat.ne_of_gt (Nat.mul_pos hc1 hk)) (by simp [World.frozen?, hg2]) (by simp [World.frozen?, hg2])]
          rfl
        · exact run_copy_row (P := P) (W := w.drew) L.t24 (fun w => run_sizeOf' L.lay w) (cs := cs1) hg1 (news := mid) (n := l.length - i) (by simp only [Nat.min_def]; split <;> omega) hml hmc hm1' (by rw [hml, Nat.add_mul, Nat.one_mul]; rw [Array.length_toList (xs := cs1)] at hc1k; rw [Nat.sub_mul]; omega) ty
        · exact run_copy_row (P := P) (W := W) L.t24 (fun w => run_sizeOf' L.lay w) (cs := (spl cs1.toList ((i + 1) * e.size) mid).toArray) (te := t1) (by rw [hW]; exact setRow_heap w b1 cs1 _ t1 _ hg1) (news := news) (n := 1) hmn hnl
            (fun j u hj => by
              have := hnc j u hj
              rw [Addr.add_lit] at this ⊢
              rw [show W.cell? ⟨b2, 0 + j, none⟩ = w.cell? ⟨b2, 0 + j, none⟩ from World.cell?_of_block (by rw [hW]; exact setRow_other w _ (Ne.symm hne))]
              exact this) hn1 (by
              rw [List.size_toArray, hrow1]
              simp only [List.length_append, hBk, hAl, hnl]
              omega) ty
        · rintro e1 w' ⟨rfl, rfl⟩
          refine ⟨_, rfl, ?_⟩
          have := one_own (e := e) (rb := b1) (cap := cap1) (l := l.take i ++ (v ++ l.drop i)) (t := t1) (w := w) (w' := (w.drew.setRow b1 (spl cs1.toList ((i + 1) * e.size) mid).toArray).setRow b1 (spl (spl cs1.toList ((i + 1) * e.size) mid) (i * e.size) news).toArray) hlim hdis
            (fun b hb hn => (setRow_other _ _ (fun e => hn (by simp [e]))).trans (setRow_other _ _ (fun e => hn (by simp [e])))) (by rw [setRow_size, setRow_size]; exact Nat.le_refl _) (fun _ => by simp) rfl rfl rfl (setRow_heap _ b1 _ _ t1 _ (setRow_heap w.drew b1 cs1 _ t1 _ hg1)) hc1 (by rw [hyl]; exact hroom) hm1
            (by
              rw [hrow2, List.size_toArray]
              rw [Array.length_toList (xs := cs1)] at hc1k hBl
              simp only [List.length_append, List.length_drop, hAl, hnl, hml, hBl, Nat.sub_mul]
              omega)
            (by rw [hrow2]; exact hfull _)
          rw [hyl] at this
          simpa [insertS, iosOf, AM.isIo] using this
      · -- there is none
        obtain ⟨cap', Z, hrun, hc', hm', hZl⟩ := zeros_run (P := P) (w := w) L.t24 L.t3 L.lay hk (n := i) (k := l.length + 1 - i) (cap := cap1) (olds := A) (b := ⟨b1, 0, none⟩) hAl hAc (by omega) (by omega) (by omega)
        have hin1 : i + (l.length + 1 - i) = l.length + 1 := by omega
        rw [hin1] at hrun hc'
        have hZk : (l.length + 1 - i) * e.size ≤ Z.length := by rw [hZl]; exact Nat.mul_le_mul_right _ (by omega)
        rw [Nat.sub_mul, Nat.add_mul, Nat.one_mul] at hZk
        have hrow1 : spl (A ++ Z) (i * e.size) news = A ++ (news ++ Z.drop news.length) := by rw [← hAl, spl_mid]
        have hrow2 : spl (spl (A ++ Z) (i * e.size) news) ((i + 1) * e.size) mid = A ++ (news ++ (mid ++ (Z.drop news.length).drop mid.length)) := by
          rw [hrow1, ← List.append_assoc, e1k, ← List.length_append, spl_mid, List.append_assoc]
        have hnb : w.heap.size ≠ b1 := by omega
        have hnb2 : b2 ≠ w.heap.size := by omega
        refine (ins_grow L w b1 l.length cap1 i 1 cap2 0 cap' ⟨b2, 0, none⟩ (A ++ Z).toArray (spl (A ++ Z) (i * e.size) news).toArray (spl (spl (A ++ Z) (i * e.size) news) ((i + 1) * e.size) mid).toArray hilt (by omega) hl1 (by omega) (by simp only [maxLen] at hm1; omega) (by simp only [big] at hbig; omega) hc' (by simp only [maxLen] at hm'; omega) (fun ty => ?_) (fun W hW ty dc => ?_) (fun W hW ty dc sc => ?_)).mono ?_
        · have := hrun ty
          rw [show (((l.length + 1 - i : Nat) : Int)) = (l.length : Int) + (1 : Nat) - (i : Int) from by omega] at this
          exact this
        · exact run_copy_row (P := P) (W := W) L.t24 (fun w => run_sizeOf' L.lay w) (cs := (A ++ Z).toArray) (te := ρ.t 9) (by rw [hW]; exact alloc_new w _) (news := news) (n := 1) hmn hnl
            (fun j u hj => by
              have := hnc j u hj
              rw [Addr.add_lit] at this ⊢
              rw [show W.cell? ⟨b2, 0 + j, none⟩ = w.cell? ⟨b2, 0 + j, none⟩ from World.cell?_of_block (by rw [hW]; exact alloc_old w _ hlt2)]
              exact this) hn1 (by rw [List.size_toArray, List.length_append, hAl, hnl]; omega) ty
        · exact run_copy_row (P := P) (W := W) L.t24 (fun w => run_sizeOf' L.lay w) (cs := (spl (A ++ Z) (i * e.size) news).toArray) (te := ρ.t 9) (by rw [hW]; exact setRow_heap _ _ _ _ _ _ (alloc_new w _)) (news := mid) (n := l.length - i) (by simp only [Nat.min_def]; split <;> omega) hml
            (fun j u hj => by
              have := hmc j u hj
              rw [Addr.add_lit] at this ⊢
              rw [show W.cell? ⟨b1, i * e.size + j, none⟩ = w.cell? ⟨b1, i * e.size + j, none⟩ from World.cell?_of_block (by rw [hW]; exact (setRow_other _ _ (Ne.symm hnb)).trans (alloc_old w _ hlt1))]
              exact this) hm1' (by
              rw [List.size_toArray, hrow1]
              simp only [List.length_append, List.length_drop, hAl, hnl, hml, Nat.add_mul, Nat.sub_mul]
              omega) ty
        · rintro e1 w' ⟨rfl, rfl⟩
          refine ⟨_, rfl, ?_⟩
          have hg' : ((w.drew.alloc (.cells (A ++ Z).toArray (ρ.t 9))).setRow w.heap.size (spl (A ++ Z) (i * e.size) news).toArray).drew.heap[w.heap.size]? = some (.cells (spl (A ++ Z) (i * e.size) news).toArray (ρ.t 9) (0, 0)) := setRow_heap _ _ _ _ _ _ (alloc_new w.drew _)
          have := one_own (e := e) (rb := w.heap.size) (cap := cap') (l := l.take i ++ (v ++ l.drop i)) (t := ρ.t 9) (w := w) (w' := ((w.drew.alloc (.cells (A ++ Z).toArray (ρ.t 9))).setRow w.heap.size (spl (A ++ Z) (i * e.size) news).toArray).drew.setRow w.heap.size (spl (spl (A ++ Z) (i * e.size) news) ((i + 1) * e.size) mid).toArray) hlim hdis
            (fun b hb hn => (setRow_other _ _ (by omega)).trans ((setRow_other _ _ (by omega)).trans (alloc_old w.drew _ hb))) (by rw [setRow_size]; show _ ≤ (World.setRow _ _ _).heap.size; rw [setRow_size, alloc_size]; exact Nat.le_succ _) (fun h => absurd h (Nat.lt_irrefl _)) rfl rfl rfl (setRow_heap _ _ _ _ _ _ hg') (by omega) (by rw [hyl]; exact hc') hm'
            (by
              rw [hrow2, List.size_toArray]
              have hmul : (cap' - i) * e.size = cap' * e.size - i * e.size := Nat.sub_mul _ _ _
              have hci : i * e.size ≤ cap' * e.size := Nat.mul_le_mul_right _ (by omega)
              simp only [List.length_append, List.length_drop, hAl, hnl, hml, hZl, hmul, Nat.sub_mul] at hZk ⊢
              omega)
            (by rw [hrow2]; exact hfull _)
          rw [hyl] at this
          simpa [insertS, iosOf, AM.isIo] using this

end VM
end

section
/- The value machine: slices.Clone, of any type. -/
set_option linter.unusedVariables false
set_option linter.unusedSimpArgs false
namespace VM
open Go Go.Shelf Go.RowKit Go.Lib Go.Proofs
variable {P : Program} {ρ : Ren}

/-- The library's own text, under a program's numbers. -/
noncomputable def cloFn (ρ : Ren) (fn : Func) : Func := { fn with body := (Body2.n15 ρ).body, ntmps := 8, results := (Body2.n15 ρ).results, nfree := 0 }
theorem cloFn_ntmps (ρ : Ren) (fn : Func) : (cloFn ρ fn).ntmps = 8 := rfl

structure CloP (P : Program) (e : Ty) (ρ : Ren) (f : FuncId) (fn : Func) : Prop where
  hf : P.funcs[f]? = some (cloFn ρ fn)
  t4 : P.underlying (ρ.t 4) = some .bool
  t22 : P.underlying (ρ.t 22) = some (.slice (ρ.t 3))
  lay : Lay P e (ρ.t 3)
  solid : 0 < e.size
  mixed : P.follows .mixedOrders = true

set_option maxHeartbeats 4000000 in
set_option maxRecDepth 100000 in
theorem clone_nil {e : Ty} {f : FuncId} {fn : Func} (L : CloP P e ρ f fn) (w : World) (n c : Nat) :
    Calls P f #[.slice none n c] w fun r w2 => r = .returned (.slice none 0 0) ∧ w2 = w := by
  have u22 := run_underlying L.t22
  have t4 := L.t4; have t22 := L.t22
  have z3 := fun w => run_sizeOf' L.lay w
  have mixed := L.mixed
  have q22 : ∀ (w : World) (a : Option Addr) (n c n' c' : Nat), (binOp .eql (ρ.t 22) (.slice a n c) (.slice none n' c')).run P w = .ok (.bool a.isNone) w := fun w a n c n' c' => Lib.run_eql_slice_nil w _ _ a n c n' c' L.t22
  go_enter L.hf, cloFn_ntmps ρ fn
  go_wp2
  go_ret
  exact ⟨rfl, rfl⟩

set_option maxHeartbeats 4000000 in
set_option maxRecDepth 100000 in
theorem clone_some {e : Ty} {f : FuncId} {fn : Func} (L : CloP P e ρ f fn) (w : World) (a : Addr) (n c : Nat) (v' : Value) (w' : World)
   (happ : ∀ ty, (Builtin.append_ #[ρ.t 22, ρ.t 22] ty #[.slice (some ⟨w.heap.size, 0, none⟩) 0 0, .slice (some a) n c]).run P (w.alloc (.cells #[] (ρ.t 3))) = .ok v' w') :
    Calls P f #[.slice (some a) n c] w fun r w2 => r = .returned v' ∧ w2 = w' := by
  have u22 := run_underlying L.t22
  have t4 := L.t4; have t22 := L.t22
  have z3 := fun w => run_sizeOf' L.lay w
  have mixed := L.mixed
  have q22 : ∀ (w : World) (a : Option Addr) (n c n' c' : Nat), (binOp .eql (ρ.t 22) (.slice a n c) (.slice none n' c')).run P w = .ok (.bool a.isNone) w := fun w a n c n' c' => Lib.run_eql_slice_nil w _ _ a n c n' c' L.t22
  obtain ⟨ab, ao, asp⟩ := a
  go_enter L.hf, cloFn_ntmps ρ fn
  go_wp2_with (at_builtin; refine Lib.wpList_append_run _ rfl _ _ _ _ rfl _ _ rfl rfl _ _ (happ _) ?_)
  all_goals (go_ret; exact ⟨rfl, rfl⟩)

/-- Nothing is handed back. -/
theorem no_own {w w' : World} {M0 : Nat → Prop} {e : Ty} (a : Option Addr) (hlim : ∀ b, M0 b → b < w.heap.size) (hfr : ∀ b, b < w.heap.size → w'.heap[b]? = w.heap[b]?) (hsz : w.heap.size ≤ w'.heap.size)
    (hos : w'.os = w.os) (htp : w'.tape = w.tape) (hout : w'.output = w.output) :
    ∃ us M', Value.slice a 0 0 = packV us ∧ RR w' M' [.own e] ([] : List e.den) us [] ∧ Left w M0 [] w' M' ∧ (blocksR [.own e] us []).Nodup ∧ ∀ b ∈ blocksR [.own e] us [], ¬ M0 b := by
  have hbl : blocksR [.own e] [Value.slice a 0 0] [] = [] := by
    cases a <;> simp [blocksR, hand1, AM.isIo, blk]
  refine ⟨[.slice a 0 0], M0, rfl, ?_, ?_, ?_, ?_⟩
  · simp only [RR]
    refine .inr ⟨_, [], rfl, rfl, rfl, ?_, rfl, trivial⟩
    simp only [A1, ER, hpH]
    exact .inl ⟨trivial, a, rfl⟩
  · exact ⟨fun b h => h, fun b h => Nat.lt_of_lt_of_le (hlim b h) hsz, fun b hb h => .inl h, fun b hb _ => hfr b hb, hsz, hos, htp, hout⟩
  · rw [hbl]; simp
  · rw [hbl]; simp

theorem clone_sum {e : Ty} {f : FuncId} {fn : Func} (L : CloP P e ρ f fn) (hname : (fn.name == "runtime.NumGoroutine") = false) (hbody : (Body2.n15 ρ).body.isNone = false) (N : Nat) : SumOk P f (cloneS e N) := by
  refine ⟨(fun h => by cases h), rfl, fun M0 w vs x y hlim hA hnd hdis hy => ?_⟩
  have hy' : cloneL N x = some y := hy
  clear hy
  obtain ⟨v0, vs1, rfl, h0, h2⟩ := hA
  have h2 : vs1 = [] := h2
  subst h2
  replace h0 : V w (fun b => M0 b ∨ b ∈ ([] : List Nat)) (.slice e) v0 x := h0
  unfold cloneL at hy'
  split at hy'
  case isFalse => cases hy'
  rename_i hbig
  cases hy'
  have hbn : (cloFn ρ fn).body.isNone = false := hbody
  have hh : hands (cloneS e N).args [v0] = [] := rfl
  rw [hh] at hdis ⊢
  refine does_of_calls L.hf hname hbn ?_
  obtain ⟨i, hi, hsz, hz, hby⟩ := L.lay.base
  have hS := Src.of_V h0
  by_cases hx : x = []
  · obtain ⟨a, cp, hv, _⟩ := hS
    subst hv
    rw [hx]
    cases a with
    | none =>
      refine (clone_nil L w _ cp).mono ?_
      rintro e1 w' ⟨rfl, rfl⟩
      exact ⟨_, rfl, no_own none hlim (fun _ _ => rfl) (Nat.le_refl _) rfl rfl rfl⟩
    | some a =>
      refine (clone_some L w a _ cp _ _ (fun ty => app_nothing (P := P) (w := w.alloc (.cells #[] (ρ.t 3))) L.t22 hi (some ⟨w.heap.size, 0, none⟩) 0 0 (Nat.le_refl _) (some a) cp)).mono ?_
      rintro e1 w' ⟨rfl, rfl⟩
      exact ⟨_, rfl, no_own _ hlim (fun b hb => alloc_old w _ hb) (by rw [alloc_size]; exact Nat.le_succ _) rfl rfl rfl⟩
  · obtain ⟨b, off, cp, news, hv, hl, hat, hrd, h1⟩ := hS.cells hx
    have hpos : 0 < x.length := List.length_pos_iff.2 hx
    subst hv
    obtain ⟨cap', rest, hrun, hc', hm', hrl⟩ := grow_run (P := P) (w := w.alloc (.cells #[] (ρ.t 3))) L.t22 L.lay (n := 0) (m := x.length) (cap := 0) (cp := cp) (olds := []) (news := news) (base := some ⟨w.heap.size, 0, none⟩) (a' := ⟨b, off, none⟩) (fun h => by cases h) (by simp) (fun _ _ j u hj => by simp at hj) hl
      (fun j u hj => by rw [Addr.add_lit]; exact Lib.cell?_alloc_some _ (hat j u hj)) (by omega) (by omega)
    refine (clone_some L w ⟨b, off, none⟩ _ cp _ _ hrun).mono ?_
    rintro e1 w' ⟨rfl, rfl⟩
    refine ⟨_, rfl, ?_⟩
    simp only [Nat.zero_add] at hc' hrl ⊢
    have hs1 : (w.alloc (.cells #[] (ρ.t 3))).heap.size = w.heap.size + 1 := alloc_size w _
    exact one_own (e := e) (rb := (w.alloc (.cells #[] (ρ.t 3))).heap.size) (cap := cap') (l := x) (t := ρ.t 3) (w := w) (w' := (w.alloc (.cells #[] (ρ.t 3))).drew.alloc (.cells ([] ++ news ++ rest).toArray (ρ.t 3))) hlim hdis
      (fun b hb _ => (alloc_old (w.alloc (.cells #[] (ρ.t 3))).drew _ (by show b < (w.alloc (.cells #[] (ρ.t 3))).heap.size; omega)).trans (alloc_old w _ hb))
      (by rw [alloc_size]; show w.heap.size ≤ (w.alloc (.cells #[] (ρ.t 3))).heap.size + 1; omega) (fun h => by omega) rfl rfl rfl (alloc_new (w.alloc (.cells #[] (ρ.t 3))).drew _) (by omega) hc' hm'
      (by simp only [List.nil_append, List.size_toArray, List.length_append, hl, hrl, ← Nat.add_mul]; congr 1; omega) (by simpa using RdL.more (cs' := rest) (show RdL w (fun b => M0 b ∨ b ∈ ([] : List Nat)) e news x from hrd) (by rw [hl]; exact Nat.le_refl _))
end VM
end

