/- A part of the proof of the six laws of layer 3: what the functions compute, in plain words. -/
import Derived.Test.YtmapbngbgfdpfaaPlain1
import Derived.Test.YtmapbngbgfdpfaaVm5
set_option linter.all false
section
/- Plain laws: shares up to caps. -/
set_option linter.unusedSimpArgs false
set_option linter.unusedVariables false
namespace VM
open Go VM.F

def tabL (n : Nat) (f : Nat → Int) : List Int := (List.range n).map f
theorem tab_len (n : Nat) (f : Nat → Int) : (tabL n f).length = n := by unfold tabL; rw [List.length_map, List.length_range]
theorem tab_at {n : Nat} {f : Nat → Int} {i : Nat} (h : i < n) : (tabL n f).getD i 0 = f i := by
  unfold tabL
  rw [List.getD_eq_getElem?_getD, List.getElem?_map, List.getElem?_range h]; rfl
theorem tab_at' (n : Nat) (f : Nat → Int) (i : Nat) : (tabL n f).getD i 0 = if i < n then f i else 0 := by
  by_cases h : i < n
  · rw [if_pos h, tab_at h]
  · rw [if_neg h, getD_ge _ (by rw [tab_len]; omega)]
theorem pos_tab {n : Nat} {f : Nat → Int} (h : ∀ i, i < n → 0 ≤ f i) : Pos (tabL n f) := fun x hx => by
  obtain ⟨i, hi, rfl⟩ := List.mem_map.1 hx
  exact h i (List.mem_range.1 hi)
theorem pos_of_getD {l : List Int} (h : ∀ i, i < l.length → 0 ≤ l.getD i 0) : Pos l := fun x hx => by
  obtain ⟨i, hi, rfl⟩ := List.mem_iff_getElem.1 hx
  have := h i hi
  rwa [List.getD_eq_getElem?_getD, List.getElem?_eq_getElem hi] at this
theorem sum_le_of : ∀ {a b : List Int}, a.length = b.length → (∀ i, i < a.length → a.getD i 0 ≤ b.getD i 0) → a.sum ≤ b.sum
  | [], [], _, _ => Int.le_refl _
  | [], _ :: _, h, _ => nomatch h
  | _ :: _, [], h, _ => nomatch h
  | x :: a, y :: b, h, h1 => by
    have := sum_le_of (a := a) (b := b) (by simpa using h) (fun i hi => by have := h1 (i + 1) (by simpa using hi); simpa using this)
    have h2 : x ≤ y := by have := h1 0 (by simp); simpa using this
    rw [List.sum_cons, List.sum_cons]; omega
theorem sum_add_of : ∀ {a b c : List Int}, a.length = b.length → a.length = c.length → (∀ i, i < a.length → a.getD i 0 = b.getD i 0 + c.getD i 0) → a.sum = b.sum + c.sum
  | [], [], [], _, _, _ => rfl
  | [], _ :: _, _, h, _, _ => nomatch h
  | [], [], _ :: _, _, h, _ => nomatch h
  | _ :: _, [], _, h, _, _ => nomatch h
  | _ :: _, _ :: _, [], _, h, _ => nomatch h
  | x :: a, y :: b, z :: c, h, h', h1 => by
    have := sum_add_of (a := a) (b := b) (c := c) (by simpa using h) (by simpa using h') (fun i hi => by have := h1 (i + 1) (by simpa using hi); simpa using this)
    have h2 : x = y + z := by have := h1 0 (by simp); simpa using this
    rw [List.sum_cons, List.sum_cons, List.sum_cons]; omega
theorem sum_zero_of : ∀ {a : List Int}, (∀ i, i < a.length → a.getD i 0 = 0) → a.sum = 0
  | [], _ => rfl
  | x :: a, h => by
    have := sum_zero_of (a := a) (fun i hi => by have := h (i + 1) (by simpa using hi); simpa using this)
    have h2 : x = 0 := by have := h 0 (by simp); simpa using this
    rw [List.sum_cons]; omega

/-- The weights of those below their caps. -/
def someL (w caps out : List Int) : List Int := tabL w.length fun i => if out.getD i 0 < caps.getD i 0 then w.getD i 0 else 0
def gainL (parts caps out : List Int) : List Int := tabL out.length fun i => min (parts.getD i 0) (caps.getD i 0 - out.getD i 0)
def addL (out g : List Int) : List Int := tabL out.length fun i => out.getD i 0 + g.getD i 0
def capRun (w caps : List Int) : Nat → List Int → Int → List Int × Int
  | 0, out, left => (out, left)
  | f + 1, out, left => if left = 0 ∨ (someL w caps out).sum = 0 then (out, left) else
    capRun w caps f (addL out (gainL (sharesL left (someL w caps out)) caps out)) (left - (gainL (sharesL left (someL w caps out)) caps out).sum)

/-- What holds between two rounds. -/
structure Cap (t : Int) (w caps out : List Int) (left : Int) : Prop where
  n : w.length ≤ 64
  l1 : caps.length = w.length
  l2 : out.length = w.length
  pw : Pos w
  sw : w.sum < 9223372036854775808
  pc : ∀ i, 0 ≤ caps.getD i 0 ∧ caps.getD i 0 < 9223372036854775808
  po : ∀ i, 0 ≤ out.getD i 0
  le : ∀ i, i < w.length → out.getD i 0 ≤ caps.getD i 0
  z : ∀ i, w.getD i 0 = 0 → out.getD i 0 = 0
  l : 0 ≤ left
  t1 : t < 9223372036854775808
  s : out.sum + left = t

theorem some_len (w caps out : List Int) : (someL w caps out).length = w.length := tab_len ..
theorem some_pos {w caps out : List Int} (h : Pos w) : Pos (someL w caps out) := pos_tab (fun i _ => by split; exact pos_getD h i; omega)
theorem some_sum {w caps out : List Int} (h : Pos w) : (someL w caps out).sum ≤ w.sum := sum_le_of (some_len ..) (fun i hi => by
  rw [some_len] at hi
  unfold someL; rw [tab_at hi]; split
  · omega
  · exact pos_getD h i)
theorem some_i64 {t left : Int} {w caps out : List Int} (c : Cap t w caps out left) : I64 (someL w caps out) := fun x hx => by
  have h1 := some_pos (caps := caps) (out := out) c.pw
  have h2 := some_sum (caps := caps) (out := out) c.pw
  have h3 := h1 x hx
  obtain ⟨i, hi, rfl⟩ := List.mem_iff_getElem.1 hx
  have h4 := le_sum h1 i
  rw [List.getD_eq_getElem?_getD, List.getElem?_eq_getElem hi] at h4
  simp only [Option.getD_some] at h4
  have := c.sw
  omega

theorem cap_left {t left : Int} {w caps out : List Int} (c : Cap t w caps out left) : left ≤ t := by
  have := pos_sum (q := out) (pos_of_getD (fun i _ => c.po i)); have := c.s; omega

theorem gain_at {t left : Int} {w caps out : List Int} (c : Cap t w caps out left) (hS : 0 < (someL w caps out).sum) (i : Nat) :
    0 ≤ (gainL (sharesL left (someL w caps out)) caps out).getD i 0 ∧ (gainL (sharesL left (someL w caps out)) caps out).getD i 0 ≤ (sharesL left (someL w caps out)).getD i 0 ∧ (i < w.length → out.getD i 0 + (gainL (sharesL left (someL w caps out)) caps out).getD i 0 ≤ caps.getD i 0) := by
  have h0 := pos_getD (shares_pos c.l hS (some_pos c.pw)) i
  unfold gainL
  rw [tab_at']
  have := c.l2
  by_cases h : i < out.length
  · rw [if_pos h]
    have := c.le i (by omega)
    omega
  · rw [if_neg h]; exact ⟨by omega, h0, fun h => by omega⟩
theorem gain_len (parts caps out : List Int) : (gainL parts caps out).length = out.length := tab_len ..
theorem gain_sum {t left : Int} {w caps out : List Int} (c : Cap t w caps out left) (hS : 0 < (someL w caps out).sum) : 0 ≤ (gainL (sharesL left (someL w caps out)) caps out).sum ∧ (gainL (sharesL left (someL w caps out)) caps out).sum ≤ left := by
  constructor
  · exact pos_sum (pos_of_getD (fun i _ => (gain_at c hS i).1))
  · have := sum_le_of (a := gainL (sharesL left (someL w caps out)) caps out) (b := sharesL left (someL w caps out)) (by rw [gain_len, shares_len, some_len, c.l2]) (fun i _ => (gain_at c hS i).2.1)
    rwa [shares_sum c.l hS] at this

theorem cap_step {t left : Int} {w caps out : List Int} (c : Cap t w caps out left) (hS : 0 < (someL w caps out).sum) : Cap t w caps (addL out (gainL (sharesL left (someL w caps out)) caps out)) (left - (gainL (sharesL left (someL w caps out)) caps out).sum) := by
  have hat : ∀ i, (addL out (gainL (sharesL left (someL w caps out)) caps out)).getD i 0 = if i < out.length then out.getD i 0 + (gainL (sharesL left (someL w caps out)) caps out).getD i 0 else 0 := fun i => by unfold addL; rw [tab_at']
  have gs := gain_sum c hS
  refine ⟨c.n, c.l1, ?_, c.pw, c.sw, c.pc, fun i => ?_, fun i hi => ?_, fun i hi => ?_, by omega, c.t1, ?_⟩
  · unfold addL; rw [tab_len, c.l2]
  · rw [hat]; have := (gain_at c hS i).1; have := c.po i; split <;> omega
  · rw [hat, if_pos (by rw [c.l2]; exact hi)]; exact (gain_at c hS i).2.2 hi
  · rw [hat]
    split
    · have h1 : (someL w caps out).getD i 0 = 0 := by unfold someL; rw [tab_at', hi]; split <;> (try split) <;> rfl
      have h2 := shares_zero c.l hS h1
      have h3 := gain_at c hS i
      rw [c.z i hi]; omega
    · rfl
  · have := sum_add_of (a := addL out (gainL (sharesL left (someL w caps out)) caps out)) (b := out) (c := gainL (sharesL left (someL w caps out)) caps out) (by unfold addL; rw [tab_len]) (by unfold addL; rw [tab_len, gain_len]) (fun i hi => by
      unfold addL at hi; rw [tab_len] at hi; rw [hat, if_pos hi])
    have := c.s
    omega

/-- How many with a weight are below their caps. -/
def opens (w caps out : List Int) : Nat := (List.range w.length).countP fun i => decide (0 < w.getD i 0 ∧ out.getD i 0 < caps.getD i 0)
theorem countP_lt {p q : Nat → Bool} : ∀ {l : List Nat}, (∀ x ∈ l, q x = true → p x = true) → (∃ x ∈ l, p x = true ∧ q x = false) → l.countP q < l.countP p
  | [], _, ⟨x, hx, _⟩ => nomatch hx
  | y :: l, h, ⟨x, hx, h1, h2⟩ => by
    have hle : l.countP q ≤ l.countP p := List.countP_mono_left (fun z hz => h z (List.mem_cons_of_mem _ hz))
    rw [List.countP_cons, List.countP_cons]
    rcases List.mem_cons.1 hx with rfl | hx
    · rw [h1, h2]; simp; omega
    · have := countP_lt (p := p) (q := q) (l := l) (fun z hz => h z (List.mem_cons_of_mem _ hz)) ⟨x, hx, h1, h2⟩
      have h3 := h y (List.mem_cons_self ..)
      cases hq : q y <;> cases hp : p y <;> simp <;> try omega
      rw [hq, hp] at h3; simp at h3
theorem some_zero {w caps out : List Int} (hw : Pos w) (h : (someL w caps out).sum = 0) : ∀ i, i < w.length → ¬ (0 < w.getD i 0 ∧ out.getD i 0 < caps.getD i 0) := fun i hi ⟨h1, h2⟩ => by
  have := le_sum (some_pos (caps := caps) (out := out) hw) i
  unfold someL at this h
  rw [tab_at hi, if_pos h2, h] at this
  omega
theorem some_nonzero {w caps out : List Int} (hw : Pos w) (h : (someL w caps out).sum ≠ 0) : ∃ i, i < w.length ∧ 0 < w.getD i 0 ∧ out.getD i 0 < caps.getD i 0 := by
  by_cases hx : ∃ i, i < w.length ∧ 0 < w.getD i 0 ∧ out.getD i 0 < caps.getD i 0
  · exact hx
  · refine absurd (sum_zero_of (fun i hi => ?_)) h
    rw [some_len] at hi
    unfold someL
    rw [tab_at hi]
    split
    · rename_i h1
      have := pos_getD hw i
      by_cases h2 : 0 < w.getD i 0
      · exact absurd ⟨i, hi, h2, h1⟩ hx
      · omega
    · rfl
theorem cap_fewer {t left : Int} {w caps out : List Int} (c : Cap t w caps out left) (hS : 0 < (someL w caps out).sum) (hl : left - (gainL (sharesL left (someL w caps out)) caps out).sum ≠ 0) : opens w caps (addL out (gainL (sharesL left (someL w caps out)) caps out)) < opens w caps out := by
  have hat : ∀ i, i < w.length → (addL out (gainL (sharesL left (someL w caps out)) caps out)).getD i 0 = out.getD i 0 + (gainL (sharesL left (someL w caps out)) caps out).getD i 0 := fun i hi => by unfold addL; rw [tab_at (by rw [c.l2]; exact hi)]
  refine countP_lt (fun i hi h => ?_) ?_
  · rw [List.mem_range] at hi
    rw [decide_eq_true_iff, hat i hi] at h
    rw [decide_eq_true_iff]
    have := (gain_at c hS i).1
    omega
  · by_cases hx : ∃ i, i < w.length ∧ (0 < w.getD i 0 ∧ out.getD i 0 < caps.getD i 0) ∧ caps.getD i 0 ≤ out.getD i 0 + (gainL (sharesL left (someL w caps out)) caps out).getD i 0
    · obtain ⟨i, h1, h2, h3⟩ := hx
      refine ⟨i, List.mem_range.2 h1, decide_eq_true h2, decide_eq_false ?_⟩
      rw [hat i h1]; omega
    · exfalso
      have h1 : sharesL left (someL w caps out) = gainL (sharesL left (someL w caps out)) caps out := by
        refine ext_getD (by rw [gain_len, shares_len, some_len, c.l2]) (fun i hi => ?_)
        rw [shares_len, some_len] at hi
        have h2 := gain_at c hS i
        have h3 := pos_getD (shares_pos c.l hS (some_pos (caps := caps) (out := out) c.pw)) i
        by_cases h4 : 0 < w.getD i 0 ∧ out.getD i 0 < caps.getD i 0
        · have h5 : ¬ caps.getD i 0 ≤ out.getD i 0 + (gainL (sharesL left (someL w caps out)) caps out).getD i 0 := fun h => hx ⟨i, hi, h4, h⟩
          have h6 : (gainL (sharesL left (someL w caps out)) caps out).getD i 0 = min ((sharesL left (someL w caps out)).getD i 0) (caps.getD i 0 - out.getD i 0) := tab_at (by rw [c.l2]; exact hi)
          omega
        · have h7 : (someL w caps out).getD i 0 = 0 := by
            unfold someL; rw [tab_at hi]
            have := pos_getD c.pw i
            split <;> omega
          have := shares_zero c.l hS h7
          omega
      rw [← h1, shares_sum c.l hS] at hl
      omega
theorem opens_le (w caps out : List Int) : opens w caps out ≤ w.length := by
  unfold opens
  have := List.countP_le_length (p := fun i => decide (0 < w.getD i 0 ∧ out.getD i 0 < caps.getD i 0)) (l := List.range w.length)
  rwa [List.length_range] at this

/-- What holds in the end. -/
structure Full (t : Int) (w caps out : List Int) (left : Int) : Prop where
  c : Cap t w caps out left
  f : left = 0 ∨ ∀ i, i < w.length → ¬ (0 < w.getD i 0 ∧ out.getD i 0 < caps.getD i 0)

theorem run_full {t : Int} {w caps : List Int} : ∀ (f : Nat) (out : List Int) (left : Int), Cap t w caps out left → (opens w caps out < f ∨ left = 0) → Full t w caps (capRun w caps f out left).1 (capRun w caps f out left).2
  | 0, out, left, c, h => ⟨c, .inl (show left = 0 by omega)⟩
  | f + 1, out, left, c, h => by
    unfold capRun
    have hS := pos_sum (some_pos (caps := caps) (out := out) c.pw)
    split
    · rename_i h1
      exact ⟨c, h1.imp id (some_zero c.pw)⟩
    · rename_i h1
      refine run_full f _ _ (cap_step c (by omega)) ?_
      by_cases h2 : left - (gainL (sharesL left (someL w caps out)) caps out).sum = 0
      · exact .inr h2
      · have := cap_fewer c (by omega) h2
        exact .inl (by omega)

/-- In the midst of a round. -/
def midL (out g : List Int) (i : Nat) : List Int := tabL out.length fun j => if j < i then out.getD j 0 + g.getD j 0 else out.getD j 0
theorem mid_zero (out g : List Int) : midL out g 0 = out := ext_getD (tab_len ..) (fun i hi => by unfold midL at *; rw [tab_len] at hi; rw [tab_at hi, if_neg (by omega)])
theorem mid_all (out g : List Int) {n : Nat} (h : out.length ≤ n) : midL out g n = addL out g := ext_getD (by unfold midL addL; rw [tab_len, tab_len]) (fun i hi => by unfold midL addL at *; rw [tab_len] at hi; rw [tab_at hi, tab_at hi, if_pos (by omega)])
theorem mid_len (out g : List Int) (i : Nat) : (midL out g i).length = out.length := tab_len ..
theorem mid_at {out g : List Int} {i : Nat} (h : i < out.length) : (midL out g i).getD i 0 = out.getD i 0 := by unfold midL; rw [tab_at h, if_neg (by omega)]
theorem mid_set {out g : List Int} {i : Nat} (h : i < out.length) : (midL out g i).set i (out.getD i 0 + g.getD i 0) = midL out g (i + 1) := ext_getD (by rw [List.length_set, mid_len, mid_len]) (fun j hj => by
  rw [List.length_set, mid_len] at hj
  by_cases hji : i = j
  · subst hji
    rw [getD_set_eq _ _ (by rw [mid_len]; exact h)]; unfold midL; rw [tab_at h, if_pos (by omega)]
  · rw [getD_set_ne _ _ hji]; unfold midL; rw [tab_at hj, tab_at hj]
    by_cases h1 : j < i
    · rw [if_pos h1, if_pos (by omega)]
    · rw [if_neg h1, if_neg (by omega)])
def fillL (s : List Int) (i : Nat) : List Int := tabL s.length fun j => if j < i then s.getD j 0 else 0
theorem fill_zero (s : List Int) : fillL s 0 = List.replicate s.length 0 := ext_getD (by unfold fillL; rw [tab_len, List.length_replicate]) (fun i hi => by
  unfold fillL at *; rw [tab_len] at hi; rw [tab_at hi, if_neg (by omega), List.getD_eq_getElem?_getD, List.getElem?_replicate, if_pos hi]; rfl)
theorem fill_all (s : List Int) : fillL s s.length = s := ext_getD (tab_len ..) (fun i hi => by unfold fillL at *; rw [tab_len] at hi; rw [tab_at hi, if_pos hi])
theorem fill_len (s : List Int) (i : Nat) : (fillL s i).length = s.length := tab_len ..
theorem fill_set {s : List Int} {i : Nat} (h : i < s.length) : (fillL s i).set i (s.getD i 0) = fillL s (i + 1) := ext_getD (by rw [List.length_set, fill_len, fill_len]) (fun j hj => by
  rw [List.length_set, fill_len] at hj
  by_cases hji : i = j
  · subst hji
    rw [getD_set_eq _ _ (by rw [fill_len]; exact h)]; unfold fillL; rw [tab_at h, if_pos (by omega)]
  · rw [getD_set_ne _ _ hji]; unfold fillL; rw [tab_at hj, tab_at hj]
    by_cases h1 : j < i
    · rw [if_pos h1, if_pos (by omega)]
    · rw [if_neg h1, if_neg (by omega)])
theorem fill_skip {s : List Int} {i : Nat} (h : s.getD i 0 = 0) : fillL s i = fillL s (i + 1) := ext_getD (by rw [fill_len, fill_len]) (fun j hj => by
  rw [fill_len] at hj
  unfold fillL; rw [tab_at hj, tab_at hj]
  by_cases h1 : j < i
  · rw [if_pos h1, if_pos (by omega)]
  · rw [if_neg h1]
    by_cases h2 : j = i
    · subst h2; rw [if_pos (by omega), h]
    · rw [if_neg (by omega)])
theorem mn_min (x y : Int) : mn x y = min x y := by rw [mn_eq]; split <;> omega
theorem gain_take {t left : Int} {w caps out : List Int} (c : Cap t w caps out left) (hS : 0 < (someL w caps out).sum) (i : Nat) : 0 ≤ ((gainL (sharesL left (someL w caps out)) caps out).take i).sum ∧ ((gainL (sharesL left (someL w caps out)) caps out).take i).sum ≤ left := by
  have h := pos_of_getD (l := gainL (sharesL left (someL w caps out)) caps out) (fun i _ => (gain_at c hS i).1)
  have := sum_take_le h i
  have := gain_sum c hS
  exact ⟨pos_sum (pos_take h i), by omega⟩

theorem gain_loop (N : Nat) (K : List Int → List Int → List Int → Int → Option (List Int × Int × Int)) {t left : Int} {w caps out : List Int} (c : Cap t w caps out left) (hS : 0 < (someL w caps out).sum) : ∀ (m n i : Nat), w.length - i ≤ m → m < n → i ≤ w.length →
    share_Capped.l18 N K n w caps (midL out (gainL (sharesL left (someL w caps out)) caps out) i) (left - ((gainL (sharesL left (someL w caps out)) caps out).take i).sum) (sharesL left (someL w caps out)) ((sharesL left (someL w caps out)).length : Int) (i : Int) =
    K w caps (addL out (gainL (sharesL left (someL w caps out)) caps out)) (left - (gainL (sharesL left (someL w caps out)) caps out).sum)
  | m, 0, i, _, hn, _ => by omega
  | m, n + 1, i, hm, hn, hi => by
    have n64 := c.n
    have e1 := c.l1
    have e2 := c.l2
    unfold share_Capped.l18 share_Capped.l18b
    by_cases h : i < w.length
    · have hc := c.pc i
      have ho := c.po i
      have hle := c.le i h
      have hg := gain_at c hS i
      have h6 : (gainL (sharesL left (someL w caps out)) caps out).getD i 0 = min ((sharesL left (someL w caps out)).getD i 0) (caps.getD i 0 - out.getD i 0) := tab_at (by rw [c.l2]; exact h)
      have ht := gain_take c hS i
      have hl := cap_left c
      have ht1 := c.t1
      have hgl : (gainL (sharesL left (someL w caps out)) caps out).getD i 0 ≤ left := by
        have := le_sum (pos_of_getD (l := gainL (sharesL left (someL w caps out)) caps out) (fun i _ => (gain_at c hS i).1)) i
        have := gain_sum c hS
        omega
      dsimp only
      rw [ltB_t (by rw [shares_len, some_len]; omega), cond_true, inb_t (by omega) (by rw [shares_len, some_len]; omega), cond_true, inb_t (by omega) (by omega), cond_true, inb_t (by omega) (by rw [mid_len]; omega), cond_true, cond_true, Int.toNat_natCast, mid_at (by omega), W_i64 (x := caps.getD i 0 - out.getD i 0) (by omega) (by omega), mn_min, ← h6,
        W_i64 (x := (i : Int) + 1) (by omega) (by omega), W_i64 (x := out.getD i 0 + _) (by omega) (by omega), W_i64 (by omega) (by omega), mid_set (by omega)]
      have := gain_loop N K c hS (m - 1) n (i + 1) (by omega) (by omega) (by omega)
      rw [sum_take_succ _ (by rw [gain_len]; omega), ← Int.sub_sub] at this
      exact this
    · rw [ltB_f (by rw [shares_len, some_len]; omega), cond_false, mid_all _ _ (by omega), List.take_of_length_le (by rw [gain_len]; omega)]

theorem rgain_loop (N : Nat) (K : List Int → List Int → List Int → Int → Int → Option (List Int × Int × Int)) {t left : Int} {w caps out : List Int} (c : Cap t w caps out left) (hS : 0 < (someL w caps out).sum) (rd : Int) : ∀ (m n i : Nat), w.length - i ≤ m → m < n → i ≤ w.length →
    novationref1_Capped.l19 N K n w caps (midL out (gainL (sharesL left (someL w caps out)) caps out) i) (left - ((gainL (sharesL left (someL w caps out)) caps out).take i).sum) rd (sharesL left (someL w caps out)) (i : Int) =
    K w caps (addL out (gainL (sharesL left (someL w caps out)) caps out)) (left - (gainL (sharesL left (someL w caps out)) caps out).sum) (W .i64 (rd + 1))
  | m, 0, i, _, hn, _ => by omega
  | m, n + 1, i, hm, hn, hi => by
    have n64 := c.n
    have e1 := c.l1
    have e2 := c.l2
    unfold novationref1_Capped.l19 novationref1_Capped.l19b
    by_cases h : i < w.length
    · have hc := c.pc i
      have ho := c.po i
      have hle := c.le i h
      have hg := gain_at c hS i
      have h6 : (gainL (sharesL left (someL w caps out)) caps out).getD i 0 = min ((sharesL left (someL w caps out)).getD i 0) (caps.getD i 0 - out.getD i 0) := tab_at (by rw [c.l2]; exact h)
      have ht := gain_take c hS i
      have hl := cap_left c
      have ht1 := c.t1
      have hgl : (gainL (sharesL left (someL w caps out)) caps out).getD i 0 ≤ left := by
        have := le_sum (pos_of_getD (l := gainL (sharesL left (someL w caps out)) caps out) (fun i _ => (gain_at c hS i).1)) i
        have := gain_sum c hS
        omega
      dsimp only
      rw [ltB_t (by omega), cond_true, inb_t (by omega) (by rw [shares_len, some_len]; omega), cond_true, inb_t (by omega) (by omega), cond_true, inb_t (by omega) (by rw [mid_len]; omega), cond_true, cond_true, Int.toNat_natCast, mid_at (by omega), W_i64 (x := caps.getD i 0 - out.getD i 0) (by omega) (by omega), mn_min, ← h6,
        W_i64 (x := (i : Int) + 1) (by omega) (by omega), W_i64 (x := out.getD i 0 + _) (by omega) (by omega), W_i64 (x := left - _ - _) (by omega) (by omega), mid_set (by omega)]
      have := rgain_loop N K c hS rd (m - 1) n (i + 1) (by omega) (by omega) (by omega)
      rw [sum_take_succ _ (by rw [gain_len]; omega), ← Int.sub_sub] at this
      exact this
    · rw [ltB_f (by omega), cond_false, mid_all _ _ (by omega), List.take_of_length_le (by rw [gain_len]; omega)]

theorem some_loop (N : Nat) (hN : 5000000 ≤ N) (K : List Int → List Int → List Int → Int → Option (List Int × Int × Int)) {t left : Int} {w caps out : List Int} (c : Cap t w caps out left) (hl : 0 < left) : ∀ (m n i : Nat), w.length - i ≤ m → m < n → i ≤ w.length →
    share_Capped.l10 N K n w caps out left (fillL (someL w caps out) i) (w.length : Int) (i : Int) =
    if (someL w caps out).sum = 0 then some (out, left, 0) else K w caps (addL out (gainL (sharesL left (someL w caps out)) caps out)) (left - (gainL (sharesL left (someL w caps out)) caps out).sum)
  | m, 0, i, _, hn, _ => by omega
  | m, n + 1, i, hm, hn, hi => by
    have n64 := c.n
    have e1 := c.l1
    have e2 := c.l2
    unfold share_Capped.l10 share_Capped.l10b
    by_cases h : i < w.length
    · have h1 : (someL w caps out).getD i 0 = if out.getD i 0 < caps.getD i 0 then w.getD i 0 else 0 := tab_at h
      rw [ltB_t (by omega), cond_true, inb_t (by omega) (by omega), cond_true, inb_t (by omega) (by omega), cond_true, Int.toNat_natCast]
      by_cases h2 : out.getD i 0 < caps.getD i 0
      · rw [if_pos h2] at h1
        rw [ltB_t h2, cond_true, inb_t (by omega) (by omega), cond_true, inb_t (by omega) (by rw [fill_len, some_len]; omega), cond_true, W_i64 (by omega) (by omega), ← h1, fill_set (by rw [some_len]; exact h)]
        exact some_loop N hN K c hl (m - 1) n (i + 1) (by omega) (by omega) (by omega)
      · rw [if_neg h2] at h1
        rw [ltB_f (by omega), cond_false, W_i64 (by omega) (by omega), fill_skip h1]
        exact some_loop N hN K c hl (m - 1) n (i + 1) (by omega) (by omega) (by omega)
    · have hl1 := cap_left c
      have ht1 := c.t1
      have hi' : i = (someL w caps out).length := by rw [some_len]; omega
      have hp := some_pos (caps := caps) (out := out) c.pw
      have hs := some_sum (caps := caps) (out := out) c.pw
      have hs0 := pos_sum hp
      have hsw := c.sw
      have hm : may (someL w caps out) = true := may_iff.2 ⟨by rw [some_len]; omega, hp⟩
      rw [ltB_f (by omega), cond_false, hi', fill_all, Split_eq N (by omega) (by omega) (some_i64 c) (by rw [some_len]; omega), Option.bind_some]
      unfold splitL
      rw [if_neg (by rw [hm]; simp; omega), if_neg (by omega)]
      by_cases h3 : (someL w caps out).sum = 0
      · rw [if_pos h3, if_pos h3, if_neg (by omega), eqB_f (show (1 : Int) ≠ 0 by omega), Bool.not_false, cond_true]
      · rw [if_neg h3, if_neg h3, eqB_t (show (0 : Int) = 0 by rfl), Bool.not_true, cond_false]
        have := gain_loop N K c (by omega) w.length N 0 (by omega) (by omega) (by omega)
        rw [mid_zero, List.take_zero, List.sum_nil, Int.sub_zero] at this
        exact this

/-- One of the first ones has a weight and is below its cap. -/
def SomeOpen (w caps out : List Int) (i : Nat) : Prop := ∃ j, j < i ∧ 0 < w.getD j 0 ∧ out.getD j 0 < caps.getD j 0

theorem rsome_loop (N : Nat) (hN : 5000000 ≤ N) (K : List Int → List Int → List Int → Int → Int → Option (List Int × Int × Int)) {t left : Int} {w caps out : List Int} (c : Cap t w caps out left) (rd : Int) : ∀ (m n i : Nat) (b : Bool), w.length - i ≤ m → m < n → i ≤ w.length → (b = true ↔ SomeOpen w caps out i) →
    novationref1_Capped.l12 N K n w caps out left rd (fillL (someL w caps out) i) b (i : Int) =
    if left = 0 ∨ (someL w caps out).sum = 0 then some (out, left, 0) else K w caps (addL out (gainL (sharesL left (someL w caps out)) caps out)) (left - (gainL (sharesL left (someL w caps out)) caps out).sum) (W .i64 (rd + 1))
  | m, 0, i, b, _, hn, _, _ => by omega
  | m, n + 1, i, b, hm, hn, hi, hb => by
    have n64 := c.n
    have e1 := c.l1
    have e2 := c.l2
    unfold novationref1_Capped.l12 novationref1_Capped.l12b
    by_cases h : i < w.length
    · have h1 : (someL w caps out).getD i 0 = if out.getD i 0 < caps.getD i 0 then w.getD i 0 else 0 := tab_at h
      have hw := pos_getD c.pw i
      have hskip : ¬ (0 < w.getD i 0 ∧ out.getD i 0 < caps.getD i 0) → (b = true ↔ SomeOpen w caps out (i + 1)) := fun hno => hb.trans ⟨fun ⟨j, hj, h2⟩ => ⟨j, by omega, h2⟩, fun ⟨j, hj, h2⟩ => ⟨j, by
        by_cases hji : j = i
        · subst hji; exact absurd h2 hno
        · omega, h2⟩⟩
      rw [ltB_t (by omega), cond_true, inb_t (by omega) (by omega), cond_true, Int.toNat_natCast]
      by_cases h0 : 0 < w.getD i 0
      · rw [ltB_t h0, cond_true, inb_t (by omega) (by omega), cond_true, inb_t (by omega) (by omega), cond_true]
        by_cases h2 : out.getD i 0 < caps.getD i 0
        · rw [if_pos h2] at h1
          rw [ltB_t h2, cond_true, cond_true, inb_t (by omega) (by rw [fill_len, some_len]; omega), cond_true, W_i64 (by omega) (by omega), ← h1, fill_set (by rw [some_len]; exact h)]
          exact rsome_loop N hN K c rd (m - 1) n (i + 1) true (by omega) (by omega) (by omega) ⟨fun _ => ⟨i, by omega, h0, h2⟩, fun _ => rfl⟩
        · rw [if_neg h2] at h1
          rw [ltB_f (by omega), cond_false, W_i64 (by omega) (by omega), fill_skip h1]
          exact rsome_loop N hN K c rd (m - 1) n (i + 1) b (by omega) (by omega) (by omega) (hskip (fun h => h2 h.2))
      · have h3 : (someL w caps out).getD i 0 = 0 := by rw [h1]; split <;> omega
        rw [ltB_f (by omega), cond_false, W_i64 (by omega) (by omega), fill_skip h3]
        exact rsome_loop N hN K c rd (m - 1) n (i + 1) b (by omega) (by omega) (by omega) (hskip (fun h => h0 h.1))
    · have hl1 := cap_left c
      have ht1 := c.t1
      have hl0 := c.l
      have hi' : i = (someL w caps out).length := by rw [some_len]; omega
      have hp := some_pos (caps := caps) (out := out) c.pw
      have hs := some_sum (caps := caps) (out := out) c.pw
      have hs0 := pos_sum hp
      have hsw := c.sw
      have hm : may (someL w caps out) = true := may_iff.2 ⟨by rw [some_len]; omega, hp⟩
      rw [ltB_f (by omega), cond_false]
      by_cases h4 : left = 0
      · rw [eqB_t h4, cond_true, if_pos (.inl h4)]
      rw [eqB_f h4, cond_false]
      by_cases h3 : (someL w caps out).sum = 0
      · have hbf : b = false := by
          rw [Bool.eq_false_iff]; intro ht
          obtain ⟨j, hj, h5⟩ := hb.1 ht
          exact some_zero c.pw h3 j (by omega) h5
        rw [if_pos (.inr h3), hbf]; rfl
      · have hbt : b = true := hb.2 (by
          obtain ⟨j, hj, h5⟩ := some_nonzero c.pw h3
          exact ⟨j, by omega, h5⟩)
        rw [hbt, Bool.not_true, cond_false, if_neg (by omega), hi', fill_all, rSplit_eq N (by omega) (by omega) (some_i64 c) (by rw [some_len]; omega), Option.bind_some]
        unfold splitL
        rw [if_neg (by rw [hm]; simp; omega), if_neg (by omega), if_neg h3]
        have := rgain_loop N K c (by omega) rd w.length N 0 (by omega) (by omega) (by omega)
        rw [mid_zero, List.take_zero, List.sum_nil, Int.sub_zero] at this
        exact this

theorem run_loop (N : Nat) (hN : 5000000 ≤ N) {t : Int} {w caps : List Int} : ∀ (f n : Nat) (out : List Int) (left : Int), Cap t w caps out left → (opens w caps out < f ∨ left = 0) → f < n →
    share_Capped.l7 N n w caps out left = some ((capRun w caps f out left).1, (capRun w caps f out left).2, 0)
  | f, 0, out, left, c, _, hn => by omega
  | f, n + 1, out, left, c, h, hn => by
    have n64 := c.n
    have hl := c.l
    unfold share_Capped.l7 share_Capped.l7b
    by_cases h0 : left = 0
    · rw [ltB_f (by omega), cond_false]
      cases f with
      | zero => rfl
      | succ f => unfold capRun; rw [if_pos (.inl h0)]
    · rw [ltB_t (by omega), cond_true, okMake_t (by omega) (by omega) (by omega), cond_true, Int.toNat_natCast]
      have := some_loop N hN (share_Capped.l7 N n) c (by omega) w.length N 0 (by omega) (by omega) (by omega)
      rw [fill_zero, some_len] at this
      refine Eq.trans this ?_
      cases f with
      | zero => omega
      | succ f =>
        have hS := pos_sum (some_pos (caps := caps) (out := out) c.pw)
        unfold capRun
        by_cases h1 : (someL w caps out).sum = 0
        · rw [if_pos h1, if_pos (.inr h1)]
        · rw [if_neg h1, if_neg (by omega)]
          refine run_loop N hN f n _ _ (cap_step c (by omega)) ?_ (by omega)
          by_cases h2 : left - (gainL (sharesL left (someL w caps out)) caps out).sum = 0
          · exact .inr h2
          · have := cap_fewer c (by omega) h2
            exact .inl (by omega)

theorem rrun_loop (N : Nat) (hN : 5000000 ≤ N) {t : Int} {w caps : List Int} : ∀ (f n : Nat) (out : List Int) (left : Int), Cap t w caps out left → f ≤ w.length + 1 → f < n →
    novationref1_Capped.l8 N n w caps out left ((w.length + 1 - f : Nat) : Int) = some ((capRun w caps f out left).1, (capRun w caps f out left).2, 0)
  | f, 0, out, left, c, _, hn => by omega
  | 0, n + 1, out, left, c, h, hn => by
    unfold novationref1_Capped.l8 novationref1_Capped.l8b
    rw [leB_f (by omega)]; rfl
  | f + 1, n + 1, out, left, c, h, hn => by
    have n64 := c.n
    have hl := c.l
    unfold novationref1_Capped.l8 novationref1_Capped.l8b
    rw [leB_t (by omega), cond_true, okMake_t (by omega) (by omega) (by omega), cond_true, Int.toNat_natCast]
    have := rsome_loop N hN (novationref1_Capped.l8 N n) c ((w.length + 1 - (f + 1) : Nat) : Int) w.length N 0 false (by omega) (by omega) (by omega) ⟨(fun h => nomatch h), fun ⟨j, hj, _⟩ => by omega⟩
    rw [fill_zero, some_len] at this
    refine Eq.trans this ?_
    have hS := pos_sum (some_pos (caps := caps) (out := out) c.pw)
    unfold capRun
    by_cases h1 : left = 0 ∨ (someL w caps out).sum = 0
    · rw [if_pos h1, if_pos h1]
    · rw [if_neg h1, if_neg h1, W_i64 (by omega) (by omega), show (((w.length + 1 - (f + 1) : Nat) : Int) + 1) = ((w.length + 1 - f : Nat) : Int) by omega]
      exact rrun_loop N hN f n _ _ (cap_step c (by omega)) (by omega) (by omega)

def cappedL (t : Int) (w caps : List Int) : List Int × Int × Int :=
  if t < 0 ∨ may w = false ∨ caps.length ≠ w.length ∨ may caps = false then ([], 0, 1) else if 9223372036854775808 ≤ w.sum then ([], 0, 2)
  else ((capRun w caps (w.length + 1) (List.replicate w.length 0) t).1, (capRun w caps (w.length + 1) (List.replicate w.length 0) t).2, 0)

theorem replicate_at (n i : Nat) : (List.replicate n (0 : Int)).getD i 0 = 0 := by
  rw [List.getD_eq_getElem?_getD, List.getElem?_replicate]; split <;> rfl
theorem cap_start {t : Int} {w caps : List Int} (ht : 0 ≤ t) (ht1 : t < 9223372036854775808) (hw : may w = true) (hc : may caps = true) (hl : caps.length = w.length) (hi : I64 caps) (hs : w.sum < 9223372036854775808) : Cap t w caps (List.replicate w.length 0) t := by
  obtain ⟨h1, h2⟩ := may_iff.1 hw
  obtain ⟨h3, h4⟩ := may_iff.1 hc
  refine ⟨h1, hl, List.length_replicate .., h2, hs, fun i => ⟨pos_getD h4 i, (getD_i64 hi i).2⟩, fun i => by rw [replicate_at]; omega, fun i _ => by rw [replicate_at]; exact pos_getD h4 i, fun i _ => replicate_at .., ht, ht1, ?_⟩
  rw [sum_zero_of (fun i _ => replicate_at ..)]; omega

theorem Capped_eq (N : Nat) (hN : 5000000 ≤ N) {t : Int} {w caps : List Int} (ht1 : t < 9223372036854775808) (hw : I64 w) (hc : I64 caps) (hl : w.length ≤ 1000000) : share_Capped N t w caps = some (cappedL t w caps) := by
  unfold share_Capped share_Capped.b cappedL
  by_cases h1 : t < 0
  · rw [ltB_t h1, cond_true, if_pos (.inl h1)]
  rw [ltB_f (by omega), cond_false, may_eq N (by omega), Option.bind_some]
  cases h2 : may w
  · rw [Bool.not_false, cond_true, if_pos (.inr (.inl rfl))]
  rw [Bool.not_true, cond_false]
  by_cases h3 : caps.length = w.length
  case neg => rw [eqB_f (by omega), Bool.not_false, cond_true, if_pos (.inr (.inr (.inl h3)))]
  rw [eqB_t (by omega), Bool.not_true, cond_false, may_eq N (by omega), Option.bind_some]
  cases h4 : may caps
  · rw [Bool.not_false, cond_true, if_pos (.inr (.inr (.inr rfl)))]
  have hp := pos_sum (may_iff.1 h2).2
  rw [Bool.not_true, cond_false, aSum_eq N hw hl (by omega), Option.bind_some, if_neg (by simp; omega)]
  by_cases h5 : 9223372036854775808 ≤ w.sum
  · rw [if_pos h5]; unfold toI; rw [if_neg (by omega)]; rfl
  rw [if_neg h5, toI_in (by omega) (by omega), Bool.not_true, cond_false, okMake_t (by omega) (by omega) (by omega), cond_true, Int.toNat_natCast]
  have h64 := (may_iff.1 h2).1
  have := opens_le w caps (List.replicate w.length 0)
  exact run_loop N hN (w.length + 1) N _ _ (cap_start (by omega) ht1 h2 h4 h3 hc (by omega)) (.inl (by omega)) (by omega)

theorem rCapped_eq (N : Nat) (hN : 5000000 ≤ N) {t : Int} {w caps : List Int} (ht1 : t < 9223372036854775808) (hw : I64 w) (hc : I64 caps) (hl : w.length ≤ 1000000) : novationref1_Capped N t w caps = some (cappedL t w caps) := by
  unfold novationref1_Capped novationref1_Capped.b cappedL
  rw [wrong_eq N (by omega), Option.bind_some]
  by_cases h1 : t < 0
  · rw [decide_eq_true h1, Bool.true_or, cond_true, if_pos (.inl h1)]
  rw [decide_eq_false h1, Bool.false_or]
  cases h2 : may w
  · rw [Bool.not_false, cond_true, if_pos (.inr (.inl rfl))]
  rw [Bool.not_true, cond_false]
  by_cases h3 : caps.length = w.length
  case neg => rw [eqB_f (by omega), Bool.not_false, cond_true, if_pos (.inr (.inr (.inl h3)))]
  rw [eqB_t (by omega), Bool.not_true, cond_false, wrong_eq N (by omega), Option.bind_some]
  cases h4 : may caps
  · rw [if_pos (.inr (.inr (.inr rfl)))]; rfl
  have hp := pos_sum (may_iff.1 h2).2
  rw [show (decide ((0 : Int) < 0) || !true) = false from rfl, cond_false, SumInts_eq N (by omega) hw hl, Option.bind_some, Int_eq, Option.bind_some, if_neg (by simp; omega)]
  by_cases h5 : 9223372036854775808 ≤ w.sum
  · rw [if_pos h5]; unfold toI; rw [if_neg (by omega)]; rfl
  rw [if_neg h5, toI_in (by omega) (by omega), Bool.not_true, cond_false, okMake_t (by omega) (by omega) (by omega), cond_true, Int.toNat_natCast]
  have h64 := (may_iff.1 h2).1
  have := rrun_loop N hN (w.length + 1) N _ _ (cap_start (by omega) ht1 h2 h4 h3 hc (by omega)) (by omega) (by omega)
  rw [Nat.sub_self] at this
  exact this
end VM
end

section
/- Plain laws: the statements of layer 3. -/
set_option linter.unusedSimpArgs false
set_option linter.unusedVariables false
namespace VM
open Go VM.F

theorem known_eq : novationlaw3_known 5000000 = some true := by
  unfold novationlaw3_known
  have i1 : ∀ {x : Int}, (0 ≤ x ∧ x < 100) → -9223372036854775808 ≤ x ∧ x < 9223372036854775808 := fun h => by omega
  have e1 : splitL 10 [1, 1, 1] = ([4, 3, 3], 0) := by decide +kernel
  have e2 : evenL 7 3 = ([3, 2, 2], 0) := by decide +kernel
  have e3 : cappedL 10 [1, 1, 1] [2, 9, 9] = ([2, 4, 4], 0, 0) := by decide +kernel
  have e4 : splitL 1 [0] = ([], 1) := by decide +kernel
  have e5 : orderL [1, 5, 5] = [1, 2, 0] := by decide +kernel
  rw [Split_eq 5000000 (by omega) (by omega) (by unfold I64; decide) (by decide), Option.bind_some, Even_eq 5000000 (by omega) (by omega), Option.bind_some, Capped_eq 5000000 (by omega) (by omega) (by unfold I64; decide) (by unfold I64; decide) (by decide), Option.bind_some,
    Split_eq 5000000 (by omega) (by omega) (by unfold I64; decide) (by decide), Option.bind_some, e1, e2, e3, e4]
  dsimp only
  rw [eqB_t rfl, cond_true, Ints_eq 5000000 (by decide) (by omega), Option.bind_some, cond_true, cond_true, Ints_eq 5000000 (by decide) (by omega), Option.bind_some, cond_true, cond_true, cond_true, Ints_eq 5000000 (by decide) (by omega), Option.bind_some, cond_true, eqB_t rfl, cond_true,
    Order_eq 5000000 (by decide) (by decide), Option.bind_some, e5, Nums_eq 5000000 (by decide) (by omega), Option.bind_some]

theorem wfs_i64 {l : List Int} (h : WF (.slice (.int .i64)) l) : I64 l := fun x hx => by
  obtain ⟨i, hi, rfl⟩ := List.mem_iff_getElem.1 hx
  have := wf_i64.1 (h.2 i hi)
  have e : l.get ⟨i, hi⟩ = l[i] := rfl
  rw [e] at this
  omega
theorem wfs_u32 {l : List Int} (h : WF (.slice (.int .u32)) l) (i : Nat) : 0 ≤ l.getD i 0 ∧ l.getD i 0 < 4294967296 := by
  by_cases hi : i < l.length
  · have := wf_u32.1 (h.2 i hi)
    have e : l.get ⟨i, hi⟩ = l[i] := rfl
    rw [e] at this
    rw [List.getD_eq_getElem?_getD, List.getElem?_eq_getElem hi]
    simp only [Option.getD_some]; omega
  · rw [getD_ge l (by omega)]; omega
theorem i64_of {l : List Int} (h : Pos l) (hs : l.sum < 9223372036854775808) : I64 l := fun x hx => by
  have h3 := h x hx
  obtain ⟨i, hi, rfl⟩ := List.mem_iff_getElem.1 hx
  have h4 := le_sum h i
  rw [List.getD_eq_getElem?_getD, List.getElem?_eq_getElem hi] at h4
  simp only [Option.getD_some] at h4
  omega
theorem half_t {a : Int} (h : (Lit.int .u64 a).wf = true) : W .i64 (shr .u64 a 1) = a / 2 ∧ 0 ≤ a / 2 ∧ a / 2 < 9223372036854775808 := by
  have := wf_u64.1 h
  rw [shr1, W_i64 (by omega) (by omega)]; omega

theorem orders_in (N : Nat) (K : List Int → List Int → Int → Option Bool) {l : List Int} (hl : l.length ≤ 70) (j : Nat) (hj : j < l.length) : ∀ (m n i : Nat), j - i ≤ m → m < n → i ≤ j →
    novationlaw3_ShareOrders.l16 N K n l (orderL l) (j : Int) (i : Int) = K l (orderL l) ((j + 1 : Nat) : Int)
  | m, 0, i, _, hn, _ => by omega
  | m, n + 1, i, hm, hn, hi => by
    have hlen := orderL_len l
    unfold novationlaw3_ShareOrders.l16 novationlaw3_ShareOrders.l16b
    by_cases h : i < j
    · have := ahead_le (orderTo_pairwise l l.length) (j := i) (k := j) h (by rw [orderTo_len]; exact hj)
      have hne : (orderL l).getD i 0 ≠ (orderL l).getD j 0 := fun he => by
        unfold orderL at he; unfold Ahead at this; rw [he] at this; omega
      rw [ltB_t (by omega), cond_true, inb_t (by omega) (by omega), cond_true, inb_t (by omega) (by omega), cond_true, Int.toNat_natCast, Int.toNat_natCast, eqB_f hne, cond_false, W_i64 (by omega) (by omega)]
      exact orders_in N K hl j hj (m - 1) n (i + 1) (by omega) (by omega) (by omega)
    · rw [ltB_f (by omega), cond_false, W_i64 (by omega) (by omega)]; rfl

theorem orders_out (N : Nat) (hN : 1000 ≤ N) {l : List Int} (hl : l.length ≤ 70) : ∀ (m n j : Nat), l.length - j ≤ m → m < n → j ≤ l.length →
    novationlaw3_ShareOrders.l9 N n l (orderL l) (j : Int) = some true
  | m, 0, j, _, hn, _ => by omega
  | m, n + 1, j, hm, hn, hj => by
    have hlen := orderL_len l
    unfold novationlaw3_ShareOrders.l9 novationlaw3_ShareOrders.l9b
    by_cases h : j < l.length
    · have hr := order_at l _ (mem_getD (o := orderL l) (j := j) (by omega))
      have hj15 : novationlaw3_ShareOrders.j15 N (novationlaw3_ShareOrders.l9 N n) l (orderL l) (j : Int) = some true := by
        unfold novationlaw3_ShareOrders.j15 novationlaw3_ShareOrders.j15b
        refine (orders_in N _ hl j h j N 0 (by omega) (by omega) (by omega)).trans ?_
        exact orders_out N hN hl (m - 1) n (j + 1) (by omega) (by omega) (by omega)
      rw [ltB_t (by omega), cond_true, inb_t (by omega) (by omega), cond_true, Int.toNat_natCast, ltB_f hr.1, cond_false, cond_true, leB_f (by omega), cond_false]
      by_cases h0 : 0 < j
      · have hr' := order_at l _ (mem_getD (o := orderL l) (j := j - 1) (by omega))
        have ha := ahead_le (orderTo_pairwise l l.length) (j := j - 1) (k := j) (by omega) (by rw [orderTo_len]; exact h)
        unfold Ahead at0 at ha
        rw [show orderTo l l.length = orderL l from rfl] at ha
        have e : W .i64 ((j : Int) - 1) = ((j - 1 : Nat) : Int) := by rw [W_i64 (by omega) (by omega)]; omega
        dsimp only
        rw [ltB_t (by omega), cond_true, cond_true, inb_t (by omega) (by omega), cond_true, e, inb_t (by omega) (by omega), cond_true, Int.toNat_natCast, inb_t (by omega) (by omega), cond_true, ltB_f (by omega), cond_false, cond_true, cond_true, cond_true, cond_true]
        by_cases h1 : l.getD ((orderL l).getD j 0).toNat 0 = l.getD ((orderL l).getD (j - 1) 0).toNat 0
        · rw [eqB_t h1, cond_true, cond_true, cond_true, leB_f (by omega), cond_false, hj15]
        · rw [eqB_f h1, cond_false, hj15]
      · rw [ltB_f (by omega), cond_false, hj15]
    · rw [ltB_f (by omega), cond_false]

namespace Pure
theorem ShareOrders (a : List Int) (h : WFs [.slice (.int .i64)] a) : ∃ N, novationlaw3_ShareOrders N a = some true := by
  refine ⟨5000000, ?_⟩
  unfold novationlaw3_ShareOrders novationlaw3_ShareOrders.b
  rw [known_eq, Option.bind_some, Bool.not_true, cond_false]
  by_cases hl : 70 < a.length
  · rw [ltB_t (by omega), cond_true]
  · rw [ltB_f (by omega), cond_false, Order_eq 5000000 (by omega) (by omega), Option.bind_some, orderL_len, eqB_t rfl, Bool.not_true, cond_false]
    exact orders_out 5000000 (by omega) (by omega) a.length 5000000 0 (by omega) (by omega) (by omega)

theorem ShareSplits (a : Int) (b : List Int) (c : Int) (h : WFs [.int .i64, .slice (.int .i64), .int .i64] (a, b, c)) : ∃ N, novationlaw3_ShareSplits N a b c = some true := by
  refine ⟨5000000, ?_⟩
  obtain ⟨h1, h2, h3, _⟩ := h
  have h1 : (Lit.int .i64 a).wf = true := h1
  have h2 : WF (.slice (.int .i64)) b := h2
  have h1 := wf_i64.1 h1
  have h2 := wfs_i64 h2
  unfold novationlaw3_ShareSplits
  rw [known_eq, Option.bind_some, Bool.not_true, cond_false]
  by_cases hl : 70 < b.length
  · rw [ltB_t (by omega), cond_true]
  · have l1 : ((splitL a b).1).length ≤ 1000000 := by
      unfold splitL
      split
      · simp
      · split
        · simp
        · split
          · split <;> simp <;> omega
          · rw [shares_len]; omega
    have l2 : ((evenL a c).1).length ≤ 1000000 := by
      unfold evenL
      split
      · simp
      · unfold splitL
        split
        · simp
        · split
          · simp
          · split
            · split <;> simp <;> omega
            · rw [shares_len, List.length_replicate]; omega
    rw [ltB_f (by omega), cond_false, Split_eq 5000000 (by omega) (by omega) h2 (by omega), Option.bind_some, rSplit_eq 5000000 (by omega) (by omega) h2 (by omega), Option.bind_some, Even_eq 5000000 (by omega) (by omega), Option.bind_some, rEven_eq 5000000 (by omega) (by omega), Option.bind_some,
      eqB_t rfl, cond_true, Ints_eq 5000000 l1 (by omega), Option.bind_some, cond_true, eqB_t rfl, cond_true, Ints_eq 5000000 l2 (by omega), Option.bind_some, cond_true, Order_eq 5000000 (by omega) (by omega), Option.bind_some, rOrder_eq 5000000 (by omega) (by omega), Option.bind_some, Nums_eq 5000000 (by rw [orderL_len]; omega) (by omega), Option.bind_some]
end Pure

theorem addL_len (out g : List Int) : (addL out g).length = out.length := tab_len ..
theorem run_len (w caps : List Int) : ∀ (f : Nat) (out : List Int) (left : Int), (capRun w caps f out left).1.length = out.length
  | 0, out, left => rfl
  | f + 1, out, left => by
    unfold capRun; split
    · rfl
    · rw [run_len, addL_len]

namespace Pure
theorem ShareCaps (a : Int) (b : List Int) (c : List Int) (h : WFs [.int .i64, .slice (.int .i64), .slice (.int .i64)] (a, b, c)) : ∃ N, novationlaw3_ShareCaps N a b c = some true := by
  refine ⟨5000000, ?_⟩
  obtain ⟨h1, h2, h3, _⟩ := h
  have h1 : (Lit.int .i64 a).wf = true := h1
  have h2 : WF (.slice (.int .i64)) b := h2
  have h3 : WF (.slice (.int .i64)) c := h3
  have h1 := wf_i64.1 h1
  have h2 := wfs_i64 h2
  have h3 := wfs_i64 h3
  unfold novationlaw3_ShareCaps
  rw [known_eq, Option.bind_some, Bool.not_true, cond_false]
  by_cases hl : 70 < b.length
  · rw [ltB_t (by omega), cond_true]
  by_cases hl' : 70 < c.length
  · rw [ltB_f (by omega), cond_false, ltB_t (by omega), cond_true]
  have l1 : ((cappedL a b c).1).length ≤ 1000000 := by
    unfold cappedL
    split
    · simp
    · split
      · simp
      · rw [run_len, List.length_replicate]; omega
  rw [ltB_f (by omega), cond_false, ltB_f (by omega), cond_false, Capped_eq 5000000 (by omega) (by omega) h2 h3 (by omega), Option.bind_some, rCapped_eq 5000000 (by omega) (by omega) h2 h3 (by omega), Option.bind_some, eqB_t rfl, cond_true, eqB_t rfl, cond_true, Ints_eq 5000000 l1 (by omega), Option.bind_some]
end Pure

theorem ones_sum (k : Nat) : (List.replicate k (1 : Int)).sum = k := by
  induction k with
  | zero => rfl
  | succ k ih => rw [List.replicate_succ, List.sum_cons, ih]; omega
theorem ones_at {k i : Nat} (h : i < k) : (List.replicate k (1 : Int)).getD i 0 = 1 := by
  rw [List.getD_eq_getElem?_getD, List.getElem?_replicate, if_pos h]; rfl
theorem ones_pos (k : Nat) : Pos (List.replicate k 1) := fun x hx => by rw [List.eq_of_mem_replicate hx]; omega

theorem equal_loop (N : Nat) {t : Int} (ht : 0 ≤ t) (ht1 : t < 9223372036854775808) {k : Nat} (hk : 0 < k) (hk1 : k ≤ 64) : ∀ (m n i : Nat), k - i ≤ m → m < n → i ≤ k → 0 < i →
    novationlaw3_ShareEqual.l8 N n (k : Int) (sharesL t (List.replicate k 1)) (i : Int) = some true
  | m, 0, i, _, hn, _, _ => by omega
  | m, n + 1, i, hm, hn, hi, h0 => by
    have hlen := shares_len t (List.replicate k 1)
    rw [List.length_replicate] at hlen
    have hS : 0 < (List.replicate k (1 : Int)).sum := by rw [ones_sum]; omega
    unfold novationlaw3_ShareEqual.l8 novationlaw3_ShareEqual.l8b
    by_cases h : i < k
    · have hm1 := shares_mono ht hS (k := i - 1) (i := i) (by omega) (by rw [List.length_replicate]; exact h) (by rw [ones_at h, ones_at (by omega)]; omega)
      have e : W .i64 ((i : Int) - 1) = ((i - 1 : Nat) : Int) := by rw [W_i64 (by omega) (by omega)]; omega
      dsimp only
      rw [ltB_t (by omega), cond_true, inb_t (by omega) (by omega), cond_true, e, inb_t (by omega) (by omega), cond_true, Int.toNat_natCast, Int.toNat_natCast, ltB_f (by omega), cond_false, W_i64 (by omega) (by omega)]
      exact equal_loop N ht ht1 hk hk1 (m - 1) n (i + 1) (by omega) (by omega) (by omega) (by omega)
    · have hp := shares_pos ht hS (ones_pos k)
      have hs := shares_sum ht hS
      have h1 := shares_near (t := t) (w := List.replicate k 1) (k := 0) (i := k - 1) (by rw [ones_at (by omega), ones_at hk])
      have h2 := le_sum hp 0
      have h3 := pos_getD hp 0
      have h4 := pos_getD hp (k - 1)
      have h5 := le_sum hp (k - 1)
      rw [hs] at h2 h5
      have e : W .i64 ((k : Int) - 1) = ((k - 1 : Nat) : Int) := by rw [W_i64 (by omega) (by omega)]; omega
      dsimp only
      rw [ltB_f (by omega), cond_false, inb_t (by omega) (by omega), cond_true, e, inb_t (by omega) (by omega), cond_true, Int.toNat_natCast, Int.toNat_zero, W_i64 (by omega) (by omega), leB_t (by omega), cond_true, cond_true, leB_t (by omega)]

theorem rem_pos {x y : Int} (hx : 0 ≤ x) (hy : 0 < y) : rem x y = x % y := by
  rw [rem_eq, Int.tmod_eq_emod_of_nonneg hx]

namespace Pure
theorem ShareEqual (a b : Int) (h : WFs [.int .u64, .int .u8] (a, b)) : ∃ N, novationlaw3_ShareEqual N a b = some true := by
  refine ⟨5000000, ?_⟩
  obtain ⟨h1, h2, _⟩ := h
  have h1 : (Lit.int .u64 a).wf = true := h1
  have h2 : (Lit.int .u8 b).wf = true := h2
  have h2 := wf_u8.1 h2
  obtain ⟨et, t0, t1⟩ := half_t h1
  unfold novationlaw3_ShareEqual novationlaw3_ShareEqual.b
  rw [known_eq, Option.bind_some, Bool.not_true, cond_false, ltB_f (by omega), cond_false, eqB_f (by omega), cond_false]
  dsimp only
  rw [et]
  generalize a / 2 = t at *
  obtain ⟨k, hk⟩ : ∃ k : Nat, (k : Int) = 1 + b % 64 := ⟨(1 + b % 64).toNat, by omega⟩
  have ek : W .i64 (1 + rem (W .i64 b) 64) = (k : Int) := by
    rw [W_i64 (x := b) (by omega) (by omega), rem_pos (by omega) (by omega), W_i64 (by omega) (by omega), hk]
  rw [ek]
  have hS : 0 < (List.replicate k (1 : Int)).sum := by rw [ones_sum]; omega
  have ee : evenL t k = (sharesL t (List.replicate k 1), 0) := by
    unfold evenL
    rw [if_neg (by omega), Int.toNat_natCast]
    unfold splitL
    have hm : may (List.replicate k 1) = true := may_iff.2 ⟨by rw [List.length_replicate]; omega, ones_pos k⟩
    rw [if_neg (by rw [hm]; simp; omega), ones_sum, if_neg (by omega), if_neg (by omega)]
  have hp := shares_pos t0 hS (ones_pos k)
  have hs := shares_sum t0 hS
  rw [Even_eq 5000000 (by omega) t1, Option.bind_some, ee]
  dsimp only
  have ft : Fit t 2 := Fit.i64 (by omega) (by omega)
  rw [eqB_t rfl, Bool.not_true, cond_false, shares_len, List.length_replicate, eqB_t rfl, Bool.not_true, cond_false, SumInts_eq 5000000 (by omega) (i64_of hp (by omega)) (by rw [shares_len, List.length_replicate]; omega), Option.bind_some, Whole_eq 5000000 (by omega) (by omega) t1, Option.bind_some, hs,
    Cmp_eq 5000000 (by omega) (ft.mono (by omega)) (ft.mono (by omega)), Option.bind_some, Int.sub_self, show sgn 0 = 0 from rfl, eqB_t rfl, Bool.not_true, cond_false]
  exact equal_loop 5000000 t0 t1 (by omega) (by omega) k 5000000 1 (by omega) (by omega) (by omega) (by omega)
end Pure
end VM
end

section
/- Plain laws: shares by given weights. -/
set_option linter.unusedSimpArgs false
set_option linter.unusedVariables false
namespace VM
open Go VM.F

def weightsL (l : List Int) : List Int := tabL (min l.length 20) fun i => l.getD i 0 % 1000 * (l.getD i 0 / 1048576)
theorem shr20 {x : Int} (h0 : 0 ≤ x) : shr .u32 x 20 = x / 1048576 := by
  rw [shr_eq, Int.fdiv_eq_ediv_of_nonneg _ (by decide)]; rfl
theorem tab_snoc (n : Nat) (f : Nat → Int) : tabL (n + 1) f = tabL n f ++ [f n] := by
  unfold tabL; rw [List.range_succ, List.map_append]; rfl
theorem weight_one {x : Int} (h0 : 0 ≤ x) (h1 : x < 4294967296) : 0 ≤ x % 1000 * (x / 1048576) ∧ x % 1000 * (x / 1048576) ≤ 4095000 := by
  have := mul_lt (a := x % 1000) (b := x / 1048576) (m := 1000) (n := 4095) (by omega) (by omega) (by omega) (by omega)
  omega
theorem weights_loop (N : Nat) {l : List Int} (hu : ∀ i, 0 ≤ l.getD i 0 ∧ l.getD i 0 < 4294967296) : ∀ (m n i : Nat), 20 - i ≤ m → m < n → i ≤ l.length → i ≤ 20 →
    novationlaw3_weights.l3 N n l (tabL i fun i => l.getD i 0 % 1000 * (l.getD i 0 / 1048576)) (i : Int) = some (weightsL l)
  | m, 0, i, _, hn, _, _ => by omega
  | m, n + 1, i, hm, hn, hi, hi' => by
    unfold novationlaw3_weights.l3 novationlaw3_weights.l3b
    by_cases h : i < l.length
    · rw [ltB_t (by omega), cond_true]
      by_cases h2 : i < 20
      · obtain ⟨u0, u1⟩ := hu i
        have hw := weight_one u0 u1
        dsimp only
        rw [ltB_t (by omega), cond_true, inb_t (by omega) (by omega), cond_true, eqB_f (by omega), cond_false, cond_true, ltB_f (by omega), cond_false, Int.toNat_natCast, small_t (by rw [tab_len, List.length_singleton]; omega), cond_true, rem_pos u0 (by omega), shr20 u0, W_i64 (x := l.getD i 0 % 1000) (by omega) (by omega), W_i64 (x := l.getD i 0 / 1048576) (by omega) (by omega),
          W_i64 (x := _ * _) (by omega) (by omega), W_i64 (by omega) (by omega)]
        have := weights_loop N hu (m - 1) n (i + 1) (by omega) (by omega) (by omega) (by omega)
        rw [tab_snoc] at this
        exact this
      · rw [ltB_f (by omega), cond_false]; unfold weightsL; rw [Nat.min_eq_right (by omega), show i = 20 by omega]
    · rw [ltB_f (by omega), cond_false]; unfold weightsL; rw [Nat.min_eq_left (by omega), show i = l.length by omega]
theorem weights_eq (N : Nat) (hN : 1000 ≤ N) {l : List Int} (hu : ∀ i, 0 ≤ l.getD i 0 ∧ l.getD i 0 < 4294967296) : novationlaw3_weights N l = some (weightsL l) := by
  unfold novationlaw3_weights novationlaw3_weights.b
  exact weights_loop N hu 20 N 0 (by omega) (by omega) (by omega) (by omega)
theorem weightsL_len (l : List Int) : (weightsL l).length ≤ 20 := by unfold weightsL; rw [tab_len]; omega
theorem weightsL_at {l : List Int} (hu : ∀ i, 0 ≤ l.getD i 0 ∧ l.getD i 0 < 4294967296) (i : Nat) : 0 ≤ (weightsL l).getD i 0 ∧ (weightsL l).getD i 0 ≤ 4095000 := by
  unfold weightsL; rw [tab_at']; split
  · exact weight_one (hu i).1 (hu i).2
  · omega
theorem weightsL_pos {l : List Int} (hu : ∀ i, 0 ≤ l.getD i 0 ∧ l.getD i 0 < 4294967296) : Pos (weightsL l) := pos_of_getD (fun i _ => (weightsL_at hu i).1)
theorem sum_le_len : ∀ {l : List Int} {c : Int}, (∀ i, i < l.length → l.getD i 0 ≤ c) → l.sum ≤ l.length * c
  | [], _, _ => by simp
  | x :: l, c, h => by
    have := sum_le_len (l := l) (c := c) (fun i hi => by have := h (i + 1) (by simpa using hi); simpa using this)
    have h2 : x ≤ c := by have := h 0 (by simp); simpa using this
    rw [List.sum_cons, List.length_cons, Int.natCast_add, Int.add_mul]; simp; omega
theorem weightsL_sum {l : List Int} (hu : ∀ i, 0 ≤ l.getD i 0 ∧ l.getD i 0 < 4294967296) : (weightsL l).sum ≤ 81900000 := by
  have h1 := sum_le_len (l := weightsL l) (c := 4095000) (fun i _ => (weightsL_at hu i).2)
  have := weightsL_len l
  omega
theorem two_sum {a : List Int} (h : Pos a) {k i : Nat} (hki : k ≠ i) : a.getD k 0 + a.getD i 0 ≤ a.sum := by
  by_cases hk : k < a.length
  · have := le_sum (pos_set h (show (0 : Int) ≤ 0 by omega) k) i
    rw [set_sum a k 0 hk, getD_set_ne a 0 hki] at this
    omega
  · rw [getD_ge a (by omega)]; have := le_sum h i; omega

theorem total_in (N : Nat) (K : List Int → Int → Ty.den tBig → List Int → Int → Option Bool) {t : Int} (ht : 0 ≤ t) (ht1 : t < 9223372036854775808) {w : List Int} (hw : Pos w) (hl : w.length ≤ 64) (hS : 0 < w.sum) (S : Ty.den tBig) (j : Nat) (hj : j < w.length) :
    ∀ (m n i : Nat), j - i ≤ m → m < n → i ≤ j → novationlaw3_ShareTotal.l17 N K n w t S (sharesL t w) (j : Int) (i : Int) = K w t S (sharesL t w) ((j + 1 : Nat) : Int)
  | m, 0, i, _, hn, _ => by omega
  | m, n + 1, i, hm, hn, hi => by
    have hlen := shares_len t w
    unfold novationlaw3_ShareTotal.l17 novationlaw3_ShareTotal.l17b
    by_cases h : i < j
    · have hp := shares_pos ht hS hw
      have h1 := shares_mono ht hS h hj
      have h2 := shares_near (t := t) (w := w) (k := i) (i := j)
      have h3 := two_sum hp (k := i) (i := j) (by omega)
      rw [shares_sum ht hS] at h3
      have h4 := pos_getD hp i
      have h5 := pos_getD hp j
      have hrec := total_in N K ht ht1 hw hl hS S j hj (m - 1) n (i + 1) (by omega) (by omega) (by omega)
      rw [ltB_t (by omega), cond_true, inb_t (by omega) (by omega), cond_true, inb_t (by omega) (by omega), cond_true, inb_t (by omega) (by omega), cond_true, inb_t (by omega) (by omega), cond_true, Int.toNat_natCast, Int.toNat_natCast, W_i64 (x := (i : Int) + 1) (by omega) (by omega)]
      by_cases hlt : w.getD j 0 < w.getD i 0
      · rw [ltB_t hlt, cond_true, ltB_f (h1 (by omega)), cond_false, cond_true, cond_true, eqB_f (by omega), cond_false]
        exact hrec
      · rw [ltB_f (by omega), cond_false, cond_true, cond_true]
        by_cases he : w.getD i 0 = w.getD j 0
        · have h1 := h1 (by omega)
          have h2 := h2 he.symm
          rw [eqB_t he, cond_true, ltB_f h1, cond_true, cond_true, cond_false, cond_true, cond_true, W_i64 (by omega) (by omega), ltB_f h2, cond_false]
          exact hrec
        · rw [eqB_f he, cond_false]
          exact hrec
    · rw [ltB_f (by omega), cond_false, W_i64 (by omega) (by omega)]; rfl

theorem total_out (N : Nat) (hN : 5000000 ≤ N) {t : Int} (ht : 0 ≤ t) (ht1 : t < 9223372036854775808) {w : List Int} (hw : Pos w) (hl : w.length ≤ 64) (hS : 0 < w.sum) (hS1 : w.sum < 9223372036854775808) :
    ∀ (m n j : Nat), w.length - j ≤ m → m < n → j ≤ w.length → novationlaw3_ShareTotal.l11 N n w t (bigN w.sum) (sharesL t w) (j : Int) = some true
  | m, 0, j, _, hn, _ => by omega
  | m, n + 1, j, hm, hn, hj => by
    have hlen := shares_len t w
    unfold novationlaw3_ShareTotal.l11 novationlaw3_ShareTotal.l11b
    by_cases h : j < w.length
    · have hp := shares_pos ht hS hw
      have h2 := le_sum hp j
      rw [shares_sum ht hS] at h2
      have h3 := pos_getD hp j
      have h4 := le_sum hw j
      have h5 := pos_getD hw j
      have ft : Fit t 2 := Fit.i64 (by omega) (by omega)
      have fS : Fit w.sum 2 := Fit.i64 (by omega) (by omega)
      have fa : Fit ((sharesL t w).getD j 0) 2 := Fit.i64 (by omega) (by omega)
      have fw : Fit (w.getD j 0) 2 := Fit.i64 (by omega) (by omega)
      have fx := (fa.mul fS).mono (show 2 + 2 ≤ 900000 by omega)
      have fy := (ft.mul fw).mono (show 2 + 2 ≤ 900000 by omega)
      have off := shares_off ht hS (t := t) (w := w) j
      have fo : Fit ((sharesL t w).getD j 0 * w.sum - t * w.getD j 0) 2 := fS.of_le (by omega)
      have fo' : Fit (((sharesL t w).getD j 0 * w.sum - t * w.getD j 0).natAbs : Int) 2 := fS.of_le (by omega)
      rw [ltB_t (by omega), cond_true, inb_t (by omega) (by omega), cond_true, Int.toNat_natCast, Whole_eq N (by omega) (by omega) (by omega), Option.bind_some, Times_eq N (by omega) (fa.mono (by omega)) (fS.mono (by omega)), Option.bind_some, Whole_eq N (by omega) (by omega) ht1, Option.bind_some, inb_t (by omega) (by omega), cond_true,
        Whole_eq N (by omega) (by omega) (by omega), Option.bind_some, Times_eq N (by omega) (ft.mono (by omega)) (fw.mono (by omega)), Option.bind_some, Less_eq N (by omega) fx fy, Option.bind_some, Sized_eq N (by omega) (fo.mono (by omega)), Option.bind_some, cond_true, ltB_f h3, cond_false, Cmp_eq N (by omega) (fo'.mono (by omega)) (fS.mono (by omega)), Option.bind_some]
      rw [leB_f (show sgn _ < 0 by unfold sgn; repeat' split <;> omega), cond_false]
      refine (total_in N _ ht ht1 hw hl hS _ j h j N 0 (by omega) (by omega) (by omega)).trans ?_
      exact total_out N hN ht ht1 hw hl hS hS1 (m - 1) n (j + 1) (by omega) (by omega) (by omega)
    · rw [ltB_f (by omega), cond_false]

theorem full_loop (N : Nat) (hN : 5000000 ≤ N) {t left : Int} {w caps a : List Int} (f : Full t w caps a left) (S : Int) (hS : S = t) :
    ∀ (m n i : Nat), w.length - i ≤ m → m < n → i ≤ w.length → novationlaw3_ShareFull.l16 N n w caps t a left (bigN S) (i : Int) = some true
  | m, 0, i, _, hn, _ => by omega
  | m, n + 1, i, hm, hn, hi => by
    have c := f.c
    have n64 := c.n
    have e1 := c.l1
    have e2 := c.l2
    have hl := cap_left c
    have hl0 := c.l
    have ht1 := c.t1
    unfold novationlaw3_ShareFull.l16 novationlaw3_ShareFull.l16b
    by_cases h : i < w.length
    · have h1 := c.po i
      have h2 := c.le i h
      have h3 := c.z i
      have h4 := pos_getD c.pw i
      have h5 : left = 0 ∨ ¬ (0 < w.getD i 0 ∧ a.getD i 0 < caps.getD i 0) := f.f.imp id (fun g => g i h)
      have hrec := full_loop N hN f S hS (m - 1) n (i + 1) (by omega) (by omega) (by omega)
      rw [ltB_t (by omega), cond_true, inb_t (by omega) (by omega), cond_true, Int.toNat_natCast, ltB_f h1, cond_false, cond_true, inb_t (by omega) (by omega), cond_true, ltB_f h2, cond_false, inb_t (by omega) (by omega), cond_true, W_i64 (x := (i : Int) + 1) (by omega) (by omega)]
      by_cases h6 : w.getD i 0 = 0
      · have h3 := h3 h6
        rw [eqB_t h6, cond_true, cond_true, eqB_t h3, Bool.not_true, cond_false]
        by_cases h7 : 0 < left
        · rw [ltB_t h7, cond_true, cond_true, ltB_f (by omega), cond_false]; exact hrec
        · rw [ltB_f (by omega), cond_false]; exact hrec
      · rw [eqB_f h6, cond_false]
        by_cases h7 : 0 < left
        · rw [ltB_t h7, cond_true, cond_true, ltB_t (by omega), cond_true, cond_true, cond_true, eqB_t (by omega), Bool.not_true, cond_false]; exact hrec
        · rw [ltB_f (by omega), cond_false]; exact hrec
    · have ft : Fit t 2 := Fit.i64 (by omega) (by omega)
      rw [ltB_f (by omega), cond_false, Whole_eq N (by omega) (by omega) ht1, Option.bind_some, hS, Cmp_eq N (by omega) (ft.mono (by omega)) (ft.mono (by omega)), Option.bind_some, Int.sub_self, show sgn 0 = 0 from rfl, eqB_t rfl]

def mostL (n : Nat) (c : List Int) : List Int := tabL n fun i => if i < c.length then c.getD i 0 else 7
theorem most_at {c : List Int} (hu : ∀ i, 0 ≤ c.getD i 0 ∧ c.getD i 0 < 4294967296) (n i : Nat) : 0 ≤ (mostL n c).getD i 0 ∧ (mostL n c).getD i 0 < 4294967296 := by
  unfold mostL; rw [tab_at']; split
  · split
    · exact hu i
    · omega
  · omega

theorem most_loop (N : Nat) (hN : 5000000 ≤ N) {t : Int} (ht : 0 ≤ t) (ht1 : t < 9223372036854775808) {w c : List Int} (hw : Pos w) (hl : w.length ≤ 64) (hS1 : w.sum < 1000000000) (hu : ∀ i, 0 ≤ c.getD i 0 ∧ c.getD i 0 < 4294967296) :
    ∀ (m n i : Nat), w.length - i ≤ m → m < n → i ≤ w.length → novationlaw3_ShareFull.l5 N n c w (mostL i c) t (i : Int) = some true
  | m, 0, i, _, hn, _ => by omega
  | m, n + 1, i, hm, hn, hi => by
    unfold novationlaw3_ShareFull.l5 novationlaw3_ShareFull.l5b
    by_cases h : i < w.length
    · have hrec := most_loop N hN ht ht1 hw hl hS1 hu (m - 1) n (i + 1) (by omega) (by omega) (by omega)
      unfold mostL at hrec
      rw [tab_snoc] at hrec
      have hml : (mostL i c).length = i := tab_len ..
      rw [ltB_t (by omega), cond_true, W_i64 (x := (i : Int) + 1) (by omega) (by omega)]
      by_cases h1 : i < c.length
      · have hui := hu i
        rw [if_pos h1] at hrec
        dsimp only
        rw [ltB_t (by omega), cond_true, inb_t (by omega) (by omega), cond_true, Int.toNat_natCast, small_t (by rw [hml, List.length_singleton]; omega), cond_true, W_i64 (by omega) (by omega)]
        exact hrec
      · rw [if_neg h1] at hrec
        rw [ltB_f (by omega), cond_false, small_t (by rw [hml, List.length_singleton]; omega), cond_true]
        exact hrec
    · have hi' : i = w.length := by omega
      subst hi'
      have hml : (mostL w.length c).length = w.length := tab_len ..
      have hmp : Pos (mostL w.length c) := pos_of_getD (fun i _ => (most_at hu w.length i).1)
      have hmi : I64 (mostL w.length c) := fun x hx => by
        have h0 := hmp x hx
        obtain ⟨i, hi, rfl⟩ := List.mem_iff_getElem.1 hx
        have := (most_at hu w.length i).2
        rw [List.getD_eq_getElem?_getD, List.getElem?_eq_getElem hi] at this
        simp only [Option.getD_some] at this
        omega
      have hmw : may w = true := may_iff.2 ⟨hl, hw⟩
      have hmm : may (mostL w.length c) = true := may_iff.2 ⟨by omega, hmp⟩
      have ec : cappedL t w (mostL w.length c) = ((capRun w (mostL w.length c) (w.length + 1) (List.replicate w.length 0) t).1, (capRun w (mostL w.length c) (w.length + 1) (List.replicate w.length 0) t).2, 0) := by
        unfold cappedL
        rw [if_neg (by rw [hmw, hmm]; simp; omega), if_neg (by omega)]
      have ho := opens_le w (mostL w.length c) (List.replicate w.length 0)
      have full := run_full (w.length + 1) _ _ (cap_start ht ht1 hmw hmm hml hmi (by omega)) (.inl (by omega))
      generalize hR : capRun w (mostL w.length c) (w.length + 1) (List.replicate w.length 0) t = R at *
      have cc := full.c
      have hll := cap_left cc
      have hl0 := cc.l
      have hlR := cc.l2
      have hpR : Pos R.1 := pos_of_getD (fun i _ => cc.po i)
      have hsR := cc.s
      have hs0 := pos_sum hpR
      rw [ltB_f (by omega), cond_false, Capped_eq N hN ht1 (i64_of hw (by omega)) hmi (by omega), Option.bind_some, ec]
      dsimp only
      have f1 : Fit R.1.sum 2 := Fit.i64 (by omega) (by omega)
      have f2 : Fit R.2 2 := Fit.i64 (by omega) (by omega)
      rw [eqB_t rfl, Bool.not_true, cond_false, eqB_t (by omega), Bool.not_true, cond_false, ltB_f hl0, cond_false, SumInts_eq N (by omega) (i64_of hpR (by omega)) (by omega), Option.bind_some, Whole_eq N (by omega) (by omega) (by omega), Option.bind_some, Plus_eq N (by omega) (f1.mono (by omega)) (f2.mono (by omega)), Option.bind_some]
      exact full_loop N hN full _ hsR w.length N 0 (by omega) (by omega) (by omega)

namespace Pure
theorem ShareTotal (a : Int) (b : List Int) (h : WFs [.int .u64, .slice (.int .u32)] (a, b)) : ∃ N, novationlaw3_ShareTotal N a b = some true := by
  refine ⟨5000000, ?_⟩
  obtain ⟨h1, h2, _⟩ := h
  have h1 : (Lit.int .u64 a).wf = true := h1
  have h2 : WF (.slice (.int .u32)) b := h2
  have hu := wfs_u32 h2
  obtain ⟨et, t0, t1⟩ := half_t h1
  unfold novationlaw3_ShareTotal novationlaw3_ShareTotal.b
  rw [known_eq, Option.bind_some, Bool.not_true, cond_false, weights_eq 5000000 (by omega) hu, Option.bind_some, ltB_f (by omega), cond_false]
  dsimp only
  rw [et]
  generalize a / 2 = t at *
  have hw := weightsL_pos hu
  have hl := weightsL_len b
  have hs := weightsL_sum hu
  generalize weightsL b = w at *
  have hs0 := pos_sum hw
  have hm : may w = true := may_iff.2 ⟨by omega, hw⟩
  have hi := i64_of hw (by omega)
  rw [SumInts_eq 5000000 (by omega) hi (by omega), Option.bind_some, Split_eq 5000000 (by omega) t1 hi (by omega), Option.bind_some, Sign_eq, Option.bind_some]
  unfold splitL
  rw [if_neg (by rw [hm]; simp; omega), if_neg (by omega)]
  by_cases hz : w.sum = 0
  · rw [if_pos hz, hz, show sgn 0 = 0 from rfl, eqB_t (show (0 : Int) = 0 from rfl), cond_true]
    by_cases ht : t = 0
    · rw [if_pos ht]
      dsimp only
      rw [eqB_f (show (0 : Int) ≠ 1 by omega), cond_false, eqB_t (show (0 : Int) = 0 from rfl), cond_true, eqB_t ht, cond_true, List.length_replicate, eqB_t rfl]
    · rw [if_neg ht]
      dsimp only
      rw [eqB_t (show (1 : Int) = 1 from rfl), cond_true, eqB_f ht, Bool.not_false, cond_true]
  · have hS : 0 < w.sum := by omega
    rw [if_neg hz, eqB_f (show sgn w.sum ≠ 0 by unfold sgn; repeat' split <;> omega), cond_false]
    dsimp only
    have ft : Fit t 2 := Fit.i64 (by omega) (by omega)
    have hp := shares_pos t0 hS hw
    have hsu := shares_sum t0 hS
    rw [eqB_t rfl, Bool.not_true, cond_false, shares_len, eqB_t rfl, Bool.not_true, cond_false, SumInts_eq 5000000 (by omega) (i64_of hp (by omega)) (by rw [shares_len]; omega), Option.bind_some, Whole_eq 5000000 (by omega) (by omega) t1, Option.bind_some, hsu,
      Cmp_eq 5000000 (by omega) (ft.mono (by omega)) (ft.mono (by omega)), Option.bind_some, Int.sub_self, show sgn 0 = 0 from rfl, eqB_t rfl, Bool.not_true, cond_false]
    exact total_out 5000000 (by omega) t0 t1 hw (by omega) hS (by omega) w.length 5000000 0 (by omega) (by omega) (by omega)

theorem ShareFull (a : Int) (b c : List Int) (h : WFs [.int .u64, .slice (.int .u32), .slice (.int .u32)] (a, b, c)) : ∃ N, novationlaw3_ShareFull N a b c = some true := by
  refine ⟨5000000, ?_⟩
  obtain ⟨h1, h2, h3, _⟩ := h
  have h1 : (Lit.int .u64 a).wf = true := h1
  have h2 : WF (.slice (.int .u32)) b := h2
  have h3 : WF (.slice (.int .u32)) c := h3
  have hu := wfs_u32 h2
  have hc := wfs_u32 h3
  obtain ⟨et, t0, t1⟩ := half_t h1
  unfold novationlaw3_ShareFull novationlaw3_ShareFull.b
  rw [known_eq, Option.bind_some, Bool.not_true, cond_false, weights_eq 5000000 (by omega) hu, Option.bind_some, ltB_f (by omega), cond_false, et]
  have hl := weightsL_len b
  have hs := weightsL_sum hu
  exact most_loop 5000000 (by omega) t0 t1 (weightsL_pos hu) (by omega) (by omega) hc 20 5000000 0 (by omega) (by omega) (by omega)
end Pure
end VM
end

