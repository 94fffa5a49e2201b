/- A part of the proof of HedgeAll of layer 22: a machine that reads a function of the program as an equation between values. -/
import Derived.Test.YthpchkeghefokaaGreatVm4
set_option linter.all false
section
/- The value machine: what an operation comes to hangs only on what it looks at. -/
namespace VM
open Go
variable {α : Type} {r : α}

theorem castK_pt {υ τ : Ty} {y : υ.den} {k : τ.den → Option α} (h : castK υ τ y k = some r) : ∃ z, k z = some r ∧ ∀ k' : τ.den → Option α, castK υ τ y k' = k' z := by
  obtain ⟨e, h⟩ := castK_inv h
  subst e
  exact ⟨y, h, fun k' => by simp [castK]⟩
theorem sameK_pt {υ τ : Ty} {k : Option α} (h : sameK υ τ k = some r) : k = some r ∧ ∀ k' : Option α, sameK υ τ k' = k' := by
  obtain ⟨e, h1⟩ := sameK_inv h
  clear h
  subst e
  exact ⟨h1, fun k' => by simp [sameK]⟩
theorem cond_pt {b : Bool} {K : Option α} (h : cond b K none = some r) : K = some r ∧ ∀ K' : Option α, cond b K' none = K' := by
  obtain ⟨rfl, h⟩ := cond_inv h
  exact ⟨h, fun _ => rfl⟩
theorem condn_pt {b : Bool} {K : Option α} (h : cond b none K = some r) : K = some r ∧ ∀ K' : Option α, cond b none K' = K' := by
  obtain ⟨rfl, h⟩ := cond_inv' h
  exact ⟨h, fun _ => rfl⟩
theorem fldK_pt : ∀ {τ : Ty} {x : τ.den} {n : Nat} {k : (υ : Ty) → υ.den → Option α}, fldK τ x n k = some r → ∃ υ y, k υ y = some r ∧ ∀ k' : (υ : Ty) → υ.den → Option α, fldK τ x n k' = k' υ y
  | .pair a b, x, 0, k, h => ⟨a, x.1, h, fun _ => rfl⟩
  | .pair a b, x, n + 1, k, h => by
    obtain ⟨υ, y, h1, h2⟩ := fldK_pt (τ := b) (x := x.2) (n := n) (k := k) h
    exact ⟨υ, y, h1, fun k' => h2 k'⟩
  | .int _, _, _, _, h | .bool, _, _, _, h | .str, _, _, _, h | .slice _, _, _, _, h | .unit, _, _, _, h | .arr _ _, _, _, _, h => by simp [fldK] at h
theorem setFldK_pt : ∀ {τ : Ty} {x : τ.den} {n : Nat} {m : (υ : Ty) → υ.den → (υ.den → Option α) → Option α} {k : τ.den → Option α},
    (∀ υ y (k : υ.den → Option α), m υ y k = some r → ∃ z, k z = some r ∧ ∀ k' : υ.den → Option α, m υ y k' = k' z) → setFldK τ x n m k = some r → ∃ z, k z = some r ∧ ∀ k' : τ.den → Option α, setFldK τ x n m k' = k' z
  | .pair a b, x, 0, m, k, hm, h => by
    obtain ⟨z, h1, h2⟩ := hm a x.1 _ h
    exact ⟨(z, x.2), h1, fun k' => h2 _⟩
  | .pair a b, x, n + 1, m, k, hm, h => by
    obtain ⟨z, h1, h2⟩ := setFldK_pt (τ := b) (x := x.2) (n := n) (m := m) (k := fun z => k (x.1, z)) hm h
    exact ⟨(x.1, z), h1, fun k' => h2 (fun z => k' (x.1, z))⟩
  | .int _, _, _, _, _, _, h | .bool, _, _, _, _, _, h | .str, _, _, _, _, _, h | .slice _, _, _, _, _, _, h | .unit, _, _, _, _, _, h | .arr _ _, _, _, _, _, _, h => by simp [setFldK] at h
theorem getP_pt : ∀ {p : List Step} {τ : Ty} {x : τ.den} {k : (υ : Ty) → υ.den → Option α}, getP p τ x k = some r → ∃ υ y, k υ y = some r ∧ ∀ k' : (υ : Ty) → υ.den → Option α, getP p τ x k' = k' υ y
  | [], τ, x, k, h => ⟨τ, x, h, fun _ => rfl⟩
  | .fld n :: p, τ, x, k, h => by
    obtain ⟨υ, y, h1, h2⟩ := fldK_pt (h : fldK τ x n _ = some r)
    obtain ⟨υ', y', h3, h4⟩ := getP_pt h1
    exact ⟨υ', y', h3, fun k' => (h2 _).trans (h4 k')⟩
  | .idx i :: p, τ, x, k, h => by
    cases τ with
    | arr n e =>
      obtain ⟨υ', y', h3, h4⟩ := getP_pt (p := p) (τ := e) (x := List.getD x i e.zero) (k := k) h
      exact ⟨υ', y', h3, fun k' => h4 k'⟩
    | _ => simp [getP, idxK] at h
theorem setP_pt {υ : Ty} {y : υ.den} : ∀ {p : List Step} {τ : Ty} {x : τ.den} {k : τ.den → Option α}, setP υ y p τ x k = some r → ∃ z, k z = some r ∧ ∀ k' : τ.den → Option α, setP υ y p τ x k' = k' z
  | [], τ, x, k, h => castK_pt h
  | .fld n :: p, τ, x, k, h => setFldK_pt (fun _ _ _ h => setP_pt h) h
  | .idx i :: p, τ, x, k, h => by
    cases τ with
    | arr n e =>
      obtain ⟨z, h1, h2⟩ := setP_pt (p := p) (τ := e) (x := List.getD x i e.zero) (k := fun z => k (List.set x i z)) h
      exact ⟨_, h1, fun k' => h2 (fun z => k' (List.set x i z))⟩
    | _ => simp [setP, setIdxK] at h
theorem intK_pt {a : AVal} {k : IntKind → Int → Option α} (h : intK a k = some r) : ∃ i n, k i n = some r ∧ ∀ k' : IntKind → Int → Option α, intK a k' = k' i n := by
  obtain ⟨i, n, rfl, h⟩ := intK_inv h
  exact ⟨i, n, h, fun _ => rfl⟩
theorem valK_pt {a : AVal} {k : (τ : Ty) → τ.den → Option α} (h : valK a k = some r) : ∃ τ x, k τ x = some r ∧ ∀ k' : (τ : Ty) → τ.den → Option α, valK a k' = k' τ x := by
  unfold valK at h
  split at h
  · exact ⟨_, _, h, fun _ => rfl⟩
  · cases h
theorem optK_pt {a : Option AVal} {d : Int} {k : Int → Option α} (h : optK a d k = some r) : ∃ n, k n = some r ∧ ∀ k' : Int → Option α, optK a d k' = k' n := by
  cases a with
  | none => exact ⟨d, h, fun _ => rfl⟩
  | some a =>
    obtain ⟨i, n, h1, h2⟩ := intK_pt (h : intK a (fun _ x => k x) = some r)
    exact ⟨n, h1, fun k' => h2 (fun _ x => k' x)⟩

/-- Two rows of entries are the same where one looks. -/
abbrev Ag (rd : List Nat) (H H' : Nat → Option Ent) : Prop := ∀ i ∈ rd, H' i = H i

theorem asVK_pt {fz : Bool} {a : AVal} {H : Nat → Option Ent} {τ : Ty} {k : τ.den → List Nat → Ups → Option α} (h : asVK fz a H τ k = some r) :
    ∃ y rd ups, k y rd ups = some r ∧ ∀ H', Ag rd H H' → ∀ k' : τ.den → List Nat → Ups → Option α, asVK fz a H' τ k' = k' y rd ups := by
  cases a with
  | val υ x =>
    simp only [asVK] at h
    obtain ⟨z, h1, h2⟩ := castK_pt h
    refine ⟨z, [], [], h1, fun H' _ k' => ?_⟩
    simp only [asVK]
    exact h2 (fun y => k' y [] [])
  | nval υ x n =>
    simp only [asVK] at h
    obtain ⟨z, h1, h2⟩ := castK_pt h
    refine ⟨z, [], [], h1, fun H' _ k' => ?_⟩
    simp only [asVK]
    exact h2 (fun y => k' y [] [])
  | emp =>
    cases τ with
    | slice e => exact ⟨[], [], [], h, fun _ _ _ => rfl⟩
    | _ => cases h
  | ref id =>
    have h : (match H id with
      | some (.own e l) => castK (.slice e) τ l fun y => k y [id] (cond fz [(id, some (.frz e l))] [])
      | some (.frz e l) => castK (.slice e) τ l fun y => k y [id] []
      | _ => none) = some r := h
    cases hH : H id with
    | none => rw [hH] at h; cases h
    | some e =>
      rw [hH] at h
      cases e with
      | own e l =>
        obtain ⟨z, h1, h2⟩ := castK_pt (h : castK (.slice e) τ l _ = some r)
        refine ⟨z, _, _, h1, fun H' hA k' => ?_⟩
        have : H' id = some (.own e l) := by rw [hA id (by simp), hH]
        show (match H' id with
          | some (.own e l) => castK (.slice e) τ l fun y => k' y [id] (cond fz [(id, some (.frz e l))] [])
          | some (.frz e l) => castK (.slice e) τ l fun y => k' y [id] []
          | _ => none) = _
        rw [this]; exact h2 _
      | frz e l =>
        obtain ⟨z, h1, h2⟩ := castK_pt (h : castK (.slice e) τ l _ = some r)
        refine ⟨z, _, _, h1, fun H' hA k' => ?_⟩
        have : H' id = some (.frz e l) := by rw [hA id (by simp), hH]
        show (match H' id with
          | some (.own e l) => castK (.slice e) τ l fun y => k' y [id] (cond fz [(id, some (.frz e l))] [])
          | some (.frz e l) => castK (.slice e) τ l fun y => k' y [id] []
          | _ => none) = _
        rw [this]; exact h2 _
      | obj _ _ => cases h
      | lnk _ _ _ _ => cases h
      | gone => cases h
  | any | und | adr _ _ | iadr _ _ | tup _ | clo _ _ => cases h

theorem placeK_pt {id : Nat} {p : List Step} {H : Nat → Option Ent} {k : Ty → Option α} (h : placeK id p H k = some r) : ∃ υ, k υ = some r ∧ ∀ H', H' id = H id → ∀ k' : Ty → Option α, placeK id p H' k' = k' υ := by
  unfold placeK at h
  split at h
  · rename_i τ x hid
    obtain ⟨υ, y, h1, h2⟩ := getP_pt h
    exact ⟨υ, h1, fun H' hA k' => by unfold placeK; rw [hA, hid]; exact h2 _⟩
  · rename_i τ x _ _ hid
    obtain ⟨υ, y, h1, h2⟩ := getP_pt h
    exact ⟨υ, h1, fun H' hA k' => by unfold placeK; rw [hA, hid]; exact h2 _⟩
  · rename_i e l hid
    split at h
    · obtain ⟨υ, y, h1, h2⟩ := getP_pt h
      exact ⟨υ, h1, fun H' hA k' => by unfold placeK; rw [hA, hid]; exact h2 _⟩
    · cases h
  · rename_i e l hid
    split at h
    · obtain ⟨υ, y, h1, h2⟩ := getP_pt h
      exact ⟨υ, h1, fun H' hA k' => by unfold placeK; rw [hA, hid]; exact h2 _⟩
    · cases h
  · cases h

theorem newK_pt {H : Nat → Option Ent} {id : Nat} {e : Ent} {K : Option α} (h : newK H id e K = some r) : K = some r ∧ ∀ H', H' id = H id → ∀ (e' : Ent) (K' : Option α), newK H' id e' K' = K' := by
  obtain ⟨h1, h2⟩ := newK_inv h
  exact ⟨h2, fun H' hA e' K' => by unfold newK; rw [hA, h1]⟩

theorem arithK_pt {b : BinOp} {k : IntKind} {x y : Int} {K : AVal → Option α} (h : arithK b k x y K = some r) : ∃ v, K v = some r ∧ ∀ K' : AVal → Option α, arithK b k x y K' = K' v := by
  cases b <;> simp only [arithK] at h ⊢ <;> first
    | exact ⟨_, h, fun _ => rfl⟩
    | (obtain ⟨h1, h2⟩ := condn_pt h; exact ⟨_, h1, fun _ => h2 _⟩)
    | cases h

theorem shK_pt {b : BinOp} {k : IntKind} {x y : Int} {K : AVal → Option α} (h : shK b k x y K = some r) : ∃ v, K v = some r ∧ ∀ K' : AVal → Option α, shK b k x y K' = K' v := by
  cases b <;> simp only [shK] at h ⊢ <;> first
    | (obtain ⟨h1, h2⟩ := condn_pt h; exact ⟨_, h1, fun _ => h2 _⟩)
    | cases h

theorem binVK_pt {t : Option Ty} {op : BinOp} {τ : Ty} {x : τ.den} {υ : Ty} {y : υ.den} {K : AVal → Option α} (h : binVK t op τ x υ y K = some r) : ∃ v, K v = some r ∧ ∀ K' : AVal → Option α, binVK t op τ x υ y K' = K' v := by
  unfold binVK at h ⊢
  split at h
  · rename_i k x k' y
    cases hs : isSh op
    · rw [hs] at h
      have h : (if k = k' then arithK op k x y K else none) = some r := h
      by_cases hk : k = k'
      · rw [if_pos hk] at h
        obtain ⟨v, h1, h2⟩ := arithK_pt h
        exact ⟨v, h1, fun K' => by simp only [cond_false, if_pos hk]; exact h2 K'⟩
      · rw [if_neg hk] at h; cases h
    · rw [hs] at h
      obtain ⟨v, h1, h2⟩ := shK_pt (h : shK op k x y K = some r)
      exact ⟨v, h1, fun K' => by simp only [cond_true]; exact h2 K'⟩
  · split at h
    · cases h
    · obtain ⟨h1, h2⟩ := sameK_pt h
      obtain ⟨h3, h4⟩ := cond_pt h1
      split at h3
      · obtain ⟨z, h5, h6⟩ := castK_pt h3
        exact ⟨_, h5, fun K' => by rw [h2, h4]; exact h6 _⟩
      · obtain ⟨z, h5, h6⟩ := castK_pt h3
        exact ⟨_, h5, fun K' => by rw [h2, h4]; exact h6 _⟩
      · cases h3

theorem unVK_pt {u : UnOp} {a : AVal} {K : AVal → Option α} (h : unVK u a K = some r) : ∃ v, K v = some r ∧ ∀ K' : AVal → Option α, unVK u a K' = K' v := by
  unfold unVK at h
  split at h <;> first
    | exact ⟨_, h, fun _ => rfl⟩
    | cases h

theorem mmK_pt {up : Bool} : ∀ {xs : List AVal} {a : AVal} {K : AVal → Option α}, mmK up a xs K = some r → ∃ v, K v = some r ∧ ∀ K' : AVal → Option α, mmK up a xs K' = K' v
  | [], a, K, h => ⟨a, h, fun _ => rfl⟩
  | b :: xs, a, K, h => by
    unfold mmK at h
    obtain ⟨k, x, h1, h2⟩ := intK_pt h
    obtain ⟨k', y, h3, h4⟩ := intK_pt h1
    by_cases hk : k = k'
    · rw [if_pos hk] at h3
      obtain ⟨v, h5, h6⟩ := mmK_pt h3
      refine ⟨v, h5, fun K' => ?_⟩
      unfold mmK
      rw [h2, h4, if_pos hk]
      exact h6 K'
    · rw [if_neg hk] at h3; cases h3

theorem lenK_pt {τ : Ty} {a : AVal} {H : Nat → Option Ent} {K : OpK α} (h : lenK τ a H K = some r) : ∃ v rd ups, K v rd ups = some r ∧ ∀ H', Ag rd H H' → ∀ K' : OpK α, lenK τ a H' K' = K' v rd ups := by
  unfold lenK at h
  split at h
  · exact ⟨_, _, _, h, fun _ _ _ => rfl⟩
  · exact ⟨_, _, _, h, fun _ _ _ => rfl⟩
  · exact ⟨_, _, _, h, fun _ _ _ => rfl⟩
  · exact ⟨_, _, _, h, fun _ _ _ => rfl⟩
  · split at h
    · rename_i hid
      exact ⟨_, _, _, h, fun H' hA K' => by unfold lenK; simp only; rw [hA _ (by simp), hid]⟩
    · rename_i hid
      exact ⟨_, _, _, h, fun H' hA K' => by unfold lenK; simp only; rw [hA _ (by simp), hid]⟩
    · cases h
  · cases h

theorem appK_pt {id : Nat} {e : Ty} {a b : AVal} {H : Nat → Option Ent} {K : OpK α} (h : appK id e a b H K = some r) : ∃ v rd ups, K v rd ups = some r ∧ id ∈ rd ∧ ∀ H', Ag rd H H' → ∀ K' : OpK α, appK id e a b H' K' = K' v rd ups := by
  unfold appK at h
  obtain ⟨ys, rd, ups, h1, h2⟩ := asVK_pt h
  split at h1
  · obtain ⟨h3, h4⟩ := cond_pt h1
    refine ⟨_, _, _, h3, by simp, fun H' hA K' => ?_⟩
    unfold appK
    rw [h2 H' (fun i hi => hA i (List.mem_cons_of_mem _ hi))]
    exact h4 _
  · rename_i j
    split at h1
    · rename_i e' l hj
      obtain ⟨z, h3, h4⟩ := castK_pt h1
      obtain ⟨h5, h6⟩ := cond_pt h3
      refine ⟨_, _, _, h5, by simp, fun H' hA K' => ?_⟩
      unfold appK
      rw [h2 H' (fun i hi => hA i (List.mem_cons_of_mem _ (List.mem_cons_of_mem _ hi)))]
      simp only
      rw [hA j (by simp), hj]
      simp only
      rw [h4]
      exact h6 _
    · cases h1
  · cases h1

theorem fillK_pt {e : Ty} {n : Nat} {H : Nat → Option Ent} : ∀ {ps : List (Nat × AVal)} {l : List e.den} {rd0 : List Nat} {ups0 : Ups} {K : List e.den → List Nat → Ups → Option α}, fillK e H n ps l rd0 ups0 K = some r →
    ∃ l' rd ups, K l' rd ups = some r ∧ (∀ i ∈ rd0, i ∈ rd) ∧ ∀ H', Ag rd H H' → ∀ K' : List e.den → List Nat → Ups → Option α, fillK e H' n ps l rd0 ups0 K' = K' l' rd ups
  | [], l, rd0, ups0, K, h => ⟨l, rd0, ups0, h, fun _ h => h, fun _ _ _ => rfl⟩
  | p :: ps, l, rd0, ups0, K, h => by
    unfold fillK at h
    obtain ⟨h1, h2⟩ := cond_pt h
    obtain ⟨y, rd1, ups1, h3, h4⟩ := asVK_pt h1
    obtain ⟨l', rd, ups, h5, h6, h7⟩ := fillK_pt h3
    refine ⟨l', rd, ups, h5, fun i hi => h6 i (List.mem_append_right _ hi), fun H' hA K' => ?_⟩
    unfold fillK
    rw [h2, h4 H' (fun i hi => hA i (h6 i (List.mem_append_left _ hi)))]
    exact h7 H' hA K'

theorem buildK_pt {τ : Ty} {H : Nat → Option Ent} : ∀ {ps : List (Nat × AVal)} {x : τ.den} {rd0 : List Nat} {ups0 : Ups} {K : τ.den → List Nat → Ups → Option α}, buildK τ H ps x rd0 ups0 K = some r →
    ∃ x' rd ups, K x' rd ups = some r ∧ (∀ i ∈ rd0, i ∈ rd) ∧ ∀ H', Ag rd H H' → ∀ K' : τ.den → List Nat → Ups → Option α, buildK τ H' ps x rd0 ups0 K' = K' x' rd ups
  | [], x, rd0, ups0, K, h => ⟨x, rd0, ups0, h, fun _ h => h, fun _ _ _ => rfl⟩
  | p :: ps, x, rd0, ups0, K, h => by
    unfold buildK at h
    obtain ⟨υ, z, h1, h2⟩ := fldK_pt h
    obtain ⟨y, rd1, ups1, h3, h4⟩ := asVK_pt h1
    obtain ⟨z', h5, h6⟩ := setFldK_pt (m := fun υ' _ k' => castK υ υ' y k') (fun υ' y' k hk => castK_pt hk) h3
    obtain ⟨x', rd, ups, h7, h8, h9⟩ := buildK_pt h5
    refine ⟨x', rd, ups, h7, fun i hi => h8 i (List.mem_append_right _ hi), fun H' hA K' => ?_⟩
    unfold buildK
    rw [h2, h4 H' (fun i hi => hA i (h8 i (List.mem_append_left _ hi))), h6]
    exact h9 H' hA K'

theorem cap1K_pt {H : Nat → Option Ent} {v : AVal} {a : Ty} {k : a.den → List Nat → Ups → Option α} (h : cap1K v H a k = some r) :
    ∃ x rd ups, k x rd ups = some r ∧ ∀ H', Ag rd H H' → ∀ k' : a.den → List Nat → Ups → Option α, cap1K v H' a k' = k' x rd ups := by
  unfold cap1K at h
  split at h
  · split at h
    · obtain ⟨z, h1, h2⟩ := castK_pt h
      refine ⟨_, _, _, h1, fun H' _ k' => ?_⟩
      unfold cap1K
      simp only
      rw [h2]
    · cases h
  · rename_i k0 hno
    obtain ⟨y, rd, ups, h1, h2⟩ := asVK_pt h
    refine ⟨y, rd, ups, h1, fun H' hA k' => ?_⟩
    unfold cap1K
    split
    · exact (hno _ _ rfl HEq.rfl).elim
    · exact h2 H' hA _

theorem capsK_pt {H : Nat → Option Ent} : ∀ {τ : Ty} {vs : List AVal} {k : τ.den → List Nat → Ups → Option α}, capsK H τ vs k = some r →
    ∃ x rd ups, k x rd ups = some r ∧ ∀ H', Ag rd H H' → ∀ k' : τ.den → List Nat → Ups → Option α, capsK H' τ vs k' = k' x rd ups
  | .unit, [], k, h => ⟨(), [], [], h, fun _ _ _ => rfl⟩
  | .pair a b, v :: vs, k, h => by
    unfold capsK at h
    obtain ⟨y, rd, ups, h1, h2⟩ := cap1K_pt h
    obtain ⟨ys, rd', ups', h3, h4⟩ := capsK_pt h1
    refine ⟨(y, ys), _, _, h3, fun H' hA k' => ?_⟩
    unfold capsK
    rw [h2 H' (fun i hi => hA i (List.mem_append_right _ hi)), h4 H' (fun i hi => hA i (List.mem_append_left _ hi))]
  | .unit, _ :: _, _, h => by simp [capsK] at h
  | .pair _ _, [], _, h => by simp [capsK] at h
  | .int _, _, _, h | .bool, _, _, h | .str, _, _, h | .slice _, _, _, h | .arr _ _, _, _, h => by simp [capsK] at h

theorem capFz_pt : ∀ {as' : List AVal} {H : Nat → Option Ent} {K : List AVal → List Nat → Ups → Option α}, capFz H as' K = some r →
    ∃ cs rd ups, K cs rd ups = some r ∧ ∀ H', Ag rd H H' → ∀ K' : List AVal → List Nat → Ups → Option α, capFz H' as' K' = K' cs rd ups
  | [], H, K, h => ⟨[], [], [], h, fun _ _ _ => rfl⟩
  | a :: as', H, K, h => by
    unfold capFz at h
    split at h
    · rename_i id
      split at h
      · rename_i τ x hid
        obtain ⟨cs, rd, ups, h1, h2⟩ := capFz_pt h
        refine ⟨_, _, _, h1, fun H' hA K' => ?_⟩
        unfold capFz
        simp only
        rw [hA id (by simp), hid]
        simp only
        rw [h2 (updH H' id (some .gone)) (fun i hi => by
          by_cases hii : i = id
          · subst hii; rw [updH_same, updH_same]
          · rw [updH_ne _ _ hii, updH_ne _ _ hii]; exact hA i (List.mem_cons_of_mem _ hi))]
      · cases h
    · rename_i hno
      obtain ⟨cs, rd, ups, h1, h2⟩ := capFz_pt h
      refine ⟨_, _, _, h1, fun H' hA K' => ?_⟩
      unfold capFz
      split
      · exact absurd rfl (hno _)
      · rw [h2 H' hA]

end VM
end

section
/- The value machine: what an operation comes to hangs only on what it looks at: calls, addresses; all operations. -/
namespace VM
open Go
variable {α : Type} {r : α}

theorem arg1K_pt {m : AM} {a : AVal} {H : Nat → Option Ent} {k : m.den → (Nat → Option Ent) → List Nat → Ups → Ups → List (Nat × Ty) → Option α} (h : arg1K m a H k = some r) :
    ∃ y rd uo uf io, ∃ g : (Nat → Option Ent) → (Nat → Option Ent), k y (g H) rd uo uf io = some r ∧ (∀ H' i, H' i = H i → g H' i = g H i) ∧
      ∀ H', Ag rd H H' → ∀ k' : m.den → (Nat → Option Ent) → List Nat → Ups → Ups → List (Nat × Ty) → Option α, arg1K m a H' k' = k' y (g H') rd uo uf io := by
  have hupd : ∀ (d : Nat) (v : Option Ent) (H' : Nat → Option Ent) (i : Nat), H' i = H i → updH H' d v i = updH H d v i := by
    intro d v H' i hi
    by_cases hid : i = d
    · subst hid; rw [updH_same, updH_same]
    · rw [updH_ne _ _ hid, updH_ne _ _ hid, hi]
  unfold arg1K at h
  split at h
  · rename_i τ k
    obtain ⟨y, rd, ups, h1, h2⟩ := asVK_pt h
    cases ups with
    | nil =>
      refine ⟨y, rd, [], [], [], fun H => H, h1, fun _ _ h => h, fun H' hA k' => ?_⟩
      unfold arg1K; simp only; rw [h2 H' hA]
    | cons u rest =>
      refine ⟨y, rd, [], u :: rest, [], fun H => updH H u.1 u.2, h1, fun H' i hi => hupd _ _ H' i hi, fun H' hA k' => ?_⟩
      unfold arg1K; simp only; rw [h2 H' hA]
  · rename_i e k
    split at h
    · exact ⟨[], [], [], [], [], fun H => H, h, fun _ _ h => h, fun _ _ _ => rfl⟩
    · rename_i id
      split at h
      · rename_i e' l hid
        obtain ⟨z, h1, h2⟩ := castK_pt h
        refine ⟨z, [id], _, _, _, fun H => updH H id (some .gone), h1, fun H' i hi => hupd _ _ H' i hi, fun H' hA k' => ?_⟩
        unfold arg1K; simp only; rw [hA id (by simp), hid]; simp only; rw [h2]
      · cases h
    · cases h
  · rename_i τ k
    split at h
    · rename_i id
      split at h
      · rename_i υ x hid
        obtain ⟨z, h1, h2⟩ := castK_pt h
        refine ⟨z, [id], _, _, _, fun H => updH H id (some .gone), h1, fun H' i hi => hupd _ _ H' i hi, fun H' hA k' => ?_⟩
        unfold arg1K; simp only; rw [hA id (by simp), hid]; simp only; rw [h2]
      · cases h
    · cases h
  · rename_i f τ k
    split at h
    · rename_i f' cs
      obtain ⟨h1, h2⟩ := cond_pt h
      obtain ⟨x, rd, ups, h3, h4⟩ := capsK_pt h1
      cases ups with
      | nil =>
        refine ⟨x, rd, [], [], [], fun H => H, h3, fun _ _ h => h, fun H' hA k' => ?_⟩
        unfold arg1K; simp only; rw [h2, h4 H' hA]
      | cons _ _ => cases h3
    · cases h
  · cases h
  · rename_i τ k
    split at h
    · obtain ⟨z, h1, h2⟩ := castK_pt h
      refine ⟨z, [], [], [], [], fun H => H, h1, fun _ _ h => h, fun H' hA k' => ?_⟩
      unfold arg1K; simp only; rw [h2]
    · cases h

theorem argsK_pt : ∀ {ms : List AM} {as' : List AVal} {H : Nat → Option Ent} {rd0 : List Nat} {uo0 uf0 : Ups} {io0 : List (Nat × Ty)} {K : HP ms → List Nat → Ups → Ups → List (Nat × Ty) → Option α}, argsK ms as' H rd0 uo0 uf0 io0 K = some r →
    ∃ x rd uo uf io, K x rd uo uf io = some r ∧ (∀ i ∈ rd0, i ∈ rd) ∧ ∀ H', Ag rd H H' → ∀ K' : HP ms → List Nat → Ups → Ups → List (Nat × Ty) → Option α, argsK ms as' H' rd0 uo0 uf0 io0 K' = K' x rd uo uf io
  | [], [], H, rd0, uo0, uf0, io0, K, h => ⟨(), _, _, _, _, h, fun _ h => h, fun _ _ _ => rfl⟩
  | [m], [a], H, rd0, uo0, uf0, io0, K, h => by
    obtain ⟨y, rd, uo, uf, io, g, h1, h2, h3⟩ := arg1K_pt (h : arg1K m a H _ = some r)
    exact ⟨y, _, _, _, _, h1, fun i hi => List.mem_append_right _ hi, fun H' hA K' => h3 H' (fun i hi => hA i (List.mem_append_left _ hi)) _⟩
  | m :: n :: ms, a :: as', H, rd0, uo0, uf0, io0, K, h => by
    obtain ⟨y, rd, uo, uf, io, g, h1, h2, h3⟩ := arg1K_pt (h : arg1K m a H _ = some r)
    obtain ⟨ys, rd', uo', uf', io', h4, h5, h6⟩ := argsK_pt (ms := n :: ms) h1
    refine ⟨(y, ys), rd', uo', uf', io', h4, fun i hi => h5 i (List.mem_append_right _ hi), fun H' hA K' => ?_⟩
    refine (h3 H' (fun i hi => hA i (h5 i (List.mem_append_left _ hi))) _).trans ?_
    exact h6 (g H') (fun i hi => h2 H' i (hA i hi)) _
  | [], _ :: _, _, _, _, _, _, _, h => by simp [argsK] at h
  | [_], [], _, _, _, _, _, _, h => by simp [argsK] at h
  | [_], _ :: _ :: _, _, _, _, _, _, _, h => by simp [argsK] at h
  | _ :: _ :: _, [], _, _, _, _, _, _, h => by simp [argsK] at h

theorem mem_idsL {id i : Nat} : ∀ {n : Nat}, i ∈ idsL id n ↔ id ≤ i ∧ i < id + n
  | 0 => by simp [idsL]
  | n + 1 => by simp only [idsL, List.mem_cons, mem_idsL]; omega

theorem freeAll_congr {H H' : Nat → Option Ent} {id : Nat} : ∀ {n : Nat}, (∀ i ∈ idsL id n, H' i = H i) → freeAll H' id n = freeAll H id n
  | 0, _ => rfl
  | n + 1, h => by
    unfold freeAll
    rw [h (id + n) (by simp [idsL]), freeAll_congr fun i hi => h i (by simp [idsL, hi])]

theorem callK_pt {E : Env} {f id : Nat} {as' : List AVal} {H : Nat → Option Ent} {K : OpK α} (h : callK E f as' id H K = some r) : ∃ v rd ups, K v rd ups = some r ∧ ∀ H', Ag rd H H' → ∀ K' : OpK α, callK E f as' id H' K' = K' v rd ups := by
  unfold callK at h
  split at h
  · cases h
  · rename_i S hS
    obtain ⟨x, rd, uo, uf, io, h1, _, h2⟩ := argsK_pt h
    obtain ⟨y, hy, h3⟩ := Option.bind_eq_some_iff.1 h1
    obtain ⟨h4, h5⟩ := cond_inv h3
    refine ⟨_, _, _, h5, fun H' hA K' => ?_⟩
    unfold callK
    rw [hS]
    simp only
    rw [h2 H' (fun i hi => hA i (List.mem_append_right _ (List.mem_append_right _ hi))), hy]
    simp only [Option.bind_some]
    rw [freeAll_congr (fun i hi => hA i (List.mem_append_left _ hi)), h4]
    rfl

theorem sliceK_pt {t : Ty} {z : Bool} {a : AVal} {lo hi mx : Option AVal} {H : Nat → Option Ent} {K : OpK α} (h : sliceK t z a lo hi mx H K = some r) : ∃ v rd ups, K v rd ups = some r ∧ ∀ H', Ag rd H H' → ∀ K' : OpK α, sliceK t z a lo hi mx H' K' = K' v rd ups := by
  unfold sliceK at h
  split at h
  · obtain ⟨h1, e1⟩ := cond_pt h
    obtain ⟨l, h2, e2⟩ := optK_pt h1
    obtain ⟨m, h3, e3⟩ := optK_pt h2
    obtain ⟨h4, e4⟩ := cond_pt h3
    exact ⟨_, _, _, h4, fun H' _ K' => by unfold sliceK; simp only; rw [e1, e2, e3, e4]⟩
  · cases z
    · obtain ⟨h1, e1⟩ := cond_pt (h : cond mx.isNone _ none = some r)
      obtain ⟨l, h2, e2⟩ := optK_pt h1
      obtain ⟨m, h3, e3⟩ := optK_pt h2
      obtain ⟨h4, e4⟩ := cond_pt h3
      exact ⟨_, _, _, h4, fun H' _ K' => by unfold sliceK; simp only [cond_false]; rw [e1, e2, e3, e4]⟩
    · exact ⟨_, _, _, h, fun H' _ K' => by unfold sliceK; rfl⟩
  · rename_i e hne
    obtain ⟨y, rd, ups, h1, e1⟩ := asVK_pt h
    cases z
    · obtain ⟨h2, e2⟩ := cond_pt (h1 : cond (mx.isNone || hi.isSome) _ none = some r)
      obtain ⟨l, h3, e3⟩ := optK_pt h2
      obtain ⟨m, h4, e4⟩ := optK_pt h3
      obtain ⟨n, h5, e5⟩ := optK_pt h4
      obtain ⟨h6, e6⟩ := cond_pt h5
      refine ⟨_, _, _, h6, fun H' hA K' => ?_⟩
      unfold sliceK
      simp only
      rw [e1 H' hA]
      simp only [cond_false]
      rw [e2, e3, e4, e5, e6]
    · refine ⟨_, _, _, (h1 : K .emp rd [] = some r), fun H' hA K' => ?_⟩
      unfold sliceK
      simp only
      rw [e1 H' hA]
      rfl
  · cases h

theorem indexAddrK_pt {τ : Ty} {a i : AVal} {H : Nat → Option Ent} {K : OpK α} (h : indexAddrK τ a i H K = some r) : ∃ v rd ups, K v rd ups = some r ∧ ∀ H', Ag rd H H' → ∀ K' : OpK α, indexAddrK τ a i H' K' = K' v rd ups := by
  unfold indexAddrK at h
  obtain ⟨k, n, h, e0⟩ := intK_pt h
  split at h
  · split at h
    · obtain ⟨z, h1, e1⟩ := castK_pt h
      obtain ⟨h2, e2⟩ := cond_pt h1
      exact ⟨_, _, _, h2, fun H' _ K' => by unfold indexAddrK; rw [e0]; simp only; rw [e1, e2]⟩
    · split at h
      · rename_i hid
        obtain ⟨h1, e1⟩ := sameK_pt h
        obtain ⟨h2, e2⟩ := cond_pt h1
        exact ⟨_, _, _, h2, fun H' hA K' => by unfold indexAddrK; rw [e0]; simp only; rw [hA _ (by simp), hid]; simp only; rw [e1, e2]⟩
      · rename_i hid
        obtain ⟨h1, e1⟩ := sameK_pt h
        obtain ⟨h2, e2⟩ := cond_pt h1
        exact ⟨_, _, _, h2, fun H' hA K' => by unfold indexAddrK; rw [e0]; simp only; rw [hA _ (by simp), hid]; simp only; rw [e1, e2]⟩
      · cases h
    · cases h
  · split at h
    · obtain ⟨υ, h1, e1⟩ := placeK_pt h
      obtain ⟨h2, e2⟩ := sameK_pt h1
      obtain ⟨h3, e3⟩ := cond_pt h2
      exact ⟨_, _, _, h3, fun H' hA K' => by unfold indexAddrK; rw [e0]; simp only; rw [e1 H' (hA _ (by simp)), e2, e3]⟩
    · obtain ⟨z, h1, e1⟩ := castK_pt h
      obtain ⟨h2, e2⟩ := cond_pt h1
      exact ⟨_, _, _, h2, fun H' _ K' => by unfold indexAddrK; rw [e0]; simp only; rw [e1, e2]⟩
    · cases h
  · cases h

theorem indexK_pt {τ : Ty} {a i : AVal} {K : AVal → Option α} (h : indexK τ a i K = some r) : ∃ v, K v = some r ∧ ∀ K' : AVal → Option α, indexK τ a i K' = K' v := by
  unfold indexK at h
  obtain ⟨k, n, h, e0⟩ := intK_pt h
  split at h
  · obtain ⟨z, h1, e1⟩ := castK_pt h
    obtain ⟨h2, e2⟩ := cond_pt h1
    exact ⟨_, h2, fun K' => by unfold indexK; rw [e0]; simp only; rw [e1, e2]⟩
  · obtain ⟨h2, e2⟩ := cond_pt h
    exact ⟨_, h2, fun K' => by unfold indexK; rw [e0]; simp only; rw [e2]⟩
  · cases h

theorem loadK_pt {a : AVal} {H : Nat → Option Ent} {K : (υ : Ty) → υ.den → List Nat → Option α} (h : loadK a H K = some r) : ∃ υ y rd, K υ y rd = some r ∧ ∀ H', Ag rd H H' → ∀ K' : (υ : Ty) → υ.den → List Nat → Option α, loadK a H' K' = K' υ y rd := by
  unfold loadK at h
  split at h
  · exact ⟨_, _, _, h, fun _ _ _ => rfl⟩
  · split at h
    · rename_i hid
      obtain ⟨υ, y, h1, e1⟩ := getP_pt h
      exact ⟨_, _, _, h1, fun H' hA K' => by unfold loadK; simp only; rw [hA _ (by simp), hid]; simp only; rw [e1]⟩
    · rename_i hid
      split at h
      · obtain ⟨υ, y, h1, e1⟩ := getP_pt h
        exact ⟨_, _, _, h1, fun H' hA K' => by unfold loadK; simp only; rw [hA _ (by simp), hid]; simp only; rw [e1]⟩
      · cases h
    · rename_i hid
      split at h
      · obtain ⟨υ, y, h1, e1⟩ := getP_pt h
        exact ⟨_, _, _, h1, fun H' hA K' => by unfold loadK; simp only; rw [hA _ (by simp), hid]; simp only; rw [e1]⟩
      · cases h
    · cases h
  · cases h

theorem storeK_pt {τ : Ty} {a v : AVal} {H : Nat → Option Ent} {K : OpK α} (h : storeK τ a v H K = some r) : ∃ u rd ups, K u rd ups = some r ∧ ∀ H', Ag rd H H' → ∀ K' : OpK α, storeK τ a v H' K' = K' u rd ups := by
  unfold storeK at h
  split at h
  · obtain ⟨y, rd, ups, h1, e1⟩ := asVK_pt h
    split at h1
    · rename_i hid
      obtain ⟨z, h2, e2⟩ := setP_pt h1
      exact ⟨_, _, _, h2, fun H' hA K' => by
        unfold storeK; simp only
        rw [e1 H' (fun i hi => hA i (List.mem_cons_of_mem _ hi))]
        rw [hA _ (by simp), hid]; simp only; rw [e2]⟩
    · rename_i hid
      split at h1
      · obtain ⟨h2, e2⟩ := condn_pt h1
        obtain ⟨z, h3, e3⟩ := setP_pt h2
        exact ⟨_, _, _, h3, fun H' hA K' => by
          unfold storeK; simp only
          rw [e1 H' (fun i hi => hA i (List.mem_cons_of_mem _ hi))]
          rw [hA _ (by simp), hid]; simp only; rw [e2, e3]⟩
      · cases h1
    · cases h1
  · cases h

theorem frzK_pt {j : Nat} {q : List Step} {τ : Ty} {x : τ.den} {H : Nat → Option Ent} {k : τ.den → Ups → Option α} (h : frzK j q τ x H k = some r) : ∃ z ups, k z ups = some r ∧ ∀ H', H' j = H j → ∀ k' : τ.den → Ups → Option α, frzK j q τ x H' k' = k' z ups := by
  unfold frzK at h
  split at h
  · rename_i hj
    obtain ⟨z, h1, e1⟩ := setP_pt h
    exact ⟨_, _, h1, fun H' hA k' => by unfold frzK; rw [hA, hj]; simp only; rw [e1]⟩
  · rename_i hj
    obtain ⟨z, h1, e1⟩ := setP_pt h
    exact ⟨_, _, h1, fun H' hA k' => by unfold frzK; rw [hA, hj]; simp only; rw [e1]⟩
  · cases h

/-- A result, as one and the same continuation takes it. -/
abbrev Pts (F : (Nat → Option Ent) → OpK α → Option α) (H : Nat → Option Ent) (K : OpK α) (r : α) : Prop :=
  ∃ v rd ups, K v rd ups = some r ∧ ∀ H', Ag rd H H' → ∀ K' : OpK α, F H' K' = K' v rd ups

theorem load0_pt {τ : Ty} {a : AVal} {H : Nat → Option Ent} {K : OpK α} (h : (loadK a H fun υ y rd => castK υ τ y fun z => K (.val τ z) rd []) = some r) :
    Pts (fun H K => loadK a H fun υ y rd => castK υ τ y fun z => K (.val τ z) rd []) H K r := by
  obtain ⟨υ, y, rd, h1, e1⟩ := loadK_pt h
  obtain ⟨z, h2, e2⟩ := castK_pt h1
  exact ⟨_, _, _, h2, fun H' hA K' => by simp only; rw [e1 H' hA, e2]⟩

/-- What is looked at on the way: the entry that is addressed. -/
theorem loadK_rd {id : Nat} {p : List Step} {H : Nat → Option Ent} {K : (υ : Ty) → υ.den → List Nat → Option α} (h : loadK (.adr id p) H K = some r) : ∃ υ y, K υ y [id] = some r := by
  unfold loadK at h
  simp only at h
  split at h
  · obtain ⟨υ, y, h1, _⟩ := getP_pt h; exact ⟨υ, y, h1⟩
  · split at h
    · obtain ⟨υ, y, h1, _⟩ := getP_pt h; exact ⟨υ, y, h1⟩
    · cases h
  · split at h
    · obtain ⟨υ, y, h1, _⟩ := getP_pt h; exact ⟨υ, y, h1⟩
    · cases h
  · cases h

theorem load0_at {τ : Ty} {id : Nat} {p : List Step} {H : Nat → Option Ent} {K : OpK α} (h : (loadK (.adr id p) H fun υ y rd => castK υ τ y fun z => K (.val τ z) rd []) = some r) :
    ∃ z, K (.val τ z) [id] [] = some r ∧ ∀ H', H' id = H id → ∀ K' : OpK α, (loadK (.adr id p) H' fun υ y rd => castK υ τ y fun z => K' (.val τ z) rd []) = K' (.val τ z) [id] [] := by
  unfold loadK at h
  simp only at h
  split at h
  · rename_i hid
    obtain ⟨υ, y, h1, e1⟩ := getP_pt h
    obtain ⟨z, h2, e2⟩ := castK_pt h1
    exact ⟨_, h2, fun H' hA K' => by unfold loadK; simp only; rw [hA, hid]; simp only; rw [e1, e2]⟩
  · rename_i hid
    split at h
    · obtain ⟨υ, y, h1, e1⟩ := getP_pt h
      obtain ⟨z, h2, e2⟩ := castK_pt h1
      exact ⟨_, h2, fun H' hA K' => by unfold loadK; simp only; rw [hA, hid]; simp only; rw [e1, e2]⟩
    · cases h
  · rename_i hid
    split at h
    · obtain ⟨υ, y, h1, e1⟩ := getP_pt h
      obtain ⟨z, h2, e2⟩ := castK_pt h1
      exact ⟨_, h2, fun H' hA K' => by unfold loadK; simp only; rw [hA, hid]; simp only; rw [e1, e2]⟩
    · cases h
  · cases h

theorem loadL_pt {τ : Ty} {a : AVal} {H : Nat → Option Ent} {K : OpK α} (h : loadL τ a H K = some r) : Pts (loadL τ a) H K r := by
  unfold loadL at h
  simp only at h
  split at h
  · rename_i id p
    split at h
    · rename_i υ x q j hid
      cases hp : peq p q
      · cases hpp : ppre p q
        · rw [hp, hpp] at h
          simp only [cond_false] at h
          obtain ⟨υ', y, h1, e1⟩ := getP_pt h
          obtain ⟨z, h2, e2⟩ := castK_pt h1
          exact ⟨_, _, _, h2, fun H' hA K' => by
            unfold loadL; simp only; rw [hA id (by simp), hid]; simp only
            rw [hp, hpp]; simp only [cond_false]; rw [e1, e2]⟩
        · rw [hp, hpp] at h
          simp only [cond_false, cond_true] at h
          obtain ⟨z, ups, h1, e1⟩ := frzK_pt h
          obtain ⟨υ', y, h2, e2⟩ := getP_pt h1
          obtain ⟨z', h3, e3⟩ := castK_pt h2
          exact ⟨_, _, _, h3, fun H' hA K' => by
            unfold loadL; simp only; rw [hA id (by simp), hid]; simp only
            rw [hp, hpp]; simp only [cond_false, cond_true]; rw [e1 H' (hA j (by simp)), e2, e3]⟩
      · rw [hp] at h
        simp only [cond_true] at h
        obtain ⟨h1, e1⟩ := cond_pt h
        exact ⟨_, _, _, h1, fun H' hA K' => by
          unfold loadL; simp only; rw [hA id (by simp), hid]; simp only
          rw [hp]; simp only [cond_true]; rw [e1]⟩
    · rename_i hno
      obtain ⟨z, h1, e1⟩ := load0_at h
      refine ⟨_, _, _, h1, fun H' hA K' => ?_⟩
      unfold loadL; simp only; rw [hA id (by simp)]
      split
      · rename_i hid; exact absurd hid (hno _ _ _ _)
      · exact e1 H' (hA id (by simp)) K'
  · rename_i hno
    obtain ⟨v, rd, ups, h1, e1⟩ := load0_pt h
    refine ⟨v, rd, ups, h1, fun H' hA K' => ?_⟩
    have : loadL τ a H' K' = loadK a H' fun υ y rd => castK υ τ y fun z => K' (.val τ z) rd [] := by
      unfold loadL
      cases a <;> first | rfl | exact absurd rfl (hno _ _)
    rw [this]
    exact e1 H' hA K'

theorem linkK_pt {τ : Ty} {id k : Nat} {e : Ty} {q : List Step} {υ : Ty} {x : υ.den} {H : Nat → Option Ent} {K : OpK α} (h : linkK τ id k e q υ x H K = some r) :
    ∃ v ups, K v [id, k] ups = some r ∧ ∀ H', H' k = H k → ∀ K' : OpK α, linkK τ id k e q υ x H' K' = K' v [id, k] ups := by
  unfold linkK at h
  split at h
  · rename_i hid
    obtain ⟨h1, e1⟩ := sameK_pt h
    obtain ⟨h2, e2⟩ := sameK_pt h1
    obtain ⟨z, h3, e3⟩ := setP_pt h2
    exact ⟨_, _, h3, fun H' hA K' => by unfold linkK; rw [hA, hid]; simp only; rw [e1, e2, e3]⟩
  · cases h

theorem store0_at {τ : Ty} {id : Nat} {p : List Step} {v : AVal} {H : Nat → Option Ent} {K : OpK α} (h : storeK τ (.adr id p) v H K = some r) :
    ∃ u rd ups, id ∈ rd ∧ K u rd ups = some r ∧ ∀ H', Ag rd H H' → ∀ K' : OpK α, storeK τ (.adr id p) v H' K' = K' u rd ups := by
  unfold storeK at h
  simp only at h
  obtain ⟨y, rd, ups, h1, e1⟩ := asVK_pt h
  split at h1
  · rename_i hid
    obtain ⟨z, h2, e2⟩ := setP_pt h1
    exact ⟨_, _, _, by simp, h2, fun H' hA K' => by
      unfold storeK; simp only
      rw [e1 H' (fun i hi => hA i (List.mem_cons_of_mem _ hi))]
      rw [hA _ (by simp), hid]; simp only; rw [e2]⟩
  · rename_i hid
    split at h1
    · obtain ⟨h2, e2⟩ := condn_pt h1
      obtain ⟨z, h3, e3⟩ := setP_pt h2
      exact ⟨_, _, _, by simp, h3, fun H' hA K' => by
        unfold storeK; simp only
        rw [e1 H' (fun i hi => hA i (List.mem_cons_of_mem _ hi))]
        rw [hA _ (by simp), hid]; simp only; rw [e2, e3]⟩
    · cases h1
  · cases h1

theorem storeL_pt {E : Env} {τ : Ty} {a v : AVal} {H : Nat → Option Ent} {K : OpK α} (h : storeL E τ a v H K = some r) :
    ∃ u rd ups, K u rd ups = some r ∧ ∀ H', Ag rd H H' → ∀ K' : OpK α, storeL E τ a v H' K' = K' u rd ups := by
  have h0 := h
  unfold storeL at h
  simp only at h
  split at h
  · rename_i id p
    split at h
    · rename_i υ x hid
      split at h
      · rename_i q e k hlk
        cases hp : peq p q
        · rw [hp] at h
          simp only [cond_false] at h
          obtain ⟨u, rd, ups, hi, h1, e1⟩ := store0_at h
          refine ⟨u, rd, ups, h1, fun H' hA K' => ?_⟩
          unfold storeL; simp only; rw [hA id hi, hid]; simp only; rw [hlk]; simp only; rw [hp]; simp only [cond_false]
          exact e1 H' hA K'
        · rw [hp] at h
          simp only [cond_true] at h
          obtain ⟨u, ups, h1, e1⟩ := linkK_pt h
          refine ⟨u, _, ups, h1, fun H' hA K' => ?_⟩
          unfold storeL; simp only; rw [hA id (by simp), hid]; simp only; rw [hlk]; simp only; rw [hp]; simp only [cond_true]
          exact e1 H' (hA k (by simp)) K'
      · rename_i hno
        obtain ⟨u, rd, ups, hi, h1, e1⟩ := store0_at h
        refine ⟨u, rd, ups, h1, fun H' hA K' => ?_⟩
        unfold storeL; simp only; rw [hA id hi, hid]; simp only
        exact e1 H' hA K'
    · rename_i υ x q j hid
      have hput : (asVK true v H τ fun y rd ups => setP τ y p υ x fun z => K .any (id :: rd) (ups ++ [(id, some (cond (ppre p q) (.obj υ z) (.lnk υ z q j)))])) = some r →
          ∃ u rd ups, id ∈ rd ∧ K u rd ups = some r ∧ ∀ H', Ag rd H H' → ∀ K' : OpK α, (asVK true v H' τ fun y rd ups => setP τ y p υ x fun z => K' .any (id :: rd) (ups ++ [(id, some (cond (ppre p q) (.obj υ z) (.lnk υ z q j)))])) = K' u rd ups := by
        intro h
        obtain ⟨y, rd, ups, h1, e1⟩ := asVK_pt h
        obtain ⟨z, h2, e2⟩ := setP_pt h1
        exact ⟨_, _, _, by simp, h2, fun H' hA K' => by rw [e1 H' (fun i hi => hA i (List.mem_cons_of_mem _ hi)), e2]⟩
      split at h
      · rename_i q' e k hlk
        cases hp : (peq p q && peq q q')
        · rw [hp] at h
          simp only [cond_false] at h
          obtain ⟨u, rd, ups, hi, h1, e1⟩ := hput h
          refine ⟨u, rd, ups, h1, fun H' hA K' => ?_⟩
          unfold storeL; simp only; rw [hA id hi, hid]; simp only; rw [hlk]; simp only; rw [hp]; simp only [cond_false]
          exact e1 H' hA K'
        · rw [hp] at h
          simp only [cond_true] at h
          obtain ⟨u, ups, h1, e1⟩ := linkK_pt h
          refine ⟨u, _, ups, h1, fun H' hA K' => ?_⟩
          unfold storeL; simp only; rw [hA id (by simp), hid]; simp only; rw [hlk]; simp only; rw [hp]; simp only [cond_true]
          exact e1 H' (hA k (by simp)) K'
      · rename_i hno
        obtain ⟨u, rd, ups, hi, h1, e1⟩ := hput h
        refine ⟨u, rd, ups, h1, fun H' hA K' => ?_⟩
        unfold storeL; simp only; rw [hA id hi, hid]; simp only
        exact e1 H' hA K'
    · rename_i hno1 hno2
      obtain ⟨u, rd, ups, hi, h1, e1⟩ := store0_at h
      refine ⟨u, rd, ups, h1, fun H' hA K' => ?_⟩
      unfold storeL; simp only; rw [hA id hi]
      split
      · rename_i hid; exact absurd hid (hno1 _ _)
      · rename_i hid; exact absurd hid (hno2 _ _ _ _)
      · exact e1 H' hA K'
  · rename_i hno
    obtain ⟨u, rd, ups, h1, e1⟩ := storeK_pt h
    refine ⟨u, rd, ups, h1, fun H' hA K' => ?_⟩
    have : storeL E τ a v H' K' = storeK τ a v H' K' := by
      unfold storeL
      cases a <;> first | rfl | exact absurd rfl (hno _ _)
    rw [this]
    exact e1 H' hA K'

theorem storeN_pt {E : Env} {τ : Ty} {a v : AVal} {H : Nat → Option Ent} {K : OpK α} (h : storeN E τ a v H K = some r) :
    ∃ u rd ups, K u rd ups = some r ∧ ∀ H', Ag rd H H' → ∀ K' : OpK α, storeN E τ a v H' K' = K' u rd ups := by
  unfold storeN at h
  split at h
  · rename_i id υ y n
    split at h
    · rename_i m e hlk
      cases hmn : Nat.beq m n
      · rw [hmn] at h
        simp only [cond_false] at h
        obtain ⟨u, rd, ups, h1, e1⟩ := storeL_pt h
        exact ⟨u, rd, ups, h1, fun H' hA K' => by unfold storeN; simp only; rw [hlk]; simp only; rw [hmn]; simp only [cond_false]; exact e1 H' hA K'⟩
      · rw [hmn] at h
        simp only [cond_true] at h
        obtain ⟨h1, e1⟩ := sameK_pt h
        obtain ⟨υ', h2, e2⟩ := placeK_pt h1
        obtain ⟨h3, e3⟩ := sameK_pt h2
        obtain ⟨h4, e4⟩ := newK_pt h3
        exact ⟨_, _, _, h4, fun H' hA K' => by unfold storeN; simp only; rw [hlk]; simp only; rw [hmn]; simp only [cond_true]; rw [e1, e2 H' (hA _ (by simp)), e3, e4 H' (hA _ (by simp))]⟩
    · rename_i hno
      obtain ⟨u, rd, ups, h1, e1⟩ := storeL_pt h
      refine ⟨u, rd, ups, h1, fun H' hA K' => ?_⟩
      unfold storeN; simp only
      exact e1 H' hA K'
  · rename_i hno
    obtain ⟨u, rd, ups, h1, e1⟩ := storeL_pt h
    refine ⟨u, rd, ups, h1, fun H' hA K' => ?_⟩
    unfold storeN
    split
    · exact absurd rfl (hno _ _ _ _ rfl)
    · exact e1 H' hA K'

theorem newL_pt {H : Nat → Option Ent} {id : Nat} {τ : Ty} {x : τ.den} {q : List Step} {e : Ty} {K : OpK α} (h : newL H id τ x q e K = some r) : Pts (fun H K => newL H id τ x q e K) H K r := by
  obtain ⟨h1, h2, h3⟩ := newL_inv h
  exact ⟨_, _, _, h3, fun H' hA K' => by unfold newL newK; simp only; rw [hA id (by simp), h1, hA (id + 1) (by simp), h2]⟩

/-- What an operation looks at is enough. -/
theorem opK_pt {E : Env} {o : Oper} {ρ : Operand → AVal} {H : Nat → Option Ent} {K : OpK α} (h : opK E o ρ H K = some r) :
    ∃ v rd ups, K v rd ups = some r ∧ ∀ ρ' H', (∀ x ∈ o.op.operands, ρ' x = ρ x) → Ag rd H H' → ∀ K' : OpK α, opK E o ρ' H' K' = K' v rd ups := by
  obtain ⟨dst, op, type, pos, after, guard⟩ := o
  unfold opK at h
  simp only at h
  have hmap : ∀ {ρ' : Operand → AVal} (xs : List Operand), (∀ x ∈ xs, ρ' x = ρ x) → xs.map ρ' = xs.map ρ := fun xs hx => List.map_congr_left hx
  have hparts : ∀ {ρ' : Operand → AVal} (ps : Array (Nat × Operand)), (∀ x ∈ ps.map (·.2), ρ' x = ρ x) → partsOf ρ' ps = partsOf ρ ps := fun ps hp => by
    unfold partsOf
    exact List.map_congr_left fun p hm => by rw [hp p.2 (Array.mem_map.2 ⟨p, by simpa using hm, rfl⟩)]
  have hopt : ∀ {ρ' : Operand → AVal} (x : Option Operand), (∀ y ∈ x, ρ' y = ρ y) → x.map ρ' = x.map ρ := fun x hx => by
    cases x with
    | none => rfl
    | some x => simp [hx x rfl]
  split at h
  · -- move
    rename_i x
    exact ⟨_, _, _, h, fun ρ' H' hx _ K' => by unfold opK; simp only; rw [hx x (by simp [Op.operands])]⟩
  · rename_i x
    exact ⟨_, _, _, h, fun ρ' H' hx _ K' => by unfold opK; simp only; rw [hx x (by simp [Op.operands])]⟩
  · rename_i x y z
    split at h
    · rename_i t hx
      cases t
      · exact ⟨_, _, _, (h : K (ρ z) [] [] = some r), fun ρ' H' hx' _ K' => by unfold opK; simp only; rw [hx' x (by simp [Op.operands]), hx, hx' z (by simp [Op.operands])]; rfl⟩
      · exact ⟨_, _, _, (h : K (ρ y) [] [] = some r), fun ρ' H' hx' _ K' => by unfold opK; simp only; rw [hx' x (by simp [Op.operands]), hx, hx' y (by simp [Op.operands])]; rfl⟩
    · cases h
  · -- alloc
    split at h
    · rename_i τ ht
      split at h
      · rename_i q e hlk
        obtain ⟨v, rd, ups, h1, e1⟩ := newL_pt h
        exact ⟨_, _, _, h1, fun ρ' H' hx hA K' => by unfold opK; simp only; rw [ht]; simp only; rw [hlk]; exact e1 H' hA K'⟩
      · rename_i hlk
        obtain ⟨h1, e1⟩ := newK_pt h
        exact ⟨_, _, _, h1, fun ρ' H' hx hA K' => by unfold opK; simp only; rw [ht]; simp only; rw [hlk]; simp only; rw [e1 H' (hA _ (by simp))]⟩
    · cases h
  · -- box
    rename_i t x
    split at h
    · rename_i τ ht
      have hold : (asVK true (ρ x) H τ fun y rd ups => newK H (16 * dst.getD 0) (.obj τ y) (K (.adr (16 * dst.getD 0) []) (16 * dst.getD 0 :: rd) (ups ++ [(16 * dst.getD 0, some (.obj τ y))]))) = some r →
          Pts (fun H K => asVK true (ρ x) H τ fun y rd ups => newK H (16 * dst.getD 0) (.obj τ y) (K (.adr (16 * dst.getD 0) []) (16 * dst.getD 0 :: rd) (ups ++ [(16 * dst.getD 0, some (.obj τ y))]))) H K r := by
        intro h
        obtain ⟨y, rd, ups, h1, e1⟩ := asVK_pt h
        obtain ⟨h2, e2⟩ := newK_pt h1
        exact ⟨_, _, _, h2, fun H' hA K' => by simp only; rw [e1 H' (fun i hi => hA i (List.mem_cons_of_mem _ hi)), e2 H' (hA _ (by simp))]⟩
      split at h
      · rename_i m e υ y n hlk hx0
        cases hmn : Nat.beq m n
        · rw [hmn] at h
          obtain ⟨v, rd, ups, h1, e1⟩ := hold h
          refine ⟨_, _, _, h1, fun ρ' H' hx hA K' => ?_⟩
          unfold opK; simp only; rw [ht]; simp only
          rw [hx x (by simp [Op.operands]), hlk, hx0]; simp only
          rw [hmn]
          have := e1 H' hA K'
          rw [hx0] at this
          exact this
        · rw [hmn] at h
          simp only [cond_true] at h
          obtain ⟨z, h1, e1⟩ := castK_pt h
          obtain ⟨v, rd, ups, h2, e2⟩ := newL_pt h1
          refine ⟨_, _, _, h2, fun ρ' H' hx hA K' => ?_⟩
          unfold opK; simp only; rw [ht]; simp only
          rw [hx x (by simp [Op.operands]), hlk, hx0]; simp only
          rw [hmn]; simp only [cond_true]
          rw [e1]
          exact e2 H' hA K'
      · rename_i hno
        obtain ⟨v, rd, ups, h1, e1⟩ := hold h
        refine ⟨_, _, _, h1, fun ρ' H' hx hA K' => ?_⟩
        unfold opK; simp only; rw [ht]; simp only
        rw [hx x (by simp [Op.operands])]
        split
        · rename_i hlk hx0; exact absurd hx0 (hno _ _ _ _ _ hlk)
        · exact e1 H' hA K'
    · cases h
  · -- build
    rename_i t ps
    split at h
    · rename_i n e ht
      obtain ⟨l, rd, ups, h1, _, e1⟩ := fillK_pt h
      exact ⟨_, _, _, h1, fun ρ' H' hx hA K' => by unfold opK; simp only; rw [ht]; simp only; rw [hparts ps (fun x hx' => hx x (by simpa [Op.operands] using hx')), e1 H' hA]⟩
    · rename_i τ hna ht
      obtain ⟨h0, e0⟩ := cond_pt h
      obtain ⟨l, rd, ups, h1, _, e1⟩ := buildK_pt h0
      refine ⟨_, _, _, h1, fun ρ' H' hx hA K' => ?_⟩
      unfold opK; simp only; rw [ht]
      have : ∀ {β : Type} (A : Nat → Ty → β) (B : Ty → β), (match some τ with | some (.arr n e) => A n e | some τ => B τ | none => B τ) = B τ := by
        intro β A B
        cases τ <;> first | rfl | exact absurd rfl (hna _ _)
      cases τ with
      | arr n e => exact absurd rfl (hna n e)
      | _ =>
        simp only
        rw [hparts ps (fun x hx' => hx x (by simpa [Op.operands] using hx')), e0, e1 H' hA]
    · cases h
  · -- buildSlice
    rename_i t n ps
    split at h
    · rename_i e ht
      obtain ⟨h0, e0⟩ := cond_pt h
      obtain ⟨h1, e1⟩ := newK_pt h0
      obtain ⟨l, rd, ups, h2, _, e2⟩ := fillK_pt h1
      exact ⟨_, _, _, h2, fun ρ' H' hx hA K' => by
        unfold opK; simp only; rw [ht]; simp only
        rw [e0, e1 H' (hA _ (by simp)), hparts ps (fun x hx' => hx x (by simpa [Op.operands] using hx')), e2 H' (fun i hi => hA i (List.mem_cons_of_mem _ hi))]⟩
    · cases h
  · -- load
    rename_i t x
    split at h
    · rename_i τ ht
      obtain ⟨v, rd, ups, h1, e1⟩ := loadL_pt h
      exact ⟨_, _, _, h1, fun ρ' H' hx hA K' => by unfold opK; simp only; rw [ht]; simp only; rw [hx x (by simp [Op.operands]), e1 H' hA]⟩
    · cases h
  · -- store
    rename_i t x y
    split at h
    · rename_i τ ht
      obtain ⟨u, rd, ups, h1, e1⟩ := storeN_pt h
      exact ⟨_, _, _, h1, fun ρ' H' hx hA K' => by unfold opK; simp only; rw [ht]; simp only; rw [hx x (by simp [Op.operands]), hx y (by simp [Op.operands]), e1 H' hA]⟩
    · cases h
  · -- nilCheck
    rename_i x
    split at h
    · rename_i id p hx
      exact ⟨_, _, _, h, fun ρ' H' hx' _ K' => by unfold opK; simp only; rw [hx' x (by simp [Op.operands]), hx]⟩
    · rename_i τ z hx
      exact ⟨_, _, _, h, fun ρ' H' hx' _ K' => by unfold opK; simp only; rw [hx' x (by simp [Op.operands]), hx]⟩
    · cases h
  · -- binOp
    rename_i b t x y t'
    obtain ⟨τ, x1, h1, e1⟩ := valK_pt h
    obtain ⟨υ, y1, h2, e2⟩ := valK_pt h1
    obtain ⟨v, h3, e3⟩ := binVK_pt h2
    exact ⟨_, _, _, h3, fun ρ' H' hx _ K' => by unfold opK; simp only; rw [hx x (by simp [Op.operands]), hx y (by simp [Op.operands]), e1, e2, e3]⟩
  · -- unOp
    rename_i u t x
    obtain ⟨v, h1, e1⟩ := unVK_pt h
    exact ⟨_, _, _, h1, fun ρ' H' hx _ K' => by unfold opK; simp only; rw [hx x (by simp [Op.operands]), e1]⟩
  · -- convert
    rename_i s d x
    split at h
    · rename_i τ k hs hd
      obtain ⟨i, n, h1, e1⟩ := intK_pt h
      exact ⟨_, _, _, h1, fun ρ' H' hx _ K' => by unfold opK; simp only; rw [hs, hd]; simp only; rw [hx x (by simp [Op.operands]), e1]⟩
    · cases h
  · -- makeFunc
    rename_i f first caps
    obtain ⟨h1, e1⟩ := cond_pt h
    obtain ⟨cs, rd, ups, h3, e3⟩ := capFz_pt h1
    exact ⟨_, _, _, h3, fun ρ' H' hx hA K' => by unfold opK; simp only; rw [hmap caps.toList (fun x hx' => hx x (by simp [Op.operands]; exact .inr (by simpa using hx'))), e1, e3 H' hA]⟩
  · -- makeSlice
    rename_i t x y
    split at h
    · rename_i e ht
      obtain ⟨i, n, h1, e1⟩ := intK_pt h
      obtain ⟨i', n', h2, e2⟩ := intK_pt h1
      obtain ⟨h3, e3⟩ := cond_pt h2
      obtain ⟨h4, e4⟩ := newK_pt h3
      exact ⟨_, _, _, h4, fun ρ' H' hx hA K' => by
        unfold opK; simp only; rw [ht]; simp only
        rw [hx x (by simp [Op.operands]), e1, hx y (by simp [Op.operands]), e2, e3, e4 H' (hA _ (by simp))]⟩
    · cases h
  · -- slice
    rename_i t x lo hi mx
    split at h
    · rename_i τ ht
      obtain ⟨v, rd, ups, h1, e1⟩ := sliceK_pt h
      exact ⟨_, _, _, h1, fun ρ' H' hx hA K' => by
        unfold opK; simp only; rw [ht]; simp only
        rw [hx x (by simp [Op.operands]), hopt lo (fun y hy => hx y (by simp at hy; simp [Op.operands, hy])), hopt hi (fun y hy => hx y (by simp at hy; simp [Op.operands, hy])), hopt mx (fun y hy => hx y (by simp at hy; simp [Op.operands, hy])), e1 H' hA]⟩
    · cases h
  · -- fieldAddr
    rename_i t x n
    split at h
    · rename_i τ ht
      split at h
      · rename_i id p hx
        obtain ⟨υ, h1, e1⟩ := placeK_pt h
        obtain ⟨h2, e2⟩ := sameK_pt h1
        obtain ⟨υ', y', h3, e3⟩ := fldK_pt h2
        obtain ⟨h4, e4⟩ := condn_pt h3
        exact ⟨_, _, _, h4, fun ρ' H' hx' hA K' => by
          unfold opK; simp only; rw [ht]; simp only
          rw [hx' x (by simp [Op.operands]), hx]; simp only
          rw [e1 H' (hA _ (by simp)), e2, e3, e4]⟩
      · rename_i υ z hx
        obtain ⟨h2, e2⟩ := sameK_pt h
        obtain ⟨υ', y', h3, e3⟩ := fldK_pt h2
        obtain ⟨h4, e4⟩ := condn_pt h3
        exact ⟨_, _, _, h4, fun ρ' H' hx' hA K' => by
          unfold opK; simp only; rw [ht]; simp only
          rw [hx' x (by simp [Op.operands]), hx]; simp only
          rw [e2, e3, e4]⟩
      · cases h
    · cases h
  · -- field
    rename_i t x n
    split at h
    · rename_i τ ht
      split at h
      · rename_i υ z hx
        obtain ⟨h2, e2⟩ := sameK_pt h
        obtain ⟨υ', y', h3, e3⟩ := fldK_pt h2
        exact ⟨_, _, _, h3, fun ρ' H' hx' hA K' => by
          unfold opK; simp only; rw [ht]; simp only
          rw [hx' x (by simp [Op.operands]), hx]; simp only
          rw [e2, e3]⟩
      · cases h
    · cases h
  · -- indexAddr
    rename_i t x i
    split at h
    · rename_i τ ht
      obtain ⟨v, rd, ups, h1, e1⟩ := indexAddrK_pt h
      exact ⟨_, _, _, h1, fun ρ' H' hx hA K' => by unfold opK; simp only; rw [ht]; simp only; rw [hx x (by simp [Op.operands]), hx i (by simp [Op.operands]), e1 H' hA]⟩
    · cases h
  · -- index
    rename_i t x i
    split at h
    · rename_i τ ht
      obtain ⟨v, h1, e1⟩ := indexK_pt h
      exact ⟨_, _, _, h1, fun ρ' H' hx hA K' => by unfold opK; simp only; rw [ht]; simp only; rw [hx x (by simp [Op.operands]), hx i (by simp [Op.operands]), e1]⟩
    · cases h
  · -- extract
    rename_i x i
    split at h
    · rename_i vs hx
      split at h
      · rename_i v hv
        exact ⟨_, _, _, h, fun ρ' H' hx' hA K' => by unfold opK; simp only; rw [hx' x (by simp [Op.operands]), hx]; simp only; rw [hv]⟩
      · cases h
    · cases h
  · -- calls
    rename_i cl
    obtain ⟨callee, args, ts⟩ := cl
    simp only at h
    have harg : ∀ {ρ' : Operand → AVal}, (∀ x ∈ (Op.call { callee, args, argTypes := ts }).operands, ρ' x = ρ x) → ∀ x ∈ args.toList, ρ' x = ρ x :=
      fun hx x hx' => hx x (by simp [Op.operands, Call.operands]; exact .inr (by simpa using hx'))
    split at h
    · split at h
      · rename_i x τ ha ht
        obtain ⟨v, rd, ups, h1, e1⟩ := lenK_pt h
        exact ⟨_, _, _, h1, fun ρ' H' hx hA K' => by unfold opK; simp only; rw [ha, ht]; simp only; rw [harg hx x (by rw [ha]; simp), e1 H' hA]⟩
      · cases h
    · split at h
      · rename_i x y t t' ha ht
        split at h
        · rename_i e hte
          obtain ⟨h1, e1⟩ := cond_pt h
          obtain ⟨h2, e2⟩ := newK_pt h1
          obtain ⟨v, rd, ups, h3, hid, e3⟩ := appK_pt h2
          exact ⟨_, _, _, h3, fun ρ' H' hx hA K' => by
            unfold opK; simp only; rw [ha, ht]; simp only; rw [hte]; simp only
            rw [e1, e2 H' (hA _ hid), harg hx x (by rw [ha]; simp), harg hx y (by rw [ha]; simp), e3 H' hA]⟩
        · cases h
      · cases h
    · split at h
      · rename_i x xs ha
        obtain ⟨v, h1, e1⟩ := mmK_pt h
        exact ⟨_, _, _, h1, fun ρ' H' hx hA K' => by
          unfold opK; simp only; rw [ha]; simp only
          rw [harg hx x (by rw [ha]; simp), hmap xs (fun y hy => harg hx y (by rw [ha]; simp [hy])), e1]⟩
      · cases h
    · split at h
      · rename_i x xs ha
        obtain ⟨v, h1, e1⟩ := mmK_pt h
        exact ⟨_, _, _, h1, fun ρ' H' hx hA K' => by
          unfold opK; simp only; rw [ha]; simp only
          rw [harg hx x (by rw [ha]; simp), hmap xs (fun y hy => harg hx y (by rw [ha]; simp [hy])), e1]⟩
      · cases h
    · rename_i g
      split at h
      · rename_i f caps hg
        obtain ⟨v, rd, ups, h1, e1⟩ := callK_pt h
        exact ⟨_, _, _, h1, fun ρ' H' hx hA K' => by
          unfold opK; simp only
          rw [hx g (by simp [Op.operands, Call.operands]), hg]; simp only
          rw [hmap args.toList (harg hx), e1 H' hA]⟩
      · cases h
    · cases h
  · cases h

end VM
end

section
/- The value machine, twenty-fifth text: regions, in any order. -/
namespace VM
open Go
variable {P : Program} {E : Env} {o : Oper} {a : Act} {w : World} {M : Nat → Prop} {ν : Nat → Value} {σ : St} {c : Ctx} {α : Type} {r : α} {next : Act → World → Prop} {Q : Exit → Act → World → Prop}

/-- What became of an operation. -/
structure Out where
  dst : Option Nat
  v : AVal
  rd : List Nat
  ups : Ups

def Out.app (u : Out) (σ : St) : St := (σ.puts u.ups).putO u.dst u.v

theorem putO_T_same (σ : St) (d : Nat) (v : AVal) : (σ.putO (some d) v).T d = v := put_T_same σ d v
theorem putO_T_ne (σ : St) {d : Option Nat} {t : Nat} (v : AVal) (h : d ≠ some t) : (σ.putO d v).T t = σ.T t := by
  cases d with
  | none => rfl
  | some d => exact put_T_ne σ v (fun e => h (by rw [e]))
theorem putO_H (σ : St) (d : Option Nat) (v : AVal) : (σ.putO d v).H = σ.H := by cases d <;> rfl

theorem app_T_same {u : Out} {t : Nat} (h : u.dst = some t) (σ : St) : (u.app σ).T t = u.v := by unfold Out.app; rw [h]; exact putO_T_same _ _ _
theorem app_T_ne {u : Out} {t : Nat} (h : u.dst ≠ some t) (σ : St) : (u.app σ).T t = σ.T t := by unfold Out.app; rw [putO_T_ne _ _ h, puts_T]
theorem app_H (u : Out) (σ : St) : (u.app σ).H = upsH σ.H u.ups := by unfold Out.app; rw [putO_H, puts_H]

/-- An operation at a state: what it comes to at any other state that is the same where it looks. -/
def Pt (E : Env) (ops : List Oper) (o : Oper) (σ : St) (u : Out) (α : Type) : Prop :=
  u.dst = o.dst ∧ ∀ σ' : St, (∀ t ∈ names ops o, σ'.T t = σ.T t) → Ag u.rd σ.H σ'.H → ∀ K' : St → List Nat → List Nat → Option α, stepK E ops o σ' K' = K' (u.app σ') u.rd (u.ups.map (·.1))

theorem stepK_pt {ops : List Oper} {K : St → List Nat → List Nat → Option α} (h : stepK E ops o σ K = some r) : ∃ u : Out, K (u.app σ) u.rd (u.ups.map (·.1)) = some r ∧ Pt E ops o σ u α := by
  unfold stepK at h
  obtain ⟨h, e0⟩ := cond_pt h
  have hrho : ∀ σ' : St, (∀ t ∈ names ops o, σ'.T t = σ.T t) → ∀ x ∈ o.op.operands, σ'.ρ x = σ.ρ x := by
    intro σ' hT x hx
    cases x with
    | tmp t =>
      refine hT t ?_
      unfold names
      refine List.mem_append_left _ (List.mem_filterMap.2 ⟨.tmp t, by simpa using hx, rfl⟩)
    | _ => rfl
  have hrun : opK E o σ.ρ σ.H (fun v rd ups => K ((σ.puts ups).putO o.dst v) rd (ups.map (·.1))) = some r →
      ∃ u : Out, K (u.app σ) u.rd (u.ups.map (·.1)) = some r ∧ u.dst = o.dst ∧ ∀ σ' : St, (∀ t ∈ names ops o, σ'.T t = σ.T t) → Ag u.rd σ.H σ'.H → ∀ K' : St → List Nat → List Nat → Option α,
        opK E o σ'.ρ σ'.H (fun v rd ups => K' ((σ'.puts ups).putO o.dst v) rd (ups.map (·.1))) = K' (u.app σ') u.rd (u.ups.map (·.1)) := by
    intro h
    obtain ⟨v, rd, ups, h1, h2⟩ := opK_pt h
    exact ⟨⟨o.dst, v, rd, ups⟩, h1, rfl, fun σ' hT hA K' => h2 σ'.ρ σ'.H (hrho σ' hT) hA _⟩
  have hskip : ∀ {K : St → List Nat → List Nat → Option α}, K (σ.putO o.dst .und) [] [] = some r → ∃ u : Out, K (u.app σ) u.rd (u.ups.map (·.1)) = some r ∧ u.dst = o.dst ∧ ∀ σ' : St, ∀ K' : St → List Nat → List Nat → Option α, K' (σ'.putO o.dst .und) [] [] = K' (u.app σ') u.rd (u.ups.map (·.1)) :=
    fun h => ⟨⟨o.dst, .und, [], []⟩, h, rfl, fun _ _ => rfl⟩
  simp only at h
  split at h
  · rename_i hg
    obtain ⟨u, h1, h2, h3⟩ := hrun h
    refine ⟨u, h1, h2, fun σ' hT hA K' => ?_⟩
    unfold stepK
    rw [e0]
    simp only
    rw [hg]
    exact h3 σ' hT hA K'
  · rename_i j want hg
    split at h
    · cases h
    · rename_i t ht
      have htn : t ∈ names ops o := by
        unfold names
        refine List.mem_append_right _ ?_
        rw [hg]
        simp [ht]
      split at h
      · rename_i b hb
        have hself : ∀ σ' : St, σ'.T t = σ.T t → σ'.put t (.val .bool b) = σ' := fun σ' h' => by
          rw [← hb, ← h']; exact put_self σ' t
        cases want <;> cases b
        · obtain ⟨u, h1, h2, h3⟩ := hrun (by
            have := hself σ rfl
            rw [this] at h; exact h)
          refine ⟨u, h1, h2, fun σ' hT hA K' => ?_⟩
          unfold stepK
          rw [e0]; simp only; rw [hg]; simp only; rw [ht]; simp only; rw [hT t htn, hb]; simp only
          rw [hself σ' (hT t htn)]
          exact h3 σ' hT hA K'
        · obtain ⟨u, h1, h2, h3⟩ := hskip (by
            have := hself σ rfl
            rw [this] at h; exact h)
          refine ⟨u, h1, h2, fun σ' hT hA K' => ?_⟩
          unfold stepK
          rw [e0]; simp only; rw [hg]; simp only; rw [ht]; simp only; rw [hT t htn, hb]; simp only
          rw [hself σ' (hT t htn)]
          exact h3 σ' K'
        · obtain ⟨u, h1, h2, h3⟩ := hskip (by
            have := hself σ rfl
            rw [this] at h; exact h)
          refine ⟨u, h1, h2, fun σ' hT hA K' => ?_⟩
          unfold stepK
          rw [e0]; simp only; rw [hg]; simp only; rw [ht]; simp only; rw [hT t htn, hb]; simp only
          rw [hself σ' (hT t htn)]
          exact h3 σ' K'
        · obtain ⟨u, h1, h2, h3⟩ := hrun (by
            have := hself σ rfl
            rw [this] at h; exact h)
          refine ⟨u, h1, h2, fun σ' hT hA K' => ?_⟩
          unfold stepK
          rw [e0]; simp only; rw [hg]; simp only; rw [ht]; simp only; rw [hT t htn, hb]; simp only
          rw [hself σ' (hT t htn)]
          exact h3 σ' hT hA K'
      · rename_i hb
        obtain ⟨u, h1, h2, h3⟩ := hskip h
        refine ⟨u, h1, h2, fun σ' hT hA K' => ?_⟩
        unfold stepK
        rw [e0]; simp only; rw [hg]; simp only; rw [ht]; simp only; rw [hT t htn, hb]
        exact h3 σ' K'
      · cases h

/-- The run in the text's order. -/
theorem opsK_pt {ops : List Oper} : ∀ (l : List Oper) (i : Nat) (σ : St) (lg : Log) (K : St → Log → Option α), opsK E ops l i σ lg K = some r →
    ∃ us : List Out, us.length = l.length ∧ (∀ j u o, us[j]? = some u → l[j]? = some o → Pt E ops o ((us.take j).foldl (fun σ u => u.app σ) σ) u α) ∧
      ∃ lg', K (us.foldl (fun σ u => u.app σ) σ) lg' = some r ∧ (∀ x ∈ lg, x ∈ lg') ∧ ∀ j u, us[j]? = some u → (i + j, u.rd, u.ups.map (·.1)) ∈ lg'
  | [], i, σ, lg, K, h => ⟨[], rfl, fun j u o hj => by simp at hj, lg, h, fun _ h => h, fun j u hj => by simp at hj⟩
  | o :: l, i, σ, lg, K, h => by
    unfold opsK at h
    obtain ⟨u, h1, h2⟩ := stepK_pt h
    obtain ⟨us, hl, hpt, lg', hK, hlg, hj⟩ := opsK_pt l (i + 1) (u.app σ) _ K h1
    refine ⟨u :: us, by simp [hl], fun j u' o' hu ho => ?_, lg', hK, fun x hx => hlg x (List.mem_cons_of_mem _ hx), fun j u' hu => ?_⟩
    · cases j with
      | zero => simp at hu ho; subst hu ho; exact h2
      | succ j => exact hpt j u' o' (by simpa using hu) (by simpa using ho)
    · cases j with
      | zero => simp at hu; subst hu; exact hlg _ List.mem_cons_self
      | succ j =>
        have := hj j u' (by simpa using hu)
        rwa [show i + 1 + j = i + (j + 1) from by omega] at this

theorem upsH_base {k : Nat} {ups : Ups} (h : k ∈ keys ups) (H H' : Nat → Option Ent) : upsH H ups k = upsH H' ups k := by
  induction ups generalizing H H' with
  | nil => simp [keys] at h
  | cons u r ih =>
    show upsH (updH H u.1 u.2) r k = upsH (updH H' u.1 u.2) r k
    by_cases hk : k ∈ keys r
    · exact ih hk _ _
    · have hku : k = u.1 := by
        simp only [keys, List.map_cons, List.mem_cons] at h hk
        exact h.resolve_right hk
      rw [upsH_not hk, upsH_not hk, hku, updH_same, updH_same]

/-- The state behind a set of operations. -/
structure IsSt (us : List Out) (σ0 : St) (S : Nat → Prop) (σ : St) : Prop where
  T : ∀ t, (∃ j u, us[j]? = some u ∧ S j ∧ u.dst = some t ∧ (∀ j' u', us[j']? = some u' → S j' → u'.dst = some t → j' ≤ j) ∧ σ.T t = u.v) ∨ ((∀ j u, us[j]? = some u → S j → u.dst ≠ some t) ∧ σ.T t = σ0.T t)
  H : ∀ k, (∃ j u, us[j]? = some u ∧ S j ∧ k ∈ keys u.ups ∧ (∀ j' u', us[j']? = some u' → S j' → k ∈ keys u'.ups → j' ≤ j) ∧ σ.H k = upsH σ0.H u.ups k) ∨ ((∀ j u, us[j]? = some u → S j → k ∉ keys u.ups) ∧ σ.H k = σ0.H k)

theorem IsSt.agreeT {us : List Out} {σ0 σ σ' : St} {S S' : Nat → Prop} (h : IsSt us σ0 S σ) (h' : IsSt us σ0 S' σ') {t : Nat} (hs : ∀ j u, us[j]? = some u → u.dst = some t → (S j ↔ S' j)) : σ.T t = σ'.T t := by
  rcases h.T t with ⟨j, u, h1, h2, h3, h4, h5⟩ | ⟨h1, h2⟩ <;> rcases h'.T t with ⟨j', u', h1', h2', h3', h4', h5'⟩ | ⟨h1', h2'⟩
  · have e1 := h4 j' u' h1' ((hs j' u' h1' h3').2 h2') h3'
    have e2 := h4' j u h1 ((hs j u h1 h3).1 h2) h3
    have : j = j' := by omega
    subst this
    rw [h1] at h1'; cases h1'
    rw [h5, h5']
  · exact absurd h3 (h1' j u h1 ((hs j u h1 h3).1 h2))
  · exact absurd h3' (h1 j' u' h1' ((hs j' u' h1' h3').2 h2'))
  · rw [h2, h2']

theorem IsSt.agreeH {us : List Out} {σ0 σ σ' : St} {S S' : Nat → Prop} (h : IsSt us σ0 S σ) (h' : IsSt us σ0 S' σ') {k : Nat} (hs : ∀ j u, us[j]? = some u → k ∈ keys u.ups → (S j ↔ S' j)) : σ.H k = σ'.H k := by
  rcases h.H k with ⟨j, u, h1, h2, h3, h4, h5⟩ | ⟨h1, h2⟩ <;> rcases h'.H k with ⟨j', u', h1', h2', h3', h4', h5'⟩ | ⟨h1', h2'⟩
  · have e1 := h4 j' u' h1' ((hs j' u' h1' h3').2 h2') h3'
    have e2 := h4' j u h1 ((hs j u h1 h3).1 h2) h3
    have : j = j' := by omega
    subst this
    rw [h1] at h1'; cases h1'
    rw [h5, h5']
  · exact absurd h3 (h1' j u h1 ((hs j u h1 h3).1 h2))
  · exact absurd h3' (h1 j' u' h1' ((hs j' u' h1' h3').2 h2'))
  · rw [h2, h2']

theorem IsSt.unique {us : List Out} {σ0 σ σ' : St} {S S' : Nat → Prop} (h : IsSt us σ0 S σ) (h' : IsSt us σ0 S' σ') (hs : ∀ j u, us[j]? = some u → (S j ↔ S' j)) : σ = σ' := by
  obtain ⟨T, H⟩ := σ
  obtain ⟨T', H'⟩ := σ'
  congr 1
  · funext t; exact h.agreeT h' (fun j u hj _ => hs j u hj)
  · funext k; exact h.agreeH h' (fun j u hj _ => hs j u hj)

theorem IsSt.step {us : List Out} {σ0 σ : St} {S : Nat → Prop} (h : IsSt us σ0 S σ) {i : Nat} {u : Out} (hi : us[i]? = some u) (hc : ∀ j u', us[j]? = some u' → S j → i < j → (∀ t, u.dst = some t → u'.dst ≠ some t) ∧ ∀ k ∈ keys u.ups, k ∉ keys u'.ups) :
    IsSt us σ0 (fun j => j = i ∨ S j) (u.app σ) := by
  refine ⟨fun t => ?_, fun k => ?_⟩
  · by_cases hd : u.dst = some t
    · left
      refine ⟨i, u, hi, .inl rfl, hd, fun j' u' h1 h2 h3 => ?_, app_T_same hd σ⟩
      rcases h2 with rfl | h2
      · exact Nat.le_refl _
      · exact Nat.le_of_not_lt fun hlt => (hc j' u' h1 h2 hlt).1 t hd h3
    · rw [app_T_ne hd]
      rcases h.T t with ⟨j, u1, h1, h2, h3, h4, h5⟩ | ⟨h1, h2⟩
      · refine .inl ⟨j, u1, h1, .inr h2, h3, fun j' u' h1' h2' h3' => ?_, h5⟩
        rcases h2' with rfl | h2'
        · rw [hi] at h1'; cases h1'; exact absurd h3' hd
        · exact h4 j' u' h1' h2' h3'
      · refine .inr ⟨fun j u' h1' h2' => ?_, h2⟩
        rcases h2' with rfl | h2'
        · rw [hi] at h1'; cases h1'; exact hd
        · exact h1 j u' h1' h2'
  · rw [app_H]
    by_cases hd : k ∈ keys u.ups
    · left
      refine ⟨i, u, hi, .inl rfl, hd, fun j' u' h1 h2 h3 => ?_, upsH_base hd _ _⟩
      rcases h2 with rfl | h2
      · exact Nat.le_refl _
      · exact Nat.le_of_not_lt fun hlt => (hc j' u' h1 h2 hlt).2 k hd h3
    · rw [upsH_not hd]
      rcases h.H k with ⟨j, u1, h1, h2, h3, h4, h5⟩ | ⟨h1, h2⟩
      · refine .inl ⟨j, u1, h1, .inr h2, h3, fun j' u' h1' h2' h3' => ?_, h5⟩
        rcases h2' with rfl | h2'
        · rw [hi] at h1'; cases h1'; exact absurd h3' hd
        · exact h4 j' u' h1' h2' h3'
      · refine .inr ⟨fun j u' h1' h2' => ?_, h2⟩
        rcases h2' with rfl | h2'
        · rw [hi] at h1'; cases h1'; exact hd
        · exact h1 j u' h1' h2'

theorem IsSt.start (us : List Out) (σ0 : St) : IsSt us σ0 (fun _ => False) σ0 := ⟨fun t => .inr ⟨fun _ _ _ h => h.elim, rfl⟩, fun k => .inr ⟨fun _ _ _ h => h.elim, rfl⟩⟩

theorem IsSt.congr {us : List Out} {σ0 σ : St} {S S' : Nat → Prop} (h : IsSt us σ0 S σ) (hs : ∀ j, S j ↔ S' j) : IsSt us σ0 S' σ := by
  have : S = S' := funext fun j => propext (hs j)
  rw [← this]; exact h

/-- The states of the text's order. -/
theorem IsSt.text (us : List Out) (σ0 : St) : ∀ i, i ≤ us.length → IsSt us σ0 (fun j => j < i) ((us.take i).foldl (fun σ u => u.app σ) σ0)
  | 0, _ => (IsSt.start us σ0).congr fun j => by simp
  | i + 1, hi => by
    have ih := IsSt.text us σ0 i (by omega)
    have hu : us[i]? = some us[i] := List.getElem?_eq_getElem (by omega)
    have := ih.step hu (fun j u' _ h2 h3 => by omega)
    rw [List.take_add_one, hu, List.foldl_append]
    exact this.congr fun j => by constructor <;> intro h <;> omega

end VM
end

section
/- The value machine: regions are sound. -/
namespace VM
open Go
variable {P : Program} {E : Env} {o : Oper} {a : Act} {w : World} {M : Nat → Prop} {ν : Nat → Value} {σ : St} {c : Ctx} {α : Type} {r : α} {next : Act → World → Prop} {Q : Exit → Act → World → Prop}

/-- The direct predecessors stand in a set. -/
def Pre (S : Nat → Prop) (o : Oper) : Prop := ∀ e ∈ o.after, Region.binds .any e = true → S e.on

theorem getD_app_l {β : Type} {l m : List β} {i : Nat} {d : β} (h : i < l.length) : (l ++ m).getD i d = l.getD i d := by
  simp only [List.getD, List.getElem?_append_left h]
theorem getD_app_r {β : Type} {l : List β} {x d : β} : (l ++ [x]).getD l.length d = x := by
  simp [List.getD]

theorem predsL_fold {acc : List Nat} {i : Nat} : ∀ (es : List Edge) (s : Nat), (es.foldl (fun s e => cond (Region.binds .any e) (s ||| 2 ^ e.on ||| acc.getD e.on 0) s) s).testBit i = true →
    s.testBit i = true ∨ ∃ e ∈ es, Region.binds .any e = true ∧ (i = e.on ∨ (acc.getD e.on 0).testBit i = true)
  | [], s, h => .inl h
  | e :: es, s, h => by
    rw [List.foldl_cons] at h
    rcases predsL_fold es _ h with h1 | ⟨e', h1, h2⟩
    · cases hb : Region.binds .any e
      · rw [hb] at h1; exact .inl h1
      · rw [hb] at h1
        simp only [cond_true, Nat.testBit_or, Bool.or_eq_true] at h1
        rcases h1 with (h1 | h1) | h1
        · exact .inl h1
        · refine .inr ⟨e, List.mem_cons_self, hb, .inl ?_⟩
          rw [Nat.testBit_two_pow] at h1
          simpa using (of_decide_eq_true h1).symm
        · exact .inr ⟨e, List.mem_cons_self, hb, .inr h1⟩
    · exact .inr ⟨e', List.mem_cons_of_mem _ h1, h2⟩

theorem predsL_spec {S : Nat → Prop} : ∀ (l : List Oper) (acc : List Nat) (all : List Oper), all.length = acc.length + l.length → (∀ j, l[j]? = all[acc.length + j]?) →
    (∀ j o, all[j]? = some o → S j → Pre S o) → (∀ j i, j < acc.length → S j → (acc.getD j 0).testBit i = true → S i) →
    ∀ j o i, all[j]? = some o → (Pre S o ∨ S j) → ((predsL l acc).getD j 0).testBit i = true → (j < acc.length → ∀ i, Pre S o → (acc.getD j 0).testBit i = true → S i) → S i
  | [], acc, all, hl, hall, hS, hacc, j, o, i, hj, hpre, hb, hacc2 => by
    have hlt : j < all.length := (List.getElem?_eq_some_iff.1 hj).1
    have hlt' : j < acc.length := by simp at hl; omega
    rcases hpre with hp | hp
    · exact hacc2 hlt' i hp hb
    · exact hacc j i hlt' hp hb
  | p :: l, acc, all, hl, hall, hS, hacc, j, o, i, hj, hpre, hb, hacc2 => by
    unfold predsL at hb
    have hp0 : all[acc.length]? = some p := by rw [← Nat.add_zero acc.length, ← hall 0]; rfl
    have hkey : ∀ i, Pre S p → (p.after.toList.foldl (fun s e => cond (Region.binds .any e) (s ||| 2 ^ e.on ||| acc.getD e.on 0) s) 0).testBit i = true → S i := by
      intro i hpp hb
      rcases predsL_fold p.after.toList 0 hb with h1 | ⟨e, he, hbe, h1⟩
      · simp at h1
      · have hSe := hpp e (by simpa using he) hbe
        rcases h1 with rfl | h1
        · exact hSe
        · by_cases hlt : e.on < acc.length
          · exact hacc e.on i hlt hSe h1
          · rw [List.getD, List.getElem?_eq_none (by omega)] at h1; simp at h1
    refine predsL_spec l (acc ++ [p.after.toList.foldl (fun s e => cond (Region.binds .any e) (s ||| 2 ^ e.on ||| acc.getD e.on 0) s) 0]) all (by simp at hl ⊢; omega) (fun j => ?_) hS (fun j' i' hj' hS' hb' => ?_) j o i hj hpre hb (fun hlt i' hp' hb' => ?_)
    · have := hall (j + 1)
      simp only [List.getElem?_cons_succ] at this
      rw [this]
      congr 1
      simp; omega
    · by_cases hlt : j' < acc.length
      · rw [getD_app_l hlt] at hb'
        exact hacc j' i' hlt hS' hb'
      · have hje : j' = acc.length := by simp at hj'; omega
        subst hje
        rw [getD_app_r] at hb'
        exact hkey i' (hS _ p hp0 hS') hb'
    · by_cases hlt' : j < acc.length
      · rw [getD_app_l hlt'] at hb'
        exact hacc2 hlt' i' hp' hb'
      · have hje : j = acc.length := by simp at hlt; omega
        subst hje
        rw [hp0] at hj; cases hj
        rw [getD_app_r] at hb'
        exact hkey i' hp' hb'

/-- What is forced ahead of an operation stands in each set that is closed and holds its direct predecessors. -/
theorem forced {ops : List Oper} {S : Nat → Prop} (hS : ∀ j o, ops[j]? = some o → S j → Pre S o) {j i : Nat} (hj : ops[j]? = some o) (hpre : Pre S o ∨ S j) (hb : ((predsL ops []).getD j 0).testBit i = true) : S i :=
  predsL_spec ops [] ops (by simp) (fun j => by simp) hS (fun j i h => by simp at h) j o i hj hpre hb (fun h => by simp at h)

theorem meets_false {l m : List Nat} (h : meets l m = false) {x : Nat} (h1 : x ∈ l) (h2 : x ∈ m) : False := by
  have : meets l m = true := by
    unfold meets
    rw [List.any_eq_true]
    refine ⟨x, h1, ?_⟩
    rw [List.any_eq_true]
    exact ⟨x, h2, Nat.beq_refl x⟩
  rw [h] at this; cases this

/-- What a round over all sorts of orders needs. -/
structure Rnd (c : Ctx) (E : Env) (ops : Array Oper) (us : List Out) (σ0 : St) (listed : Array Bool) (a : Act) (w : World) : Prop where
  size : listed.size = ops.size
  closed : ∀ j o, ops.toList[j]? = some o → listed.getD j false = true → Pre (fun i => listed.getD i false = true) o
  st : ∃ σ, IsSt us σ0 (fun j => listed.getD j false = true) σ ∧ Inv c E σ a w

theorem getD_false {listed : Array Bool} {j : Nat} (h : j < listed.size) (d : Bool) : listed.getD j d = listed.getD j false := by
  simp [Array.getD, h]

theorem rounds_sound (hE : EnvOk P E) {ops : Array Oper} {us : List Out} {σ0 σn : St} {α : Type} (x0 : α) (hl : us.length = ops.toList.length)
    (hpt : ∀ (j : Nat) (u : Out) (o : Oper), us[j]? = some u → ops.toList[j]? = some o → Pt E ops.toList o ((us.take j).foldl (fun σ u => u.app σ) σ0) u α)
    (hn : σn = us.foldl (fun σ u => u.app σ) σ0)
    (hlt : ∀ (j : Nat) (o : Oper), ops.toList[j]? = some o → ∀ e ∈ o.after, Region.binds .any e = true → e.on < j)
    (htm : ∀ (j : Nat) (o : Oper) (i : Nat) (p : Oper), ops.toList[j]? = some o → ops.toList[i]? = some p → i < j → ((predsL ops.toList []).getD j 0).testBit i = false →
      (∀ d, p.dst = some d → o.dst ≠ some d ∧ d ∉ names ops.toList o) ∧ (∀ d, o.dst = some d → d ∉ names ops.toList p))
    (hlg : ∀ (j : Nat) (u : Out) (i : Nat) (v : Out), us[j]? = some u → us[i]? = some v → i < j → ((predsL ops.toList []).getD j 0).testBit i = false →
      (∀ k ∈ keys v.ups, k ∉ u.rd ∧ k ∉ keys u.ups) ∧ (∀ k ∈ v.rd, k ∉ keys u.ups))
    (hq : ∀ a' w', Inv c E σn a' w' → Q .normal a' w') :
    ∀ (fuel : Nat) (listed : Array Bool) (a : Act) (w : World), ((List.range ops.size).filter fun j => !(listed.getD j false)).length ≤ fuel → Rnd c E ops us σ0 listed a w → wpAny P .any ops Q fuel listed a w := by
  have hall : ∀ (listed : Array Bool) (a : Act) (w : World), Rnd c E ops us σ0 listed a w → Region.ready .any ops listed = [] → Q .normal a w := by
    intro listed a w hR hready
    obtain ⟨hs, hcl, σ, hst, hI⟩ := hR
    -- all are listed
    have hdone : ∀ j, j < ops.size → listed.getD j false = true := by
      intro j
      induction j using Nat.strongRecOn with
      | _ j ih =>
        intro hj
        by_cases hb : listed.getD j false = true
        · exact hb
        · exfalso
          have ho : ops[j]? = some ops[j] := Array.getElem?_eq_getElem hj
          have : j ∈ Region.ready .any ops listed := by
            rw [mem_ready]
            refine ⟨by rw [getD_false (by omega)]; simpa using hb, _, ho, fun e he hbe => ?_⟩
            have hej := hlt j ops[j] (by rw [Array.getElem?_toList]; exact ho) e he hbe
            exact ih e.on hej (by omega)
          rw [hready] at this
          cases this
    have hσ : σ = σn := by
      rw [hn]
      have ht := IsSt.text us σ0 us.length (Nat.le_refl _)
      rw [List.take_length] at ht
      refine hst.unique ht fun j u hj => ?_
      have hjl : j < us.length := (List.getElem?_eq_some_iff.1 hj).1
      have hjo : j < ops.size := by rw [hl, Array.length_toList] at hjl; exact hjl
      exact ⟨fun _ => hjl, fun _ => hdone j hjo⟩
    exact hq a w (hσ ▸ hI)
  intro fuel
  induction fuel with
  | zero =>
    intro listed a w hf hR
    have hnil : Region.ready .any ops listed = [] := by
      rw [List.eq_nil_iff_forall_not_mem]
      intro j hj
      rw [mem_ready] at hj
      obtain ⟨h0, o, ho, _⟩ := hj
      have hjs : j < ops.size := (Array.getElem?_eq_some_iff.1 ho).1
      have hjl : j < listed.size := by rw [hR.size]; exact hjs
      rw [getD_false hjl] at h0
      have hmem : j ∈ (List.range ops.size).filter fun j => !(listed.getD j false) := by
        rw [List.mem_filter]; exact ⟨List.mem_range.2 hjs, by rw [h0]; rfl⟩
      have : ((List.range ops.size).filter fun j => !(listed.getD j false)) = [] := List.eq_nil_of_length_eq_zero (by omega)
      rw [this] at hmem; cases hmem
    exact ⟨hnil, hall listed a w hR hnil⟩
  | succ fuel ih =>
    intro listed a w hf hR
    refine ⟨hall listed a w hR, fun i hi => ?_⟩
    have hi' := hi
    rw [mem_ready] at hi'
    obtain ⟨h0, o, ho, hpre⟩ := hi'
    have his : i < ops.size := (Array.getElem?_eq_some_iff.1 ho).1
    have hil : i < listed.size := by rw [hR.size]; exact his
    rw [getD_false hil] at h0
    obtain ⟨hs, hcl, σ, hst, hI⟩ := hR
    have hol : ops.toList[i]? = some o := by rw [Array.getElem?_toList]; exact ho
    have hiu : i < us.length := by rw [hl, Array.length_toList]; exact his
    have hu : us[i]? = some us[i] := List.getElem?_eq_getElem hiu
    have hPt := hpt i us[i] o hu hol
    have hSi : ¬ listed.getD i false = true := by rw [h0]; simp
    -- what is open between the two
    have hopen : ∀ j p, ops.toList[j]? = some p → ((j < i ∧ ¬ listed.getD j false = true) → ((predsL ops.toList []).getD i 0).testBit j = false) ∧ ((i < j ∧ listed.getD j false = true) → ((predsL ops.toList []).getD j 0).testBit i = false) := by
      intro j p hj
      refine ⟨fun ⟨_, h2⟩ => ?_, fun ⟨_, h2⟩ => ?_⟩
      · rw [← Bool.not_eq_true]
        intro hb
        exact h2 (forced hcl hol (.inl hpre) hb)
      · rw [← Bool.not_eq_true]
        intro hb
        exact hSi (forced hcl hj (.inr h2) hb)
    have hgetO : ∀ (j : Nat) (u : Out), us[j]? = some u → ∃ p : Oper, ops.toList[j]? = some p ∧ u.dst = p.dst := by
      intro j u hj
      have hjl : j < us.length := (List.getElem?_eq_some_iff.1 hj).1
      have hp : ops.toList[j]? = some ops.toList[j] := List.getElem?_eq_getElem (by omega)
      exact ⟨_, hp, (hpt j u _ hj hp).1⟩
    have htext := IsSt.text us σ0 i (by omega)
    have hT : ∀ t ∈ names ops.toList o, σ.T t = ((us.take i).foldl (fun σ u => u.app σ) σ0).T t := by
      intro t ht
      refine hst.agreeT htext fun j u hj hd => ?_
      obtain ⟨p, hp, hpd⟩ := hgetO j u hj
      have hpd : p.dst = some t := by rw [← hpd, hd]
      constructor
      · intro hSj
        refine Nat.lt_of_not_le fun hle => ?_
        rcases Nat.lt_or_eq_of_le hle with hlt' | heq
        · exact (htm j p i o hp hol hlt' ((hopen j p hp).2 ⟨hlt', hSj⟩)).2 t hpd ht
        · subst heq; exact hSi hSj
      · intro hji
        by_cases hSj : listed.getD j false = true
        · exact hSj
        · exact absurd ht ((htm i o j p hol hp hji ((hopen j p hp).1 ⟨hji, hSj⟩)).1 t hpd).2
    have hH : Ag us[i].rd ((us.take i).foldl (fun σ u => u.app σ) σ0).H σ.H := by
      intro k hk
      refine hst.agreeH htext fun j u hj hd => ?_
      obtain ⟨p, hp, hpd⟩ := hgetO j u hj
      constructor
      · intro hSj
        refine Nat.lt_of_not_le fun hle => ?_
        rcases Nat.lt_or_eq_of_le hle with hlt' | heq
        · exact (hlg j u i us[i] hj hu hlt' ((hopen j p hp).2 ⟨hlt', hSj⟩)).2 k hk hd
        · subst heq; exact hSi hSj
      · intro hji
        by_cases hSj : listed.getD j false = true
        · exact hSj
        · exact absurd hk ((hlg i us[i] j u hu hj hji ((hopen j p hp).1 ⟨hji, hSj⟩)).1 k hd).1
    have hstep := hPt.2 σ hT hH
    have hIs : IsSt us σ0 (fun j => j = i ∨ listed.getD j false = true) (us[i].app σ) := by
      refine hst.step hu fun j u hj hSj hij => ?_
      obtain ⟨p, hp, hpd⟩ := hgetO j u hj
      have hbit := (hopen j p hp).2 ⟨hij, hSj⟩
      obtain ⟨h1, h2⟩ := htm j p i o hp hol hij hbit
      obtain ⟨h3, h4⟩ := hlg j u i us[i] hj hu hij hbit
      refine ⟨fun t ht => ?_, fun k hk => (h3 k hk).2⟩
      rw [hpd]
      exact (h1 t (by rw [← hPt.1]; exact ht)).1
    have hlisted : ∀ j, (listed.setIfInBounds i true).getD j false = true ↔ (j = i ∨ listed.getD j false = true) := by
      intro j
      by_cases hji : j = i
      · subst hji
        constructor
        · intro _; exact .inl rfl
        · intro _; simp [hil]
      · rw [getD_set_ne false (Ne.symm hji)]
        exact ⟨.inr, fun h => h.resolve_left hji⟩
    classical
    let K' : St → List Nat → List Nat → Option α := fun σ' _ _ => if σ' = us[i].app σ then some x0 else none
    have hK : stepK E ops.toList o σ K' = some x0 := by rw [hstep K']; simp [K']
    have := stepK_sound (Q := Q) (next := wpAny P .any ops Q fuel (listed.setIfInBounds i true)) hE hI hK (fun σ' a' w' rd wr hσ' hI' => by
      have hσ'' : σ' = us[i].app σ := by
        by_cases h : σ' = us[i].app σ
        · exact h
        · simp [K', h] at hσ'
      subst hσ''
      refine ih _ a' w' ?_ ⟨by simpa using hs, fun j p hp hSj e he hb => ?_, _, hIs.congr (fun j => (hlisted j).symm), hI'⟩
      · have hlen : ((List.range ops.size).filter fun j => !((listed.setIfInBounds i true).getD j false)).length < ((List.range ops.size).filter fun j => !(listed.getD j false)).length := by
          have hsub : ((List.range ops.size).filter fun j => !((listed.setIfInBounds i true).getD j false)) = ((List.range ops.size).filter fun j => !(listed.getD j false)).filter fun j => !(Nat.beq j i) := by
            rw [List.filter_filter]
            apply List.filter_congr
            intro j _
            by_cases hji : j = i
            · subst hji
              have h1 := (hlisted j).2 (.inl rfl)
              rw [h1]; simp
            · have h1 : Nat.beq j i = false := by rw [← Bool.not_eq_true, Nat.beq_eq]; exact hji
              rw [h1, getD_set_ne false (Ne.symm hji)]; simp
          rw [hsub]
          refine List.length_filter_lt_length_iff_exists.2 ⟨i, ?_, by simp⟩
          rw [List.mem_filter]; exact ⟨List.mem_range.2 his, by rw [h0]; rfl⟩
        omega
      · rcases (hlisted j).1 hSj with rfl | hSj
        · rw [hol] at hp; cases hp
          exact (hlisted _).2 (.inr (hpre e he hb))
        · exact (hlisted _).2 (.inr (hcl j p hp hSj e he hb)))
    unfold wpOp
    rw [ho]
    simp only
    split
    · rename_i hw; rw [if_pos hw] at this; exact .inl this
    · rename_i hw; rw [if_neg hw] at this; exact this

theorem regionK_sound (hE : EnvOk P E) {id : Nat} {ops : Array Oper} {draw : Bool} (hI : Inv c E σ a w) {K : St → Option α} (h : regionK E ops draw σ K = some r)
    (hn : ∀ σ' a' w', K σ' = some r → Inv c E σ' a' w' → Q .normal a' w') : (Code.region id ops draw).wp P Q a w := by
  cases draw
  · refine wp_region_list (opsK_sound hE ops.toList 0 σ [] a w _ hI h fun σ' lg' a' w' h' hI' => ?_)
    exact hn σ' a' w' (cond_inv h').2 hI'
  · unfold regionK at h
    obtain ⟨us, hl, hpt, lg, hK, _, hlog⟩ := opsK_pt _ _ _ _ _ h
    obtain ⟨hok, hK⟩ := cond_inv hK
    simp only [Bool.not_true, Bool.false_or, Bool.and_eq_true] at hok
    obtain ⟨htm, hlg⟩ := hok
    unfold tmpsOk at htm
    simp only [Bool.and_eq_true, List.all_eq_true] at htm
    obtain ⟨htm1, htm2⟩ := htm
    have hz : ∀ j o, ops.toList[j]? = some o → (o, j) ∈ ops.toList.zipIdx := fun j o hj => List.mem_zipIdx_iff_getElem?.2 hj
    refine wp_region_any hE.mixed (rounds_sound (Q := Q) (σ0 := σ) hE r hl hpt rfl (fun j o hj e he hbe => ?_) (fun j o i p hj hi hij hb => ?_) (fun j u i v hj hi hij hb => ?_) (fun a' w' hI' => hn _ a' w' hK hI') ops.size (Array.replicate ops.size false) a _ ?_ ?_)
    · have := htm1 (o, j) (hz j o hj) e (by simpa using he)
      rw [hbe] at this
      simpa [Nat.blt_eq] using this
    · have := htm2 (o, j) (hz j o hj) (p, i) (hz i p hi)
      simp only [hb, Bool.or_false, Bool.or_eq_true, Bool.not_eq_true', Bool.or_eq_false_iff] at this
      have hij' : ¬ Nat.ble j i = true := by rw [Nat.ble_eq]; omega
      have this := this.resolve_left hij'
      refine ⟨fun d hd => ⟨fun hd' => ?_, fun hd' => ?_⟩, fun d hd hd' => ?_⟩
      · exact meets_false this.1 (x := d) (by simp [hd]) (by simp [hd'])
      · exact meets_false this.1 (x := d) (by simp [hd]) (by simp [hd'])
      · exact meets_false this.2 (x := d) (by simp [hd]) hd'
    · unfold logOk at hlg
      simp only [List.all_eq_true] at hlg
      have hj' := hlog j u hj
      have hi' := hlog i v hi
      rw [Nat.zero_add] at hj' hi'
      have := hlg _ hj' _ hi'
      simp only [hb, Bool.or_false, Bool.or_eq_true, Bool.not_eq_true', Bool.or_eq_false_iff] at this
      have hij' : ¬ Nat.ble j i = true := by rw [Nat.ble_eq]; omega
      have this := this.resolve_left hij'
      refine ⟨fun k hk => ⟨fun hk' => ?_, fun hk' => ?_⟩, fun k hk hk' => ?_⟩
      · exact meets_false this.1 (x := k) hk (List.mem_append_left _ hk')
      · exact meets_false this.1 (x := k) hk (List.mem_append_right _ hk')
      · exact meets_false this.2 (x := k) hk hk'
    · refine Nat.le_trans (List.length_filter_le _ _) ?_
      rw [List.length_range]; exact Nat.le_refl _
    · have hf : ∀ j, (Array.replicate ops.size false).getD j false = false := by
        intro j
        rw [Array.getD_eq_getD_getElem?, Array.getElem?_replicate]
        split <;> rfl
      obtain ⟨⟨M, ν, hc⟩, hs, hd, harg⟩ := hI
      refine ⟨by simp, fun j o _ hS => (by rw [hf] at hS; cases hS), σ, (IsSt.start us σ).congr (fun j => (by rw [hf]; simp)), ⟨M, ν, ?_⟩, hs, hd, harg⟩
      exact hc.tr (Tr.drew hc.mem)

end VM
end

