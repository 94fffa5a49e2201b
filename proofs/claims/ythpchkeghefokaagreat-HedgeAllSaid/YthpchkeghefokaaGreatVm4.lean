/- A part of the proof of HedgeAll of layer 22: a machine that reads a function of the program as an equation between values. -/
import Derived.Test.YthpchkeghefokaaGreatVm3
import Derived.Scope
set_option linter.all false
section
/- The value machine, twentieth text: behind a call. -/
namespace VM
open Go
variable {P : Program} {E : Env} {o : Oper} {a : Act} {w : World} {M : Nat → Prop} {ν : Nat → Value} {σ : St} {c : Ctx} {α : Type} {r : α} {next : Act → World → Prop} {Q : Exit → Act → World → Prop}

/-- The entries that were not handed over. -/
theorem Mem.call {H : Nat → Option Ent} (h : Mem c H w M ν) {hs : List Nat} {M0 M' : Nat → Prop} {w' : World} (hM : ∀ b, M0 b → M b) (hhs : ∀ b ∈ hs, M b)
    (hno : ∀ b ∈ hs, ∀ i e, H i = some e → e.mut → blk (ν i) ≠ some b) (hprov : ∀ b ∈ hs, c.B ≤ b ∨ c.may b) (hio : ∀ b ∈ hs, c.M0 b → M' b) (L : Left w M0 hs w' M') :
    Mem c H w' (fun b => M' b ∨ (M b ∧ b ∉ hs)) ν ∧ Keeps w M w' (fun b => M' b ∨ (M b ∧ b ∉ hs)) := by
  have hk : Keeps w M w' (fun b => M' b ∨ (M b ∧ b ∉ hs)) := by
    refine ⟨L.size, fun b hb hm => L.frame b hb (fun hh => hm (hhs b hh)), fun b hb hm => ?_⟩
    rcases hm with hm | hm
    · exact (L.less b hb hm).elim (hM b) (hhs b)
    · exact hm.1
  refine ⟨⟨fun i e hi => (h.ent i e hi).keep hk fun hm b hb => ?_, h.dis, h.new, h.old, lnk_keep h (fun _ _ => rfl) (fun _ h => h) (fun i τ x p j hi => .inl ⟨hi, fun b hb => ?_⟩), fun b hb => ?_, fun b hb => ?_, fun b hb hm => ?_, Nat.le_trans h.size L.size, h.lim0, L.os.trans h.os, L.tape.trans h.tape, L.output.trans h.output⟩, hk⟩
  · have hMb := (h.ent i e hi).memM hm hb
    have hnot : b ∉ hs := fun hh => hno b hh i e hi hm hb
    exact ⟨L.frame b (h.lim b hMb) hnot, .inr ⟨hMb, hnot⟩⟩
  · have hbl : blk (ν i) = some b := by rw [hb]; rfl
    have hMb := (h.ent i _ hi).memM trivial hbl
    exact L.frame b (h.lim b hMb) (fun hh => hno b hh i _ hi trivial hbl)
  · by_cases hh : b ∈ hs
    · exact .inl (hio b hh hb)
    · exact .inr ⟨h.sub b hb, hh⟩
  · rcases hb with hb | hb
    · exact L.lim b hb
    · exact Nat.lt_of_lt_of_le (h.lim b hb.1) L.size
  · have hnot : b ∉ hs := fun hh => (hprov b hh).elim (fun h' => by omega) hm
    rw [L.frame b (Nat.lt_of_lt_of_le hb h.size) hnot]
    exact h.frame b hb hm

/-- One more entry. -/
theorem Mem.adopt {H : Nat → Option Ent} (h : Mem c H w M ν) {id : Nat} {v : Value} {e : Ent} (hid : ∀ e', H id = some e' → ¬ e'.mut) (her : ER w M v e)
    (hd : ∀ b, blk v = some b → ∀ i e', H i = some e' → e'.mut → blk (ν i) ≠ some b) (hn : ∀ b, blk v = some b → c.B ≤ b ∨ c.may b) (ho : ∀ b e0 l0, e = .own e0 l0 → blk v = some b → ¬ c.M0 b)
    (hnv : H id = none ∨ v = ν id)
    (hlk : ∀ τ x p j, e = .lnk τ x p j → updH H id (some e) j ≠ none ∧ ∃ b, v = .pointer (some ⟨b, 0, none⟩) ∧ w.cell? ⟨b, offP p τ, none⟩ = some (updν ν id v j) := by intro _ _ _ _ h; cases h) :
    Mem c (updH H id (some e)) w M (updν ν id v) := by
  have hν : ∀ i, i ≠ id → updν ν id v i = ν i := fun i hi => by simp [updν, hi]
  have hνs : updν ν id v id = v := by simp [updν]
  refine ⟨fun i e1 hi => ?_, fun i k e1 e2 b1 hij hi hm1 hk hm2 => ?_, fun i e1 b1 hi hm1 => ?_, fun i e1 l1 b1 hi => ?_, lnk_keep h (fun i hi => ?_) updH_nn (fun i τ x p j hi => ?_), h.sub, h.lim, h.frame, h.size, h.lim0, h.os, h.tape, h.output⟩
  · by_cases hii : i = id
    · subst hii; rw [updH_same] at hi; cases hi; rw [hνs]; exact her
    · rw [updH_ne _ _ hii] at hi; rw [hν i hii]; exact h.ent i e1 hi
  · by_cases hii : i = id
    · subst hii; rw [hνs]
      have hkk : k ≠ i := Ne.symm hij
      rw [updH_ne _ _ hkk] at hk; rw [hν k hkk]
      intro hb1
      exact hd b1 hb1 k e2 hk hm2
    · rw [updH_ne _ _ hii] at hi; rw [hν i hii]
      by_cases hkk : k = id
      · subst hkk; rw [hνs]
        intro hb1 hb2
        exact hd b1 hb2 i e1 hi hm1 hb1
      · rw [updH_ne _ _ hkk] at hk; rw [hν k hkk]; exact h.dis i k e1 e2 b1 hij hi hm1 hk hm2
  · by_cases hii : i = id
    · subst hii; rw [hνs]; exact hn b1
    · rw [updH_ne _ _ hii] at hi; rw [hν i hii]; exact h.new i e1 b1 hi hm1
  · by_cases hii : i = id
    · subst hii; rw [updH_same] at hi; cases hi; rw [hνs]; exact ho b1 e1 l1 rfl
    · rw [updH_ne _ _ hii] at hi; rw [hν i hii]; exact h.old i e1 l1 b1 hi
  · by_cases hii : i = id
    · subst hii
      rcases hnv with hnv | hnv
      · exact absurd hnv hi
      · rw [hνs, hnv]
    · exact hν i hii
  · by_cases hii : i = id
    · subst hii
      rw [updH_same] at hi
      cases hi
      obtain ⟨h1, b, h2, h3⟩ := hlk _ _ _ _ rfl
      exact .inr ⟨h1, b, by rw [hνs]; exact h2, h3⟩
    · rw [updH_ne _ _ hii] at hi
      exact .inl ⟨hi, fun _ _ => rfl⟩

/-- 'resL', alike for one and for more. -/
theorem resL_cons {m : AM} {ms : List AM} (x : HP (m :: ms)) (id : Nat) (io : List (Nat × Ty)) :
    resL (m :: ms) x id io = match m, hpH x, io with
      | .io τ, y, (j, _) :: io => ((resL ms (hpT x) (id + 1) io).1, (j, some (.obj τ y)) :: (resL ms (hpT x) (id + 1) io).2.1, (resL ms (hpT x) (id + 1) io).2.2)
      | m, y, io => ((res1 m y id).1 :: (resL ms (hpT x) (id + 1) io).1, (res1 m y id).2 ++ (resL ms (hpT x) (id + 1) io).2.1, (resL ms (hpT x) (id + 1) io).2.2) := by
  cases ms with
  | nil => cases m <;> cases io <;> simp [resL, hpH]
  | cons n ms => cases m <;> cases io <;> simp [resL, hpH, hpT]

theorem nodup_mid {l1 l2 : List Nat} {b : Nat} (h : (l1 ++ l2).Nodup) (h1 : b ∈ l1) : b ∉ l2 := fun h2 => (List.nodup_append.1 h).2.2 b h1 b h2 rfl

theorem RR.io_mem : ∀ {ms : List AM} {x : HP ms} {us ps : List Value}, RR w M ms x us ps → ∀ p ∈ ps, ∀ b, blk p = some b → b ∈ blocksR ms us ps
  | [], _, _, _, h, p, hp, _, _ => by simp only [RR] at h; rw [h.2] at hp; simp at hp
  | m :: ms, x, us, ps, h, p, hp, b, hb => by
    simp only [RR] at h
    rcases h with ⟨p', ps', h1, rfl, h2, h3⟩ | ⟨v, us', h1, h2, rfl, h3, h4⟩
    · simp only [blocksR, h1, if_true, List.headD_cons, List.tail_cons, List.mem_append]
      rcases List.mem_cons.1 hp with rfl | hp
      · left
        cases m <;> simp [AM.isIo] at h1
        simp [hand1, hb]
      · exact .inr (RR.io_mem h3 p hp b hb)
    · simp only [blocksR, h1, Bool.false_eq_true, if_false, List.headD_cons, List.tail_cons, List.mem_append]
      exact .inr (RR.io_mem h4 p hp b hb)

/-- The results become entries. 'old': the entries' blocks that were there. -/
theorem resL_sound {hs : List Nat} {sz : Nat} : ∀ {ms : List AM} {x : HP ms} {us ps : List Value} {id : Nat} {io : List (Nat × Ty)} {H : Nat → Option Ent} {ν : Nat → Value} {used : List Nat},
    Mem c H w M ν → RR w M ms x us ps → ps = io.map (fun q => ν q.1) → ioTys ms = io.map (·.2) → (keys io).Nodup → (∀ q ∈ io, H q.1 = some .gone) → (∀ i, id ≤ i → i < id + ms.length → H i = none) →
    (∀ i e b, H i = some e → e.mut → blk (ν i) = some b → (b < sz ∧ b ∉ hs) ∨ b ∈ used) → (used ++ blocksR ms us ps).Nodup → (∀ b ∈ blocksR ms us ps, sz ≤ b ∨ b ∈ hs) →
    (∀ b ∈ blocksR ms us ps, (c.B ≤ b ∨ c.may b)) → (∀ b ∈ blocksR ms us ps, c.M0 b → ∃ p ∈ ps, blk p = some b) →
    ∃ ν', Mem c (upsH H (resL ms x id io).2.1) w M ν' ∧ VRs w M (upsH H (resL ms x id io).2.1) ν' (resL ms x id io).1 us ∧ (∀ i, H i ≠ none → ν' i = ν i) ∧
      (∀ i, i ∉ keys io → (i < id ∨ id + ms.length ≤ i) → upsH H (resL ms x id io).2.1 i = H i) ∧ (∀ i, id ≤ i → i < id + ms.length → ∀ e, upsH H (resL ms x id io).2.1 i = some e → (∃ e0 l0, e = .own e0 l0) ∨ ∃ τ0 z0, e = .obj τ0 z0) ∧
      (∀ q ∈ io, ∃ z : q.2.den, upsH H (resL ms x id io).2.1 q.1 = some (.obj q.2 z))
  | [], x, us, ps, id, io, H, ν, used, hm, hr, hps, hty, hion, hiog, hfree, hold, hnd, hnew, hprov, hM0 => by
    simp only [RR] at hr
    obtain ⟨rfl, rfl⟩ := hr
    have hio : io = [] := by
      cases io with
      | nil => rfl
      | cons q io => simp at hps
    subst hio
    exact ⟨ν, hm, by simp [resL, VRs], fun _ _ => rfl, fun _ _ _ => rfl, fun i h1 h2 => by simp at h2; omega, fun q hq => by simp at hq⟩
  | m :: ms, x, us, ps, id, io, H, ν, used, hm, hr, hps, hty, hion, hiog, hfree, hold, hnd, hnew, hprov, hM0 => by
    rw [resL_cons]
    simp only [RR] at hr
    rcases hr with ⟨p, ps', hmio, rfl, h1, h2⟩ | ⟨v, us', hmio, hmf, rfl, h1, h2⟩
    · -- handed back
      cases m with
      | io τ =>
        cases io with
        | nil => simp at hps
        | cons q io =>
          simp only [List.map_cons, List.cons.injEq] at hps
          obtain ⟨rfl, rfl⟩ := hps
          simp only [ioTys, List.map_cons, List.cons.injEq] at hty
          obtain ⟨hty1, hty2⟩ := hty
          simp only [keys, List.map_cons, List.nodup_cons] at hion
          have hbr : blocksR (.io τ :: ms) us (ν q.1 :: io.map fun q => ν q.1) = (blk (ν q.1)).toList ++ blocksR ms us (io.map fun q => ν q.1) := rfl
          rw [hbr] at hnd hnew hprov hM0
          have hq0 := hiog q List.mem_cons_self
          have hqid : q.1 < id ∨ id + (ms.length + 1) ≤ q.1 := by
            rcases Nat.lt_or_ge q.1 id with h' | h'
            · exact .inl h'
            · rcases Nat.lt_or_ge q.1 (id + (ms.length + 1)) with h'' | h''
              · rw [hfree q.1 h' h''] at hq0; cases hq0
              · exact .inr h''
          simp only [A1] at h1
          have hfresh : ∀ b, blk (ν q.1) = some b → ∀ i e', H i = some e' → e'.mut → blk (ν i) ≠ some b := by
            intro b hb i e' hi hm' hb'
            have hin : b ∈ (blk (ν q.1)).toList ++ blocksR ms us (io.map fun q => ν q.1) := List.mem_append_left _ (by rw [hb]; simp)
            rcases hold i e' b hi hm' hb' with ⟨h3, h4⟩ | h3
            · exact (hnew b hin).elim (fun h' => by omega) h4
            · exact nodup_mid hnd h3 hin
          have hm2 := Mem.adopt (c := c) hm (id := q.1) (v := ν q.1) (e := .obj τ (hpH x)) (fun e' he' => by rw [hq0] at he'; cases he'; simp [Ent.mut]) h1 hfresh (fun b hb => hprov b (List.mem_append_left _ (by rw [hb]; simp))) (fun b e0 l0 he => by cases he) (.inr rfl)
          have hνe : updν ν q.1 (ν q.1) = ν := by funext i; unfold updν; split <;> simp_all
          rw [hνe] at hm2
          have hps2 : ∀ (q' : Nat × Ty), q' ∈ io → q'.1 ≠ q.1 := fun q' hq' e => hion.1 (List.mem_map.2 ⟨q', hq', e⟩)
          obtain ⟨ν', r1, r2, r3, r4, r5, r6⟩ := resL_sound (ms := ms) (x := hpT x) (us := us) (ps := io.map fun q => ν q.1) (id := id + 1) (io := io) (used := used ++ (blk (ν q.1)).toList) hm2 h2 rfl hty2 hion.2
            (fun q' hq' => by rw [updH_ne _ _ (hps2 q' hq')]; exact hiog q' (List.mem_cons_of_mem _ hq'))
            (fun i h3 h4 => by
              have : i ≠ q.1 := by omega
              rw [updH_ne _ _ this]
              exact hfree i (by omega) (by simp only [List.length_cons]; omega))
            (fun i e b hi hm' hb => by
              by_cases hii : i = q.1
              · subst hii; exact .inr (List.mem_append_right _ (by rw [hb]; simp))
              · rw [updH_ne _ _ hii] at hi
                exact (hold i e b hi hm' hb).imp (fun h => h) (List.mem_append_left _))
            (by rw [List.append_assoc]; exact hnd) (fun b hb => hnew b (List.mem_append_right _ hb)) (fun b hb => hprov b (List.mem_append_right _ hb))
            (fun b hb hb0 => by
              obtain ⟨p, hp, hpb⟩ := hM0 b (List.mem_append_right _ hb) hb0
              rcases List.mem_cons.1 hp with rfl | hp
              · exact absurd (nodup_mid (List.nodup_append.1 hnd).2.1 (b := b) (by rw [hpb]; simp)) (by simpa using hb)
              · exact ⟨p, hp, hpb⟩)
          refine ⟨ν', r1, r2, fun i hi => ?_, fun i h3 h4 => ?_, fun i h3 h4 e he => ?_, fun q' hq' => ?_⟩
          · exact r3 i (by
              by_cases hii : i = q.1
              · subst hii; rw [updH_same]; simp
              · rw [updH_ne _ _ hii]; exact hi)
          · simp only [keys, List.map_cons, List.mem_cons, not_or] at h3
            have := r4 i h3.2 (by simp only [List.length_cons] at h4; omega)
            rw [updH_ne _ _ h3.1] at this
            exact this
          · by_cases h5 : id + 1 ≤ i
            · exact r5 i h5 (by simp only [List.length_cons] at h4; omega) e he
            · have hii : i = id := by omega
              subst hii
              by_cases hk : i ∈ keys io
              · obtain ⟨q', hq', hqe⟩ := List.mem_map.1 hk
                have h9 := hiog q' (List.mem_cons_of_mem _ hq')
                rw [hqe, hfree i (Nat.le_refl _) (by simp)] at h9
                cases h9
              · have := r4 i hk (.inl (by omega))
                have hne : i ≠ q.1 := by omega
                rw [updH_ne _ _ hne, hfree i (Nat.le_refl _) (by simp)] at this
                have he : upsH (updH H q.1 (some (Ent.obj τ (hpH x)))) (resL ms (hpT x) (i + 1) io).2.1 i = some e := he
                rw [this] at he; cases he
          · rcases List.mem_cons.1 hq' with rfl | hq'
            · have := r4 q'.1 hion.1 (by omega)
              rw [updH_same] at this
              rw [← hty1]
              exact ⟨hpH x, this⟩
            · exact r6 q' hq'
      | v τ => simp [AM.isIo] at hmio
      | own τ => simp [AM.isIo] at hmio
      | fn f τ => simp [AM.isIo] at hmio
      | ptr τ => simp [AM.isIo] at hmio
      | adr τ => simp [AM.isIo] at hmio
    · -- a result
      have hidn : H id = none := hfree id (Nat.le_refl _) (by simp)
      cases m with
      | io τ => simp [AM.isIo] at hmio
      | fn f τ => simp [AM.isFn] at hmf
      | adr τ => simp [AM.isFn] at hmf
      | v τ =>
        have hbr : blocksR (.v τ :: ms) (v :: us') ps = blocksR ms us' ps := rfl
        rw [hbr] at hnd hnew hprov hM0
        simp only [A1] at h1
        obtain ⟨ν', r1, r2, r3, r4, r5, r6⟩ := resL_sound (ms := ms) (x := hpT x) (us := us') (ps := ps) (id := id + 1) (io := io) (used := used) hm h2 hps (by simpa [ioTys] using hty) hion hiog (fun i h3 h4 => hfree i (by omega) (by simp only [List.length_cons]; omega)) hold hnd hnew hprov hM0
        refine ⟨ν', r1, ?_, r3, fun i h3 h4 => r4 i h3 (by simp only [List.length_cons] at h4; omega), fun i h3 h4 e he => ?_, r6⟩
        · simp only [res1, VRs, VR]; exact ⟨h1, r2⟩
        · by_cases h5 : id + 1 ≤ i
          · exact r5 i h5 (by simp only [List.length_cons] at h4; omega) e he
          · have hii : i = id := by omega
            subst hii
            by_cases hk : i ∈ keys io
            · obtain ⟨q', hq', hqe⟩ := List.mem_map.1 hk
              have h9 := hiog q' hq'
              rw [hqe, hidn] at h9; cases h9
            · have := r4 i hk (.inl (by omega))
              rw [hidn] at this
              have he : upsH H (resL ms (hpT x) (i + 1) io).2.1 i = some e := he
              rw [this] at he; cases he
      | own τ =>
        have hbr : blocksR (.own τ :: ms) (v :: us') ps = (blk v).toList ++ blocksR ms us' ps := rfl
        rw [hbr] at hnd hnew hprov hM0
        simp only [A1] at h1
        have hfresh : ∀ b, blk v = some b → ∀ i e', H i = some e' → e'.mut → blk (ν i) ≠ some b := by
          intro b hb i e' hi hm' hb'
          have hin : b ∈ (blk v).toList ++ blocksR ms us' ps := List.mem_append_left _ (by rw [hb]; simp)
          rcases hold i e' b hi hm' hb' with ⟨h3, h4⟩ | h3
          · exact (hnew b hin).elim (fun h' => by omega) h4
          · exact nodup_mid hnd h3 hin
        have hold0 : ∀ b, blk v = some b → ¬ c.M0 b := by
          intro b hb h0
          have hin : b ∈ (blk v).toList := by rw [hb]; simp
          obtain ⟨p, hp, hpb⟩ := hM0 b (List.mem_append_left _ hin) h0
          exact nodup_mid (List.nodup_append.1 hnd).2.1 hin (RR.io_mem h2 p hp b hpb)
        have hm2 := Mem.adopt (c := c) hm (id := id) (v := v) (e := .own τ (hpH x)) (fun e' he' => by rw [hidn] at he'; cases he') h1 hfresh (fun b hb => hprov b (List.mem_append_left _ (by rw [hb]; simp))) (fun b e0 l0 _ hb => hold0 b hb) (.inl hidn)
        have hqid : ∀ q ∈ io, q.1 ≠ id := fun q hq e => by
          have h9 := hiog q hq
          rw [e, hidn] at h9; cases h9
        have hν2 : ∀ i, i ≠ id → updν ν id v i = ν i := fun i hi => by simp [updν, hi]
        obtain ⟨ν', r1, r2, r3, r4, r5, r6⟩ := resL_sound (ms := ms) (x := hpT x) (us := us') (ps := ps) (id := id + 1) (io := io) (used := used ++ (blk v).toList) hm2 h2
          (by rw [hps]; exact List.map_congr_left fun q hq => (hν2 _ (hqid q hq)).symm) (by simpa [ioTys] using hty) hion
          (fun q hq => by rw [updH_ne _ _ (hqid q hq)]; exact hiog q hq)
          (fun i h3 h4 => by rw [updH_ne _ _ (by omega)]; exact hfree i (by omega) (by simp only [List.length_cons]; omega))
          (fun i e b hi hm' hb => by
            by_cases hii : i = id
            · subst hii
              have : updν ν i v i = v := by simp [updν]
              rw [this] at hb
              exact .inr (List.mem_append_right _ (by rw [hb]; simp))
            · rw [updH_ne _ _ hii] at hi
              rw [hν2 i hii] at hb
              exact (hold i e b hi hm' hb).imp (fun h => h) (List.mem_append_left _))
          (by rw [List.append_assoc]; exact hnd) (fun b hb => hnew b (List.mem_append_right _ hb)) (fun b hb => hprov b (List.mem_append_right _ hb)) (fun b hb => hM0 b (List.mem_append_right _ hb))
        have hkid : id ∉ keys io := fun hk => by
          obtain ⟨q, hq, hqe⟩ := List.mem_map.1 hk
          exact hqid q hq hqe
        have hat : upsH (updH H id (some (.own τ (hpH x)))) (resL ms (hpT x) (id + 1) io).2.1 id = some (.own τ (hpH x)) := by
          rw [r4 id hkid (.inl (by omega)), updH_same]
        refine ⟨ν', r1, ?_, fun i hi => ?_, fun i h3 h4 => ?_, fun i h3 h4 e he => ?_, r6⟩
        · simp only [res1, VRs, VR]
          refine ⟨⟨?_, ?_⟩, r2⟩
          · show upsH (updH H id (some (.own τ (hpH x)))) (resL ms (hpT x) (id + 1) io).2.1 id ≠ none
            rw [hat]; simp
          · rw [r3 id (by rw [updH_same]; simp)]; simp [updν]
        · have hii : i ≠ id := fun e => hi (e ▸ hidn)
          rw [r3 i (by rw [updH_ne _ _ hii]; exact hi), hν2 i hii]
        · have hii : i ≠ id := by simp only [List.length_cons] at h4; omega
          have := r4 i h3 (by simp only [List.length_cons] at h4; omega)
          rw [updH_ne _ _ hii] at this
          exact this
        · by_cases h5 : id + 1 ≤ i
          · exact r5 i h5 (by simp only [List.length_cons] at h4; omega) e he
          · have hii : i = id := by omega
            subst hii
            have he : upsH (updH H i (some (.own τ (hpH x)))) (resL ms (hpT x) (i + 1) io).2.1 i = some e := he
            rw [hat] at he; cases he
            exact .inl ⟨τ, _, rfl⟩
      | ptr τ =>
        have hbr : blocksR (.ptr τ :: ms) (v :: us') ps = (blk v).toList ++ blocksR ms us' ps := rfl
        rw [hbr] at hnd hnew hprov hM0
        simp only [A1] at h1
        have hfresh : ∀ b, blk v = some b → ∀ i e', H i = some e' → e'.mut → blk (ν i) ≠ some b := by
          intro b hb i e' hi hm' hb'
          have hin : b ∈ (blk v).toList ++ blocksR ms us' ps := List.mem_append_left _ (by rw [hb]; simp)
          rcases hold i e' b hi hm' hb' with ⟨h3, h4⟩ | h3
          · exact (hnew b hin).elim (fun h' => by omega) h4
          · exact nodup_mid hnd h3 hin
        have hm2 := Mem.adopt (c := c) hm (id := id) (v := v) (e := .obj τ (hpH x)) (fun e' he' => by rw [hidn] at he'; cases he') h1 hfresh (fun b hb => hprov b (List.mem_append_left _ (by rw [hb]; simp))) (fun b e0 l0 he _ => by cases he) (.inl hidn)
        have hqid : ∀ q ∈ io, q.1 ≠ id := fun q hq e => by
          have h9 := hiog q hq
          rw [e, hidn] at h9; cases h9
        have hν2 : ∀ i, i ≠ id → updν ν id v i = ν i := fun i hi => by simp [updν, hi]
        obtain ⟨ν', r1, r2, r3, r4, r5, r6⟩ := resL_sound (ms := ms) (x := hpT x) (us := us') (ps := ps) (id := id + 1) (io := io) (used := used ++ (blk v).toList) hm2 h2
          (by rw [hps]; exact List.map_congr_left fun q hq => (hν2 _ (hqid q hq)).symm) (by simpa [ioTys] using hty) hion
          (fun q hq => by rw [updH_ne _ _ (hqid q hq)]; exact hiog q hq)
          (fun i h3 h4 => by rw [updH_ne _ _ (by omega)]; exact hfree i (by omega) (by simp only [List.length_cons]; omega))
          (fun i e b hi hm' hb => by
            by_cases hii : i = id
            · subst hii
              have : updν ν i v i = v := by simp [updν]
              rw [this] at hb
              exact .inr (List.mem_append_right _ (by rw [hb]; simp))
            · rw [updH_ne _ _ hii] at hi
              rw [hν2 i hii] at hb
              exact (hold i e b hi hm' hb).imp (fun h => h) (List.mem_append_left _))
          (by rw [List.append_assoc]; exact hnd) (fun b hb => hnew b (List.mem_append_right _ hb)) (fun b hb => hprov b (List.mem_append_right _ hb)) (fun b hb => hM0 b (List.mem_append_right _ hb))
        have hkid : id ∉ keys io := fun hk => by
          obtain ⟨q, hq, hqe⟩ := List.mem_map.1 hk
          exact hqid q hq hqe
        have hat : upsH (updH H id (some (.obj τ (hpH x)))) (resL ms (hpT x) (id + 1) io).2.1 id = some (.obj τ (hpH x)) := by
          rw [r4 id hkid (.inl (by omega)), updH_same]
        refine ⟨ν', r1, ?_, fun i hi => ?_, fun i h3 h4 => ?_, fun i h3 h4 e he => ?_, r6⟩
        · simp only [res1, VRs, VR]
          refine ⟨⟨_, hat, trivial, ?_⟩, r2⟩
          simp only [A1, ER] at h1
          obtain ⟨b, cs, t, hvb, _⟩ := h1
          exact ⟨b, by rw [r3 id (by rw [updH_same]; simp)]; simp [updν, hvb], hvb⟩
        · have hii : i ≠ id := fun e => hi (e ▸ hidn)
          rw [r3 i (by rw [updH_ne _ _ hii]; exact hi), hν2 i hii]
        · have hii : i ≠ id := by simp only [List.length_cons] at h4; omega
          have := r4 i h3 (by simp only [List.length_cons] at h4; omega)
          rw [updH_ne _ _ hii] at this
          exact this
        · by_cases h5 : id + 1 ≤ i
          · exact r5 i h5 (by simp only [List.length_cons] at h4; omega) e he
          · have hii : i = id := by omega
            subst hii
            have he : upsH (updH H i (some (.obj τ (hpH x)))) (resL ms (hpT x) (i + 1) io).2.1 i = some e := he
            rw [hat] at he; cases he
            exact .inr ⟨τ, _, rfl⟩

end VM
end

section
/- The value machine, twenty-first text: a call. -/
namespace VM
open Go
variable {P : Program} {E : Env} {o : Oper} {a : Act} {w : World} {M : Nat → Prop} {ν : Nat → Value} {σ : St} {c : Ctx} {α : Type} {r : α} {next : Act → World → Prop} {Q : Exit → Act → World → Prop}

theorem upsH_mem {i : Nat} : ∀ {ups : Ups} {H : Nat → Option Ent}, i ∈ keys ups → ∃ u ∈ ups, u.1 = i ∧ upsH H ups i = u.2
  | [], _, h => by simp [keys] at h
  | u :: r, H, h => by
    by_cases hk : i ∈ keys r
    · obtain ⟨v, h1, h2, h3⟩ := upsH_mem (H := updH H u.1 u.2) hk
      exact ⟨v, List.mem_cons_of_mem _ h1, h2, h3⟩
    · have hi : i = u.1 := by
        simp only [keys, List.map_cons, List.mem_cons] at h hk
        exact h.resolve_right hk
      refine ⟨u, List.mem_cons_self, hi.symm, ?_⟩
      show upsH (updH H u.1 u.2) r i = _
      rw [upsH_not hk, hi, updH_same]

theorem upsH_congr : ∀ {ups : Ups} {H H' : Nat → Option Ent}, (∀ i, i ∉ keys ups → H i = H' i) → upsH H ups = upsH H' ups
  | [], H, H', h => funext fun i => h i (by simp [keys])
  | u :: r, H, H', h => by
    refine upsH_congr (ups := r) fun i hi => ?_
    by_cases hu : i = u.1
    · subst hu; rw [updH_same, updH_same]
    · rw [updH_ne _ _ hu, updH_ne _ _ hu]
      exact h i (by simp only [keys, List.map_cons, List.mem_cons, not_or]; exact ⟨hu, hi⟩)

theorem RR.blocks_mem : ∀ {ms : List AM} {x : HP ms} {us ps : List Value}, RR w M ms x us ps → ∀ b ∈ blocksR ms us ps, M b
  | [], _, _, _, _, b, hb => by simp [blocksR] at hb
  | m :: ms, x, us, ps, h, b, hb => by
    simp only [RR] at h
    rcases h with ⟨p, ps', h1, rfl, h2, h3⟩ | ⟨v, us', h1, h2, rfl, h3, h4⟩
    · simp only [blocksR, h1, if_true, List.headD_cons, List.tail_cons, List.mem_append] at hb
      rcases hb with hb | hb
      · cases m <;> simp [AM.isIo] at h1
        simp only [hand1, Option.mem_toList, A1] at hb h2
        exact h2.memM trivial hb
      · exact RR.blocks_mem h3 b hb
    · simp only [blocksR, h1, Bool.false_eq_true, if_false, List.headD_cons, List.tail_cons, List.mem_append] at hb
      rcases hb with hb | hb
      · cases m with
        | own e =>
          simp only [hand1, Option.mem_toList, A1] at hb h3
          exact h3.memM trivial hb
        | v _ => simp [hand1] at hb
        | io _ => simp [AM.isIo] at h1
        | fn _ _ => simp [hand1] at hb
        | adr _ => simp [hand1] at hb
        | ptr τ =>
          simp only [hand1, Option.mem_toList, A1] at hb h3
          exact h3.memM trivial hb
      · exact RR.blocks_mem h4 b hb

theorem pickS_mem : ∀ {l : List Summ} {as' : List AVal} {S : Summ}, pickS l as' = some S → S ∈ l
  | [], _, _, h => by simp [pickS] at h
  | T :: l, as', S, h => by
    unfold pickS at h
    cases hf : fits T.args as'
    · rw [hf] at h; exact List.mem_cons_of_mem _ (pickS_mem h)
    · rw [hf] at h; cases h; exact List.mem_cons_self

theorem freeAll_inv {H : Nat → Option Ent} {id : Nat} : ∀ {n : Nat}, freeAll H id n = true → ∀ i, id ≤ i → i < id + n → H i = none
  | 0, _, i, h1, h2 => by omega
  | n + 1, h, i, h1, h2 => by
    unfold freeAll at h
    rw [Bool.and_eq_true] at h
    by_cases hi : i = id + n
    · subst hi
      have h := h.1
      split at h
      · assumption
      · cases h
    · exact freeAll_inv h.2 i h1 (by omega)

theorem packVR {H : Nat → Option Ent} {as' : List AVal} {us : List Value} (h : VRs w M H ν as' us) : VR w M H ν (packA as') (packV us) := by
  match as', us, h with
  | [], [], _ => simp [packA, VR]
  | [a], [u], h => simp only [VRs, and_true] at h; simpa [packA, packV] using h
  | a :: b :: as', u :: v :: us, h =>
    simp only [packA, VR]
    exact ⟨u :: v :: us, by simp [packV], h⟩
  | [], _ :: _, h => simp [VRs] at h
  | _ :: _, [], h => simp [VRs] at h
  | [_], _ :: _ :: _, h => simp [VRs] at h
  | _ :: _ :: _, [_], h => simp [VRs] at h

theorem callK_sound (hΓ : ∀ f S, S ∈ E.Γ f → SumOk P f S) {H : Nat → Option Ent} (hm : Mem c H w M ν) {f id : Nat} {as' : List AVal} {vs : List Value} (hv : VRs w M H ν as' vs) {K : OpK α} (h : callK E f as' id H K = some r)
    {R : Value → World → Prop} (hR : ∀ v rd ups v' w' M' ν', K v rd ups = some r → Tr c H w M ν (upsH H ups) w' M' ν' → VR w' M' (upsH H ups) ν' v v' → R v' w') :
    Does P f vs.toArray w R := by
  unfold callK at h
  split at h
  · cases h
  rename_i S hS
  have hok := hΓ f S (pickS_mem hS)
  obtain ⟨x, rd, uo, uf, io, H2, Hq, M2, h1, hA, hK, hargs, hi1, hi2⟩ := argsK_sound (ArgSt.start hm) hv h
  clear h
  simp only [List.nil_append, List.map_nil] at hA hi1 hi2
  obtain ⟨y, hy, h1⟩ := Option.bind_eq_some_iff.1 h1
  obtain ⟨hfree, h1⟩ := cond_inv h1
  have hfree := freeAll_inv hfree
  have hMeq : (fun b => (M2 b ∧ b ∉ hands S.args vs) ∨ b ∈ hands S.args vs) = M2 := by
    funext b
    refine propext ⟨fun h => h.elim (·.1) (hA.hM b), fun h => ?_⟩
    by_cases hb : b ∈ hands S.args vs
    · exact .inr hb
    · exact .inl ⟨h, hb⟩
  refine Does.mono (hok.call (fun b => M2 b ∧ b ∉ hands S.args vs) w vs x y (fun b hb => hA.mem.lim b hb.1) (by rw [hMeq]; exact hargs) hA.nd (fun b hb h => h.2 hb) hy) ?_
  rintro e w' ⟨us, M', rfl, hRR, hL, hnd, hn0⟩
  have hio' : ∀ b ∈ hands S.args vs, c.M0 b → M' b := by
    intro b hb h0
    obtain ⟨q, hq, hqb⟩ := hA.iob b hb h0
    exact hRR.blocks_mem b (hRR.io_mem (ν q.1) (by rw [← hi1]; exact List.mem_map_of_mem hq) b hqb)
  have hnew : ∀ b ∈ blocksR S.res us (iosOf S.args vs), w.heap.size ≤ b ∨ b ∈ hands S.args vs := by
    intro b hb
    rcases Nat.lt_or_ge b w.heap.size with hlt | hge
    · exact .inr ((hL.less b hlt (hRR.blocks_mem b hb)).resolve_left (hn0 b hb))
    · exact .inl hge
  have hprov : ∀ b ∈ blocksR S.res us (iosOf S.args vs), c.B ≤ b ∨ c.may b := fun b hb => (hnew b hb).elim (fun h => .inl (Nat.le_trans hm.size h)) (hA.prov b)
  have hM0 : ∀ b ∈ blocksR S.res us (iosOf S.args vs), c.M0 b → ∃ p ∈ iosOf S.args vs, blk p = some b := by
    intro b hb h0
    rcases hnew b hb with h' | h'
    · have := hm.lim0.1 b h0; have := hm.size; omega
    · obtain ⟨q, hq, hqb⟩ := hA.iob b h' h0
      exact ⟨ν q.1, by rw [← hi1]; exact List.mem_map_of_mem hq, hqb⟩
  -- with or without the freezing
  have key : ∀ (Hx : Nat → Option Ent) (Mx : Nat → Prop) (U : Ups), Mem c Hx w Mx ν → Keeps w M w Mx → (∀ b, M2 b → Mx b) → (∀ b ∈ hands S.args vs, ∀ i e, Hx i = some e → e.mut → blk (ν i) ≠ some b) →
      (∀ q ∈ io, Hx q.1 = some .gone) → (∀ i, i ∉ keys io → upsH H (uo ++ U) i = Hx i) → (∀ u ∈ uo ++ U, u.2 = some .gone ∨ ∃ e l, u.2 = some (.frz e l) ∧ H u.1 = some (.own e l)) → (∀ i ∈ keys (uo ++ U), i ∈ keys (uo ++ uf)) →
      RR w' (fun b => M' b ∨ (Mx b ∧ b ∉ hands S.args vs)) S.res y us (iosOf S.args vs) →
      ∃ ν', Tr c H w M ν (upsH H (uo ++ U ++ (resL S.res y id io).2.1)) w' (fun b => M' b ∨ (Mx b ∧ b ∉ hands S.args vs)) ν' ∧
        VRs w' (fun b => M' b ∨ (Mx b ∧ b ∉ hands S.args vs)) (upsH H (uo ++ U ++ (resL S.res y id io).2.1)) ν' (resL S.res y id io).1 us := by
    intro Hx Mx U hmx hkx hsub hno hgone hext hval hU hrr
    obtain ⟨hmem, hkeep⟩ := hmx.call (fun b hb => hsub b hb.1) (fun b hb => hsub b (hA.hM b hb)) hno hA.prov hio' hL
    have hx : ∀ i e, H i = some e → i ∉ keys io → ∃ e', Hx i = some e' ∧ e.like e' := by
      intro i e hi hki
      rw [← hext i hki]
      by_cases hk : i ∈ keys (uo ++ U)
      · obtain ⟨u, hu, hui, huv⟩ := upsH_mem (H := H) hk
        rw [huv]
        rcases hval u hu with h' | ⟨e1, l1, h', h''⟩
        · exact ⟨_, h', Ent.like_gone e⟩
        · rw [hui, hi] at h''; cases h''; exact ⟨_, h', rfl, rfl⟩
      · rw [upsH_not hk]; exact ⟨e, hi, .refl e⟩
    have hfr : ∀ i, id ≤ i → i < id + S.res.length → Hx i = none := by
      intro i h3 h4
      have h0 := hfree i h3 h4
      have hki : i ∉ keys io := fun hk => by
        obtain ⟨q, hq, hqe⟩ := List.mem_map.1 hk
        obtain ⟨_, _, z, hz⟩ := hA.iog q hq
        rw [hqe, h0] at hz; cases hz
      rw [← hext i hki]
      rw [upsH_not, h0]
      intro hk
      obtain ⟨_, e, l, h'⟩ := hA.ksn i (hU i hk)
      rw [h0] at h'; cases h'
    obtain ⟨ν', r1, r2, r3, r4, r5, r6⟩ := resL_sound (hs := hands S.args vs) (sz := w.heap.size) (id := id) (used := []) hmem hrr hi1.symm (by rw [← hok.ios, ← hi2]) hA.ion hgone hfr
      (fun i e b hi hmu hb => .inl ⟨hmx.lim b ((hmx.ent i e hi).memM hmu hb), fun hh => hno b hh i e hi hmu hb⟩) (by simpa using hnd) hnew hprov hM0
    have hHeq : upsH H (uo ++ U ++ (resL S.res y id io).2.1) = upsH Hx (resL S.res y id io).2.1 := by
      rw [upsH_append]
      refine upsH_congr fun i hi => ?_
      by_cases hki : i ∈ keys io
      · obtain ⟨q, hq, hqe⟩ := List.mem_map.1 hki
        obtain ⟨z, hz⟩ := r6 q hq
        rw [hqe, upsH_not hi, ← hqe, hgone q hq] at hz; cases hz
      · exact hext i hki
    refine ⟨ν', ⟨by rw [hHeq]; exact r1, hkx.trans hkeep, ⟨fun i e hi => ?_, fun i hi => ?_⟩⟩, by rw [hHeq]; exact r2⟩
    · rw [hHeq]
      by_cases hki : i ∈ keys io
      · obtain ⟨q, hq, hqe⟩ := List.mem_map.1 hki
        obtain ⟨z, hz⟩ := r6 q hq
        obtain ⟨_, _, z0, hz0⟩ := hA.iog q hq
        rw [hqe] at hz hz0
        rw [hi] at hz0; cases hz0
        exact ⟨_, hz, rfl⟩
      · obtain ⟨e', he', hl⟩ := hx i e hi hki
        have hr : i < id ∨ id + S.res.length ≤ i := by
          rcases Nat.lt_or_ge i id with h' | h'
          · exact .inl h'
          · rcases Nat.lt_or_ge i (id + S.res.length) with h'' | h''
            · rw [hfree i h' h''] at hi; cases hi
            · exact .inr h''
        exact ⟨e', by rw [r4 i hki hr]; exact he', hl⟩
    · refine r3 i ?_
      obtain ⟨e, he⟩ := Option.ne_none_iff_exists'.1 hi
      by_cases hki : i ∈ keys io
      · obtain ⟨q, hq, hqe⟩ := List.mem_map.1 hki
        rw [← hqe, hgone q hq]; simp
      · obtain ⟨e', he', _⟩ := hx i e he hki
        rw [he']; simp
  cases hq : S.quiet
  · -- with
    rw [hq] at h1
    have hMn : (fun b => M' b ∨ (M2 b ∧ b ∉ hands S.args vs)) = M' := by
      funext b
      exact propext ⟨fun h => h.elim (fun h => h) (hL.sub b), .inl⟩
    obtain ⟨ν', htr, hvr⟩ := key H2 M2 uf hA.mem hA.keep (fun _ h => h) (fun b hb i e hi hmu => hA.none b hb i e (hA.fz.mut hi hmu) hmu) (fun q hq => (hA.iog q hq).1) hA.ext
      (fun u hu => (List.mem_append.1 hu).elim (fun h => .inl (hA.uov u h)) (fun h => .inr (hA.ufv u h))) (fun _ h => h) (by rw [hMn]; exact hRR)
    exact hR _ _ _ _ _ _ _ h1 htr (packVR hvr)
  · rw [hq] at h1
    have hsub : ∀ b, M2 b → M b := fun b hb => hA.keep.less b (hA.mem.lim b hb) hb
    obtain ⟨ν', htr, hvr⟩ := key Hq M [] hA.memq (.refl w M) hsub hA.none (fun q hq => (hA.iog q hq).2.1) (by rw [List.append_nil]; exact hA.extq)
      (fun u hu => .inl (hA.uov u (by simpa using hu))) (fun i hi => by simp only [keys, List.append_nil, List.map_append, List.mem_append] at hi ⊢; exact .inl hi) (hRR.flat (fun b h => .inl h) (hok.quiet hq))
    exact hR _ _ _ _ _ _ _ h1 htr (packVR hvr)

theorem op_call (hΓ : ∀ f S, S ∈ E.Γ f → SumOk P f S) (hc : Core c σ a.tmps w M ν) {args : Array Operand} {ts : Array TypeId} {g : Operand} (ho : o.op = .call { callee := .value g, args, argTypes := ts }) {K : OpK α} {f : Nat} {caps : List AVal} (hg : σ.ρ g = .clo f caps) {id : Nat}
    (h : callK E f (args.toList.map σ.ρ ++ caps) id σ.H K = some r) (hn : Goes1 c σ a o w M ν K r next) : o.wp P a w next Q := by
  have hgv := hc.ev g
  rw [hg] at hgv
  simp only [VR] at hgv
  obtain ⟨cs, hgv, hcs⟩ := hgv
  have happ : ∀ {as1 : List AVal} {vs1 : List Value}, VRs w M σ.H ν as1 vs1 → VRs w M σ.H ν (as1 ++ caps) (vs1 ++ cs) := by
    intro as1
    induction as1 with
    | nil => intro vs1 h1; cases vs1 with
      | nil => exact hcs
      | cons _ _ => simp [VRs] at h1
    | cons x as1 ih => intro vs1 h1; cases vs1 with
      | nil => simp [VRs] at h1
      | cons v vs1 => simp only [VRs] at h1; simp only [List.cons_append, VRs]; exact ⟨h1.1, ih h1.2⟩
  have hd := callK_sound (P := P) hΓ hc.mem (happ (hc.evs args.toList)) h (R := fun v' w' => next (a.put o.dst v') w') (fun v rd ups v' w' M' ν' h1 h2 h3 => hn v rd ups v' w' M' ν' h1 h2 h3)
  have hex : (execOp a.eval o).run P w = (callFunc f (args.toList.map a.eval ++ cs).toArray).run P w := by
    have : (args.toList.map a.eval ++ cs).toArray = #[] ++ args.map a.eval ++ cs.toArray := by apply Array.ext'; simp
    rw [this]
    simp [execOp, ho, resolve, hgv, Deferred.ofValue, invoke]
  unfold Oper.wp
  rw [hex]
  exact hd o a next Q fun v w' hv => hv

end VM
end

section
/- The value machine, twenty-second text: any operation; an operation with its guard. -/
namespace VM
open Go
variable {P : Program} {E : Env} {o : Oper} {a : Act} {w : World} {M : Nat → Prop} {ν : Nat → Value} {σ : St} {c : Ctx} {α : Type} {r : α} {next : Act → World → Prop} {Q : Exit → Act → World → Prop}

structure EnvOk (P : Program) (E : Env) : Prop extends EnvTy P E where
  sums : ∀ f S, S ∈ E.Γ f → SumOk P f S
  mixed : P.follows .mixedOrders = true
  freshL : ∀ i L, E.cutL i = some L → VM.freshL L = true
  freshJ : ∀ i L, E.cutJ i = some L → VM.freshL L = true

theorem opK_sound (hE : EnvOk P E) (hc : Core c σ a.tmps w M ν) {K : OpK α} (h : opK E o σ.ρ σ.H K = some r) (hn : Goes1 c σ a o w M ν K r next) : o.wp P a w next Q := by
  have hT := hE.toEnvTy
  unfold opK at h
  simp only at h
  split at h
  · rename_i x ho; exact op_move hc (.inl ho) h hn
  · rename_i x ho; exact op_move hc (.inr ho) h hn
  · rename_i x y z ho
    split at h
    · rename_i t hx; exact op_pick hc ho hx h hn
    · cases h
  · rename_i t ho
    split at h
    · rename_i τ ht; exact op_alloc hT hc ho ht h hn
    · cases h
  · rename_i t x ho
    split at h
    · rename_i τ ht; exact op_box hT hc ho h hn
    · cases h
  · rename_i t ps ho
    split at h
    · rename_i n e ht; exact op_build_arr hT hc ho ht h hn
    · rename_i τ hna ht; exact op_build_struct hT hc ho ht (fun n e he => hna n e he) h hn
    · cases h
  · rename_i t n ps ho
    split at h
    · rename_i e ht; exact op_buildSlice hT hc ho ht h hn
    · cases h
  · rename_i t x ho
    split at h
    · rename_i τ ht; exact op_load hT hc ho ht h hn
    · cases h
  · rename_i t x y ho
    split at h
    · rename_i τ ht; exact op_storeN hT hc ho ht h hn
    · cases h
  · rename_i x ho
    split at h
    · rename_i id p hx; exact op_nilCheck_adr hc ho hx h hn
    · rename_i τ z hx; exact op_nilCheck_iadr hc ho hx h hn
    · cases h
  · rename_i b t x y t' ho; exact op_binOp hT hc ho h hn
  · rename_i u t x ho; exact op_unOp hc ho h hn
  · rename_i s d x ho
    split at h
    · rename_i τ k hs hd; exact op_convert hT hc ho hs hd h hn
    · cases h
  · rename_i f first caps ho; exact op_makeFunc hc ho h hn
  · rename_i t x y ho
    split at h
    · rename_i e ht; exact op_makeSlice hT hc ho ht h hn
    · cases h
  · rename_i t x lo hi mx ho
    split at h
    · rename_i τ ht; exact op_slice hT hc ho ht h hn
    · cases h
  · rename_i t x n ho
    split at h
    · rename_i τ ht
      split at h
      · rename_i id p hx; exact op_fieldAddr_adr hT hc ho ht hx h hn
      · rename_i υ z hx; exact op_fieldAddr_iadr hT hc ho ht hx h hn
      · cases h
    · cases h
  · rename_i t x n ho
    split at h
    · rename_i τ ht
      split at h
      · rename_i υ z hx; exact op_field hT hc ho ht hx h hn
      · cases h
    · cases h
  · rename_i t x i ho
    split at h
    · rename_i τ ht; exact op_indexAddr hT hc ho ht h hn
    · cases h
  · rename_i t x i ho
    split at h
    · rename_i τ ht; exact op_index hT hc ho ht h hn
    · cases h
  · rename_i x i ho
    split at h
    · rename_i vs hx
      split at h
      · rename_i v hv; exact op_extract hc ho hx hv h hn
      · cases h
    · cases h
  · rename_i cl ho
    obtain ⟨callee, args, ts⟩ := cl
    simp only at h
    split at h
    · split at h
      · rename_i x τ ha ht; exact op_len hT hc ho ha ht h hn
      · cases h
    · split at h
      · rename_i x y t t' ha ht
        split at h
        · rename_i e hte; exact op_append hT hc ho ha ht hte h hn
        · cases h
      · cases h
    · split at h
      · rename_i x xs ha; exact op_mm hc true ho ha h hn
      · cases h
    · split at h
      · rename_i x xs ha; exact op_mm hc false ho ha h hn
      · cases h
    · rename_i g
      split at h
      · rename_i f caps hg; exact op_call hE.sums hc ho hg h hn
      · cases h
    · cases h
  · cases h

end VM
end

section
/- The value machine, twenty-third text: regions in order, conditions, loops, code. -/
namespace VM
open Go
variable {P : Program} {E : Env} {o : Oper} {a : Act} {w : World} {M : Nat → Prop} {ν : Nat → Value} {σ : St} {c : Ctx} {α : Type} {r : α} {next : Act → World → Prop} {Q : Exit → Act → World → Prop}

theorem put_T_same (σ : St) (d : Nat) (v : AVal) : (σ.put d v).T d = v := by
  show cond (Nat.beq d d) v (σ.T d) = v
  rw [show Nat.beq d d = true from Nat.beq_refl d]; rfl
theorem put_T_ne (σ : St) {d i : Nat} (v : AVal) (h : i ≠ d) : (σ.put d v).T i = σ.T i := by
  show cond (Nat.beq i d) v (σ.T i) = σ.T i
  have : Nat.beq i d = false := by rw [← Bool.not_eq_true, Nat.beq_eq]; exact h
  rw [this]; rfl
theorem put_H (σ : St) (d : Nat) (v : AVal) : (σ.put d v).H = σ.H := rfl
theorem put_self (σ : St) (d : Nat) : σ.put d (σ.T d) = σ := by
  obtain ⟨T, H⟩ := σ
  unfold St.put
  congr 1
  funext i
  by_cases h : i = d
  · subst h; show cond (Nat.beq i i) (T i) (T i) = T i; cases Nat.beq i i <;> rfl
  · have : Nat.beq i d = false := by rw [← Bool.not_eq_true, Nat.beq_eq]; exact h
    rw [this]; rfl

theorem Core.tr {tm : Array Value} (h : Core c σ tm w M ν) {H' : Nat → Option Ent} {w' : World} {M' : Nat → Prop} {ν' : Nat → Value} (t : Tr c σ.H w M ν H' w' M' ν') : Core c ⟨σ.T, H'⟩ tm w' M' ν' :=
  ⟨t.mem, fun i => VR.keep t.keep t.goes (h.tmp i)⟩

theorem Core.putO {tm : Array Value} (h : Core c σ tm w M ν) {d : Option Nat} {x : AVal} {v : Value} {io : List Nat} (hd : dstOk tm.size io d = true) (hx : VR w M σ.H ν x v) (ds : List Deferred) :
    Core c (σ.putO d x) (({ tmps := tm, defers := ds } : Act).put d v).tmps w M ν := by
  cases d with
  | none => exact h
  | some d =>
    have hlt : d < tm.size := by simp only [dstOk, Bool.and_eq_true, Nat.blt_eq] at hd; exact hd.1
    refine ⟨h.mem, fun i => ?_⟩
    show VR w M σ.H ν ((σ.put d x).T i) ((tm.setIfInBounds d v).getD i undef)
    by_cases hi : i = d
    · subst hi
      rw [put_T_same]
      simp [Array.getD, hlt]
      exact hx
    · rw [put_T_ne _ _ hi]
      have := h.tmp i
      have he : (tm.setIfInBounds d v).getD i undef = tm.getD i undef := by
        rw [Array.getD_eq_getD_getElem?, Array.getD_eq_getD_getElem?, Array.getElem?_setIfInBounds_ne (Ne.symm hi)]
      rw [he]; exact this

def Inv (c : Ctx) (E : Env) (σ : St) (a : Act) (w : World) : Prop := (∃ M ν, Core c σ a.tmps w M ν) ∧ a.tmps.size = E.nt ∧ a.defers = [] ∧ ∀ i ∈ E.io, a.tmps.getD i undef = c.arg i

theorem put_size (a : Act) (d : Option Nat) (v : Value) : (a.put d v).tmps.size = a.tmps.size := by
  cases d <;> simp [Act.put]
theorem put_defers (a : Act) (d : Option Nat) (v : Value) : (a.put d v).defers = a.defers := by
  cases d <;> rfl

theorem put_arg {d : Option Nat} {v : Value} {io : List Nat} {n : Nat} (hd : dstOk n io d = true) {i : Nat} (hi : i ∈ io) : (a.put d v).tmps.getD i undef = a.tmps.getD i undef := by
  cases d with
  | none => rfl
  | some d =>
    simp only [dstOk, Bool.and_eq_true, List.all_eq_true] at hd
    have h1 := hd.2 i hi
    have hne : i ≠ d := by
      intro e; subst e
      simp at h1
    show (a.tmps.setIfInBounds d v).getD i undef = _
    rw [Array.getD_eq_getD_getElem?, Array.getD_eq_getD_getElem?, Array.getElem?_setIfInBounds_ne (Ne.symm hne)]

theorem Inv.bool (h : Inv c E σ a w) {x : Operand} {b : Bool} (hx : σ.ρ x = .val .bool b) : a.eval x = .bool b := by
  obtain ⟨⟨M, ν, hc⟩, _, _, _⟩ := h
  have := hc.ev x
  rw [hx] at this
  exact this.bool

/-- One operation, with what its guard says. -/
theorem stepK_sound (hE : EnvOk P E) {ops : Array Oper} (hI : Inv c E σ a w) {K : St → List Nat → List Nat → Option α} (h : stepK E ops.toList o σ K = some r)
    (hn : ∀ σ' a' w' rd wr, K σ' rd wr = some r → Inv c E σ' a' w' → next a' w') :
    if Region.wanted o (yielded ops a.tmps) then o.wp P a w next Q else next (a.put o.dst undef) w := by
  unfold stepK at h
  obtain ⟨hd, h⟩ := cond_inv h
  have hrun : opK E o σ.ρ σ.H (fun v rd ups => K ((σ.puts ups).putO o.dst v) rd (ups.map (·.1))) = some r → o.wp P a w next Q := by
    intro h
    obtain ⟨⟨M, ν, hc⟩, hs, hdef, harg⟩ := hI
    refine opK_sound hE hc h fun v rd ups v' w' M' ν' hK htr hV => ?_
    refine hn _ _ _ _ _ hK ⟨⟨M', ν', ?_⟩, by rw [put_size, hs], by rw [put_defers, hdef], fun i hi => (put_arg hd hi).trans (harg i hi)⟩
    have h1 := hc.tr htr
    have h2 : σ.puts ups = ⟨σ.T, upsH σ.H ups⟩ := by rw [← puts_H, ← puts_T ups σ]
    rw [h2]
    exact h1.putO (by rw [hs]; exact hd) hV a.defers
  have hskip : ∀ rd wr, K (σ.putO o.dst .und) rd wr = some r → next (a.put o.dst undef) w := by
    intro rd wr h
    obtain ⟨⟨M, ν, hc⟩, hs, hdef, harg⟩ := hI
    refine hn _ _ _ _ _ h ⟨⟨M, ν, hc.putO (by rw [hs]; exact hd) (by simp [VR]) a.defers⟩, by rw [put_size, hs], by rw [put_defers, hdef], fun i hi => (put_arg hd hi).trans (harg i hi)⟩
  simp only at h
  split at h
  · rename_i hg
    have : Region.wanted o (yielded ops a.tmps) = true := by simp [Region.wanted, hg]
    rw [if_pos this]
    exact hrun h
  · rename_i j want hg
    split at h
    · cases h
    · rename_i t ht
      have ht' : (ops[j]?).bind (·.dst) = some t := by rw [← Array.getElem?_toList]; exact ht
      have hy : ∀ b, σ.T t = .val .bool b → yielded ops a.tmps j = some b := by
        intro b hb
        obtain ⟨⟨M, ν, hc⟩, hs, _, _⟩ := hI
        have h1 := hc.tmp t
        rw [hb] at h1
        have h1 := h1.bool
        have h2 : a.tmps[t]? = some (.bool b) := by
          rw [Array.getD_eq_getD_getElem?] at h1
          cases h3 : a.tmps[t]? with
          | none => rw [h3] at h1; simp [undef] at h1
          | some v => rw [h3] at h1; simpa using h1
        simp [yielded, ht', h2]
      split at h
      · rename_i b hb
        have hself : σ.put t (.val .bool b) = σ := by rw [← hb]; exact put_self σ t
        have hw := hy b hb
        cases want <;> cases b
        · rw [if_pos (by simp [Region.wanted, hg, hw])]
          rw [hself] at h; exact hrun h
        · rw [if_neg (by simp [Region.wanted, hg, hw])]
          rw [hself] at h; exact hskip _ _ h
        · rw [if_neg (by simp [Region.wanted, hg, hw])]
          rw [hself] at h; exact hskip _ _ h
        · rw [if_pos (by simp [Region.wanted, hg, hw])]
          rw [hself] at h; exact hrun h
      · rename_i hb
        have hnot : ¬ Region.wanted o (yielded ops a.tmps) = true := by
          obtain ⟨⟨M, ν, hc⟩, hs, _, _⟩ := hI
          have h1 := hc.tmp t
          rw [hb] at h1
          simp only [VR] at h1
          have h2 : ∀ b, a.tmps[t]? ≠ some (.bool b) := by
            intro b hb'
            rw [Array.getD_eq_getD_getElem?, hb'] at h1
            simp [undef] at h1
          have h3 : yielded ops a.tmps j = none := by
            unfold yielded
            rw [ht']
            show (match a.tmps[t]? with | some (.bool b) => some b | _ => none) = none
            split
            · rename_i b hb'; exact absurd hb' (h2 b)
            · rfl
          simp [Region.wanted, hg, h3]
        rw [if_neg hnot]
        exact hskip _ _ h
      · cases h

theorem opsK_sound (hE : EnvOk P E) {ops : Array Oper} : ∀ (l : List Oper) (i : Nat) (σ : St) (lg : Log) (a : Act) (w : World) (K : St → Log → Option α), Inv c E σ a w → opsK E ops.toList l i σ lg K = some r →
    (∀ σ' lg' a' w', K σ' lg' = some r → Inv c E σ' a' w' → Q .normal a' w') → wpList P ops Q l a w
  | [], i, σ, lg, a, w, K, hI, h, hn => hn _ _ _ _ h hI
  | o :: l, i, σ, lg, a, w, K, hI, h, hn => by
    unfold opsK at h
    refine wpList_step fun K' hK' => ?_
    exact stepK_sound hE hI h fun σ' a' w' rd wr h' hI' => hK' _ _ (opsK_sound hE l (i + 1) σ' _ a' w' K hI' h' hn)

theorem condK_sound (hI : Inv c E σ a w) {x : Operand} {A B : St → Option α} (h : condK E x σ A B = some r) : ∃ b, a.eval x = .bool b ∧ (if b then A σ else B σ) = some r := by
  unfold condK at h
  split at h
  · rename_i b hb
    refine ⟨b, hI.bool hb, ?_⟩
    split at h
    · rename_i t
      have hb : σ.T t = .val .bool b := hb
      have hself : σ.put t (.val .bool b) = σ := by rw [← hb]; exact put_self σ t
      cases b
      · rw [hself] at h; exact h
      · rw [hself] at h; exact h
    · cases b <;> exact h
  · cases h

end VM
end

section
/- The value machine, twenty-fourth text: cuts. -/
namespace VM
open Go
variable {P : Program} {E : Env} {o : Oper} {a : Act} {w : World} {M : Nat → Prop} {ν : Nat → Value} {σ : St} {c : Ctx} {α : Type} {r : α} {next : Act → World → Prop} {Q : Exit → Act → World → Prop}

/-- Two rows of entries as one. -/
def mix {β : Type} (A B : Nat → β) : Nat → β := fun i => if i % 2 = 0 then A (i / 2) else B (i / 2)
theorem mix_l {β : Type} (A B : Nat → β) (i : Nat) : mix A B (2 * i) = A i := by
  unfold mix
  rw [if_pos (by omega), show 2 * i / 2 = i from by omega]
theorem mix_r {β : Type} (A B : Nat → β) (i : Nat) : mix A B (2 * i + 1) = B i := by
  unfold mix
  rw [if_neg (by omega), show (2 * i + 1) / 2 = i from by omega]
theorem mix_cases {β : Type} {A B A' B' : Nat → β} (hl : ∀ i, A i = A' i) (hr : ∀ i, B i = B' i) : mix A B = mix A' B' := by
  funext i; unfold mix; rw [hl, hr]
/-- A link under other numbers. -/
def Ent.re (f : Nat → Nat) : Ent → Ent
  | .lnk τ x p j => .lnk τ x p (f j)
  | e => e
theorem ER.re {v : Value} {f : Nat → Nat} {e : Ent} : ER w M v (e.re f) ↔ ER w M v e := by cases e <;> simp [Ent.re, ER]
theorem Ent.mut_re {f : Nat → Nat} {e : Ent} : (e.re f).mut ↔ e.mut := by cases e <;> simp [Ent.re, Ent.mut]
theorem Ent.like_re {f g : Nat → Nat} {e e' : Ent} : (e.re f).like (e'.re g) ↔ e.like e' := by cases e <;> cases e' <;> simp [Ent.re, Ent.like]
def ml (i : Nat) : Nat := 2 * i
def mr (i : Nat) : Nat := 2 * i + 1
/-- Two rows of entries as one. -/
def mixH (A B : Nat → Option Ent) : Nat → Option Ent := fun i => if i % 2 = 0 then (A (i / 2)).map (Ent.re ml) else (B (i / 2)).map (Ent.re mr)
theorem mixH_l (A B : Nat → Option Ent) (i : Nat) : mixH A B (2 * i) = (A i).map (Ent.re ml) := by
  unfold mixH
  rw [if_pos (by omega), show 2 * i / 2 = i from by omega]
theorem mixH_r (A B : Nat → Option Ent) (i : Nat) : mixH A B (2 * i + 1) = (B i).map (Ent.re mr) := by
  unfold mixH
  rw [if_neg (by omega), show (2 * i + 1) / 2 = i from by omega]
theorem mixH_ll {A B : Nat → Option Ent} {i : Nat} {e : Ent} (h : A i = some e) : mixH A B (2 * i) = some (e.re ml) := by rw [mixH_l, h]; rfl
theorem mixH_rr {A B : Nat → Option Ent} {i : Nat} {e : Ent} (h : B i = some e) : mixH A B (2 * i + 1) = some (e.re mr) := by rw [mixH_r, h]; rfl
theorem mixH_nl {A B : Nat → Option Ent} {i : Nat} : mixH A B (2 * i) ≠ none ↔ A i ≠ none := by rw [mixH_l]; cases A i <;> simp
theorem mixH_nr {A B : Nat → Option Ent} {i : Nat} : mixH A B (2 * i + 1) ≠ none ↔ B i ≠ none := by rw [mixH_r]; cases B i <;> simp
theorem updH_mix_l (A B : Nat → Option Ent) (i : Nat) (v : Option Ent) : updH (mixH A B) (2 * i) (v.map (Ent.re ml)) = mixH (updH A i v) B := by
  funext k
  by_cases hk : k = 2 * i
  · subst hk; rw [updH_same, mixH_l, updH_same]
  · rw [updH_ne _ _ hk]
    unfold mixH
    by_cases h2 : k % 2 = 0
    · rw [if_pos h2, if_pos h2, updH_ne _ _ (by omega)]
    · rw [if_neg h2, if_neg h2]
theorem updH_mix_r (A B : Nat → Option Ent) (i : Nat) (v : Option Ent) : updH (mixH A B) (2 * i + 1) (v.map (Ent.re mr)) = mixH A (updH B i v) := by
  funext k
  by_cases hk : k = 2 * i + 1
  · subst hk; rw [updH_same, mixH_r, updH_same]
  · rw [updH_ne _ _ hk]
    unfold mixH
    by_cases h2 : k % 2 = 0
    · rw [if_pos h2, if_pos h2]
    · rw [if_neg h2, if_neg h2, updH_ne _ _ (by omega)]
theorem updν_mix_r (A B : Nat → Value) (i : Nat) (v : Value) : updν (mix A B) (2 * i + 1) v = mix A (updν B i v) := by
  funext k
  unfold updν mix
  by_cases hk : k = 2 * i + 1
  · subst hk; rw [if_pos rfl, if_neg (by omega)]
    show v = if (2 * i + 1) / 2 = i then v else B ((2 * i + 1) / 2)
    rw [if_pos (by omega)]
  · rw [if_neg hk]
    by_cases h2 : k % 2 = 0
    · rw [if_pos h2, if_pos h2]
    · rw [if_neg h2, if_neg h2]
      show B (k / 2) = if k / 2 = i then v else B (k / 2)
      rw [if_neg (by omega)]

theorem Mem.left {H A : Nat → Option Ent} {νA : Nat → Value} (h : Mem c (mixH H A) w M (mix ν νA)) : Mem c H w M ν :=
  ⟨fun i e hi => by have := h.ent (2 * i) _ (mixH_ll hi); rw [mix_l] at this; exact ER.re.1 this,
   fun i j e e' b hij hi hm hj hm' => by have := h.dis (2 * i) (2 * j) _ _ b (by omega) (mixH_ll hi) (Ent.mut_re.2 hm) (mixH_ll hj) (Ent.mut_re.2 hm'); rwa [mix_l, mix_l] at this,
   fun i e b hi hm => by have := h.new (2 * i) _ b (mixH_ll hi) (Ent.mut_re.2 hm); rwa [mix_l] at this,
   fun i e l b hi => by have := h.old (2 * i) e l b (mixH_ll hi); rwa [mix_l] at this,
   fun i τ x p j hi => by
    obtain ⟨h1, b, h2, h3⟩ := h.lnk (2 * i) τ x p (ml j) (mixH_ll hi)
    rw [mix_l] at h2
    unfold ml at h1 h3
    rw [mix_l] at h3
    exact ⟨mixH_nl.1 h1, b, h2, h3⟩,
   h.sub, h.lim, h.frame, h.size, h.lim0, h.os, h.tape, h.output⟩
theorem Mem.right {H A : Nat → Option Ent} {νA : Nat → Value} (h : Mem c (mixH H A) w M (mix ν νA)) : Mem c A w M νA :=
  ⟨fun i e hi => by have := h.ent (2 * i + 1) _ (mixH_rr hi); rw [mix_r] at this; exact ER.re.1 this,
   fun i j e e' b hij hi hm hj hm' => by have := h.dis (2 * i + 1) (2 * j + 1) _ _ b (by omega) (mixH_rr hi) (Ent.mut_re.2 hm) (mixH_rr hj) (Ent.mut_re.2 hm'); rwa [mix_r, mix_r] at this,
   fun i e b hi hm => by have := h.new (2 * i + 1) _ b (mixH_rr hi) (Ent.mut_re.2 hm); rwa [mix_r] at this,
   fun i e l b hi => by have := h.old (2 * i + 1) e l b (mixH_rr hi); rwa [mix_r] at this,
   fun i τ x p j hi => by
    obtain ⟨h1, b, h2, h3⟩ := h.lnk (2 * i + 1) τ x p (mr j) (mixH_rr hi)
    rw [mix_r] at h2
    unfold mr at h1 h3
    rw [mix_r] at h3
    exact ⟨mixH_nr.1 h1, b, h2, h3⟩,
   h.sub, h.lim, h.frame, h.size, h.lim0, h.os, h.tape, h.output⟩
theorem Mem.mixNone {H : Nat → Option Ent} (νA : Nat → Value) (h : Mem c H w M ν) : Mem c (mixH H (fun _ => none)) w M (mix ν νA) := by
  have key : ∀ i e, mixH H (fun _ => none) i = some e → ∃ j e0, i = 2 * j ∧ H j = some e0 ∧ e = e0.re ml := by
    intro i e hi
    unfold mixH at hi
    by_cases h2 : i % 2 = 0
    · rw [if_pos h2] at hi
      obtain ⟨e0, h3, h4⟩ := Option.map_eq_some_iff.1 hi
      exact ⟨i / 2, e0, by omega, h3, h4.symm⟩
    · rw [if_neg h2] at hi; cases hi
  refine ⟨fun i e hi => ?_, fun i j e e' b hij hi hm hj hm' => ?_, fun i e b hi hm => ?_, fun i e l b hi => ?_, fun i τ x p j hi => ?_, h.sub, h.lim, h.frame, h.size, h.lim0, h.os, h.tape, h.output⟩
  · obtain ⟨j, e0, rfl, hj, rfl⟩ := key i e hi; rw [mix_l]; exact ER.re.2 (h.ent j e0 hj)
  · obtain ⟨i', e1, rfl, hi', rfl⟩ := key i e hi; obtain ⟨j', e2, rfl, hj', rfl⟩ := key j e' hj
    rw [mix_l, mix_l]; exact h.dis i' j' e1 e2 b (by omega) hi' (Ent.mut_re.1 hm) hj' (Ent.mut_re.1 hm')
  · obtain ⟨j, e0, rfl, hj, rfl⟩ := key i e hi; rw [mix_l]; exact h.new j e0 b hj (Ent.mut_re.1 hm)
  · obtain ⟨j, e0, rfl, hj, he⟩ := key i _ hi
    cases e0 <;> simp only [Ent.re] at he <;> cases he
    rw [mix_l]; exact h.old j e l b hj
  · obtain ⟨k, e0, rfl, hk, he⟩ := key i _ hi
    cases e0 <;> simp only [Ent.re] at he <;> cases he
    obtain ⟨h1, b, h2, h3⟩ := h.lnk k _ _ _ _ hk
    refine ⟨mixH_nl.2 h1, b, by rw [mix_l]; exact h2, ?_⟩
    unfold ml
    rw [mix_l]; exact h3

theorem Goes.left {H A H' A' : Nat → Option Ent} {νA ν' νA' : Nat → Value} (g : Goes (mixH H A) (mix ν νA) (mixH H' A') (mix ν' νA')) : Goes H ν H' ν' :=
  ⟨fun i e hi => by
    obtain ⟨e', h1, h2⟩ := g.ent (2 * i) _ (mixH_ll hi)
    rw [mixH_l] at h1
    obtain ⟨e0, h3, rfl⟩ := Option.map_eq_some_iff.1 h1
    exact ⟨e0, h3, Ent.like_re.1 h2⟩,
   fun i hi => by have := g.head (2 * i) (mixH_nl.2 hi); rwa [mix_l, mix_l] at this⟩
theorem Goes.right {H A H' A' : Nat → Option Ent} {νA ν' νA' : Nat → Value} (g : Goes (mixH H A) (mix ν νA) (mixH H' A') (mix ν' νA')) : Goes A νA A' νA' :=
  ⟨fun i e hi => by
    obtain ⟨e', h1, h2⟩ := g.ent (2 * i + 1) _ (mixH_rr hi)
    rw [mixH_r] at h1
    obtain ⟨e0, h3, rfl⟩ := Option.map_eq_some_iff.1 h1
    exact ⟨e0, h3, Ent.like_re.1 h2⟩,
   fun i hi => by have := g.head (2 * i + 1) (mixH_nr.2 hi); rwa [mix_r, mix_r] at this⟩

/-- An entry moves over; a link moves with it. -/
theorem Mem.move {H A : Nat → Option Ent} {νA : Nat → Value} (h : Mem c (mixH H A) w M (mix ν νA)) {i j : Nat} {e e1 : Ent} (hi : H i = some e) (hm : e.mut) (hj : A j = none)
    (he1 : (e1 = e ∧ ∀ τ x p k, e ≠ .lnk τ x p k) ∨ ∃ τ x p k k', e = .lnk τ x p k ∧ e1 = .lnk τ x p k' ∧ A k' ≠ none ∧ νA k' = ν k) :
    Tr c (mixH H A) w M (mix ν νA) (mixH (updH H i (some .gone)) (updH A j (some e1))) w M (mix ν (updν νA j (ν i))) := by
  have hg := Tr.gone h (2 * i)
  have hgo : (some Ent.gone) = (some Ent.gone).map (Ent.re ml) := rfl
  rw [hgo, updH_mix_l] at hg
  have hi2 := mixH_ll (B := A) hi
  have hER : ER w M (ν i) (e1.re mr) := by
    have h1 := h.ent (2 * i) _ hi2
    rw [mix_l] at h1
    have h1 := ER.re.1 h1
    rcases he1 with ⟨rfl, _⟩ | ⟨τ, x, p, k, k', rfl, rfl, _, _⟩
    · exact ER.re.2 h1
    · exact h1
  have h2 := Mem.adopt hg.mem (id := 2 * j + 1) (v := ν i) (e := e1.re mr) (fun e' he' => by rw [mixH_r, hj] at he'; cases he')
    hER
    (fun b hb k e' hk hm' => by
      by_cases hk2 : k = 2 * i
      · subst hk2; rw [mixH_l, updH_same] at hk; cases hk; simp [Ent.re, Ent.mut] at hm'
      · have hk3 : mixH H A k = some e' := by
          have := congrFun (updH_mix_l H A i (some .gone)) k
          rw [updH_ne _ _ hk2] at this
          rw [this]; exact hk
        have := h.dis (2 * i) k _ e' b (Ne.symm hk2) hi2 (Ent.mut_re.2 hm) hk3 hm'
        rw [mix_l] at this
        exact this hb)
    (fun b hb => by have := h.new (2 * i) _ b hi2 (Ent.mut_re.2 hm); rw [mix_l] at this; exact this hb)
    (fun b e0 l0 he hb => by
      rcases he1 with ⟨rfl, _⟩ | ⟨τ, x, p, k, k', rfl, rfl, _, _⟩
      · cases e1 <;> simp only [Ent.re] at he <;> cases he
        have := h.old (2 * i) e0 l0 b hi2; rw [mix_l] at this; exact this hb
      · simp [Ent.re] at he)
    (.inl (by rw [mixH_r, hj]; rfl))
    (fun τ x p k he => by
      rcases he1 with ⟨rfl, hn⟩ | ⟨τ, x, p, k, k', rfl, rfl, hk, hνk⟩
      · cases e1 <;> simp only [Ent.re] at he <;> cases he
        exact absurd rfl (hn _ _ _ _)
      · simp only [Ent.re] at he
        cases he
        obtain ⟨_, b, h4, h5⟩ := h.lnk (2 * i) _ _ _ _ hi2
        rw [mix_l] at h4
        have hkj : k' ≠ j := fun e => hk (e ▸ hj)
        refine ⟨?_, b, h4, ?_⟩
        · rw [updH_ne _ _ (by unfold mr; omega)]
          unfold mr
          exact mixH_nr.2 hk
        · unfold ml at h5
          rw [mix_l] at h5
          rw [h5, ← hνk]
          have : updν (mix ν νA) (2 * j + 1) (ν i) (mr k') = mix ν νA (mr k') := by
            unfold updν mr; rw [if_neg (by omega)]
          rw [this]; unfold mr; rw [mix_r])
  have hmp : some (e1.re mr) = (some e1).map (Ent.re mr) := rfl
  rw [hmp, updH_mix_r, updν_mix_r] at h2
  refine ⟨h2, .refl w M, ⟨fun k e' hk => ?_, fun k hk => ?_⟩⟩
  · by_cases h3 : k % 2 = 0
    · obtain ⟨k', rfl⟩ : ∃ k', k = 2 * k' := ⟨k / 2, by omega⟩
      by_cases hki : k' = i
      · subst hki; exact ⟨.gone, by rw [mixH_l, updH_same]; rfl, Ent.like_gone _⟩
      · exact ⟨e', by rw [mixH_l] at hk ⊢; rw [updH_ne _ _ hki]; exact hk, .refl e'⟩
    · obtain ⟨k', rfl⟩ : ∃ k', k = 2 * k' + 1 := ⟨k / 2, by omega⟩
      rw [mixH_r] at hk ⊢
      have hki : k' ≠ j := fun e => by rw [e, hj] at hk; cases hk
      exact ⟨e', by rw [updH_ne _ _ hki]; exact hk, .refl e'⟩
  · by_cases h3 : k % 2 = 0
    · obtain ⟨k', rfl⟩ : ∃ k', k = 2 * k' := ⟨k / 2, by omega⟩
      rw [mix_l, mix_l]
    · obtain ⟨k', rfl⟩ : ∃ k', k = 2 * k' + 1 := ⟨k / 2, by omega⟩
      rw [mix_r, mix_r]
      have hki : k' ≠ j := fun e => by rw [mixH_r, e, hj] at hk; exact hk rfl
      simp [updν, hki]

/-- An empty slice comes in. -/
theorem Mem.fresh {H A : Nat → Option Ent} {νA : Nat → Value} (h : Mem c (mixH H A) w M (mix ν νA)) {j : Nat} (hj : A j = none) (e : Ty) (ad : Option Addr) :
    Tr c (mixH H A) w M (mix ν νA) (mixH H (updH A j (some (.own e [])))) w M (mix ν (updν νA j (.slice ad 0 0))) := by
  have := Tr.nothing h (id := 2 * j + 1) (by rw [mixH_r, hj]; rfl) e ad
  have hmp : some (Ent.own e []) = (some (Ent.own e [])).map (Ent.re mr) := rfl
  rw [hmp, updH_mix_r, updν_mix_r] at this
  exact this

/-- The state of a cut. -/
structure Cut (c : Ctx) (σ acc : St) (tm : Array Value) (w : World) (M : Nat → Prop) (ν νA : Nat → Value) : Prop where
  mem : Mem c (mixH σ.H acc.H) w M (mix ν νA)
  src : ∀ i, VR w M σ.H ν (σ.T i) (tm.getD i undef)
  dst : ∀ i, VR w M acc.H νA (acc.T i) (tm.getD i undef)

theorem Cut.tr {acc : St} {tm : Array Value} {νA : Nat → Value} (h : Cut c σ acc tm w M ν νA) {H' A' : Nat → Option Ent} {M' : Nat → Prop} {νA' : Nat → Value} (t : Tr c (mixH σ.H acc.H) w M (mix ν νA) (mixH H' A') w M' (mix ν νA')) {s : Nat} {x : AVal} (hx : VR w M' A' νA' x (tm.getD s undef)) :
    Cut c ⟨σ.T, H'⟩ ⟨(acc.put s x).T, A'⟩ tm w M' ν νA' := by
  refine ⟨t.mem, fun i => VR.keep t.keep t.goes.left (h.src i), fun i => ?_⟩
  show VR w M' A' νA' ((acc.put s x).T i) _
  by_cases hi : i = s
  · subst hi; rw [put_T_same]; exact hx
  · rw [put_T_ne _ _ hi]; exact VR.keep t.keep t.goes.right (h.dst i)

def Free (A : Nat → Option Ent) (s : Nat) : Prop := A (16 * s + 13) = none ∧ A (16 * s + 14) = none ∧ A (16 * s + 15) = none

theorem fresh_step {q : Nat × CM} {L : List (Nat × CM)} {A : Nat → Option Ent} (hF : freshL (q :: L) = true) (hN : ∀ p ∈ q :: L, Free A p.1) :
    freshL L = true ∧ (∀ p ∈ L, Free A p.1) ∧
      ∀ (A' : Nat → Option Ent) (d : Nat) (v : Option Ent), (d = 16 * q.1 + 13 ∨ d = 16 * q.1 + 14 ∨ d = 16 * q.1 + 15) → (∀ p ∈ L, Free A' p.1) → ∀ p ∈ L, Free (updH A' d v) p.1 := by
  unfold freshL at hF
  rw [Bool.and_eq_true, List.all_eq_true] at hF
  refine ⟨hF.2, fun p hp => hN p (List.mem_cons_of_mem _ hp), fun A' d v hd hN' p hp => ?_⟩
  have hne : p.1 ≠ q.1 := fun e => by
    have := hF.1 p hp
    rw [e] at this
    simp at this
  obtain ⟨h1, h2, h3⟩ := hN' p hp
  exact ⟨by rw [updH_ne _ _ (by omega)]; exact h1, by rw [updH_ne _ _ (by omega)]; exact h2, by rw [updH_ne _ _ (by omega)]; exact h3⟩

theorem canonK_sound {tm : Array Value} : ∀ (L : List (Nat × CM)) (σ acc : St) (M : Nat → Prop) (νA : Nat → Value) (K : St → Option α), Cut c σ acc tm w M ν νA → freshL L = true → (∀ q ∈ L, Free acc.H q.1) → canonK L σ acc K = some r →
    ∃ acc' M' νA', K acc' = some r ∧ Core c acc' tm w M' νA'
  | [], σ, acc, M, νA, K, hC, _, _, h => ⟨acc, M, νA, h, hC.mem.right, hC.dst⟩
  | (s, .v τ) :: L, σ, acc, M, νA, K, hC, hF, hN, h => by
    obtain ⟨hF2, hN2, hup⟩ := fresh_step hF hN
    unfold canonK at h
    obtain ⟨y, rd, ups, h, hy⟩ := asVK_at hC.mem.left (hC.src s) h
    rcases hy with ⟨rfl, hV⟩ | ⟨id, e, l, rfl, hid, hV⟩
    · exact canonK_sound L σ _ M νA K (hC.tr (.refl hC.mem) (x := .val τ y) (by simp only [VR]; exact hV)) hF2 hN2 h
    · obtain ⟨M2, htr, _, hM2⟩ := Tr.freeze hC.mem (id := 2 * id) (mixH_ll hid)
      have hmp : some (Ent.frz e l) = (some (Ent.frz e l)).map (Ent.re ml) := rfl
      rw [hmp, updH_mix_l] at htr
      refine canonK_sound L _ _ M2 νA K (hC.tr htr (x := .val τ y) ?_) hF2 hN2 h
      simp only [VR]
      exact hV M2 (fun b => by rw [hM2 b, mix_l])
  | (s, .own e) :: L, σ, acc, M, νA, K, hC, hF, hN, h => by
    obtain ⟨hF2, hN2, hup⟩ := fresh_step hF hN
    unfold canonK at h
    have hs := hC.src s
    split at h
    · rename_i hT
      have hj := (hN _ List.mem_cons_self).2.1
      rw [hT] at hs
      obtain ⟨ad, hv⟩ := VR.emp.1 hs
      refine canonK_sound L σ _ M _ K (hC.tr (hC.mem.fresh hj e ad) (x := .ref (16 * s + 14)) ?_) hF2 (hup _ _ _ (.inr (.inl rfl)) hN2) h
      simp only [VR]
      exact ⟨by rw [updH_same]; simp, by rw [hv]; simp [updν]⟩
    · rename_i id hT
      rw [hT] at hs
      simp only [VR] at hs
      split at h
      · rename_i e' l hid
        obtain ⟨e1, h⟩ := castK_inv h
        cases e1
        have hj := (hN _ List.mem_cons_self).2.1
        refine canonK_sound L _ _ M _ K (hC.tr (hC.mem.move hid trivial hj (.inl ⟨rfl, fun _ _ _ _ => by simp⟩)) (x := .ref (16 * s + 14)) ?_) hF2 (hup _ _ _ (.inr (.inl rfl)) hN2) h
        simp only [VR]
        exact ⟨by rw [updH_same]; simp, by rw [hs.2]; simp [updν]⟩
      · cases h
    · cases h
  | (s, .obj τ) :: L, σ, acc, M, νA, K, hC, hF, hN, h => by
    obtain ⟨hF2, hN2, hup⟩ := fresh_step hF hN
    unfold canonK at h
    have hs := hC.src s
    split at h
    · rename_i id hT
      rw [hT] at hs
      split at h
      · rename_i υ x hid
        obtain ⟨e1, h⟩ := castK_inv h
        subst e1
        have hj := (hN _ List.mem_cons_self).2.1
        simp only [VR] at hs
        obtain ⟨e, he, har⟩ := hs
        rw [hid] at he; cases he
        simp only [AR] at har
        obtain ⟨_, b, hb, hv⟩ := har
        refine canonK_sound L _ _ M _ K (hC.tr (hC.mem.move hid trivial hj (.inl ⟨rfl, fun _ _ _ _ => by simp⟩)) (x := .adr (16 * s + 14) []) ?_) hF2 (hup _ _ _ (.inr (.inl rfl)) hN2) h
        simp only [VR]
        exact ⟨_, updH_same _ _ _, trivial, b, by simp [updν, hb], hv⟩
      · -- a variable with a link: the slice is frozen
        rename_i υ x q k hid
        obtain ⟨z, ups, M2, hK, htr, hcase, b, cs, t, hb, hg, hM2, hrd⟩ : ∃ z ups M2, castK υ τ z (fun y => canonK L ((σ.puts ups).putH id (some .gone)) ((acc.put s (.adr (16 * s + 14) [])).putH (16 * s + 14) (some (.obj τ y))) K) = some r ∧
            Tr c (mixH σ.H acc.H) w M (mix ν νA) (mixH (upsH σ.H ups) acc.H) w M2 (mix ν νA) ∧ upsH σ.H ups id = some (.lnk υ x q k) ∧ ∃ b cs t, ν id = .pointer (some ⟨b, 0, none⟩) ∧ w.heap[b]? = some (.cells cs t (0, 0)) ∧ M2 b ∧ Rd w M2 υ cs.toList z := by
          have hidm := mixH_ll (B := acc.H) hid
          unfold frzK at h
          split at h
          · rename_i e l hk
            have hne : id ≠ k := fun e => by rw [e, hk] at hid; cases hid
            obtain ⟨z, ups, M2, hK, htr, _, hc2, b, cs, t, hb, hg, hM2, hrd⟩ := frzK_sound (H := mixH σ.H acc.H) hC.mem (id := 2 * id) (j := 2 * k) (x := x) (q := q)
              (k := fun z _ => castK υ τ z fun y => canonK L ((σ.puts [(k, some (.frz e l))]).putH id (some .gone)) ((acc.put s (.adr (16 * s + 14) [])).putH (16 * s + 14) (some (.obj τ y))) K) hidm (by
                unfold frzK
                rw [mixH_ll hk]
                exact h)
            rw [mix_l] at hb
            rcases hc2 with ⟨e2, l2, h2, _⟩ | ⟨e2, l2, h2, rfl⟩
            · rw [mixH_ll hk] at h2; simp [Ent.re] at h2
            · rw [mixH_ll hk] at h2
              simp only [Ent.re, Option.some.injEq] at h2
              have hmp : some (Ent.frz e l) = (some (Ent.frz e l)).map (Ent.re ml) := rfl
              have htr2 : Tr c (mixH σ.H acc.H) w M (mix ν νA) (updH (mixH σ.H acc.H) (2 * k) (some (.frz e l))) w M2 (mix ν νA) := by
                cases h2; exact htr
              rw [hmp, updH_mix_l] at htr2
              exact ⟨z, _, M2, hK, htr2, by show updH σ.H k _ id = _; rw [updH_ne _ _ hne]; exact hid, b, cs, t, hb, hg, hM2, hrd⟩
          · rename_i e l hk
            obtain ⟨z, ups, M2, hK, htr, _, hc2, b, cs, t, hb, hg, hM2, hrd⟩ := frzK_sound (H := mixH σ.H acc.H) hC.mem (id := 2 * id) (j := 2 * k) (x := x) (q := q)
              (k := fun z _ => castK υ τ z fun y => canonK L ((σ.puts []).putH id (some .gone)) ((acc.put s (.adr (16 * s + 14) [])).putH (16 * s + 14) (some (.obj τ y))) K) hidm (by
                unfold frzK
                rw [mixH_ll hk]
                exact h)
            rw [mix_l] at hb
            rcases hc2 with ⟨e2, l2, h2, rfl⟩ | ⟨e2, l2, h2, _⟩
            · exact ⟨z, [], M2, hK, htr, hid, b, cs, t, hb, hg, hM2, hrd⟩
            · rw [mixH_ll hk] at h2; simp [Ent.re] at h2
          · cases h
        obtain ⟨e1, hK⟩ := castK_inv hK
        subst e1
        have hC2 : Cut c ⟨σ.T, upsH σ.H ups⟩ acc tm w M2 ν νA := ⟨htr.mem, fun i => VR.keep htr.keep htr.goes.left (hC.src i), fun i => VR.keep htr.keep htr.goes.right (hC.dst i)⟩
        have ht1 := Tr.turn (e' := .obj υ z) htr.mem (mixH_ll hcase) trivial trivial rfl (fun _ _ => by simp) (by rw [mix_l]; simp only [ER]; exact ⟨b, cs, t, hb, hg, hM2, hrd⟩) (fun _ _ _ _ h => by cases h)
        have hmp : some (Ent.obj υ z) = (some (Ent.obj υ z)).map (Ent.re ml) := rfl
        rw [hmp, updH_mix_l] at ht1
        have hC3 : Cut c ⟨σ.T, updH (upsH σ.H ups) id (some (.obj υ z))⟩ acc tm w M2 ν νA := ⟨ht1.mem, fun i => VR.keep ht1.keep ht1.goes.left (hC2.src i), fun i => VR.keep ht1.keep ht1.goes.right (hC2.dst i)⟩
        have hj := (hN _ List.mem_cons_self).2.1
        simp only [VR] at hs
        obtain ⟨e, he, har⟩ := hs
        rw [hid] at he; cases he
        simp only [AR] at har
        obtain ⟨_, b', hb', hv⟩ := har
        rw [hb] at hb'; cases hb'
        have hmv := hC3.mem.move (updH_same _ _ _) trivial hj (.inl ⟨rfl, fun _ _ _ _ => by simp⟩)
        rw [updH_twice] at hmv
        have hst : (σ.puts ups).putH id (some .gone) = ⟨σ.T, updH (upsH σ.H ups) id (some .gone)⟩ := by
          have h2 : σ.puts ups = ⟨σ.T, upsH σ.H ups⟩ := by rw [← puts_H, ← puts_T ups σ]
          rw [h2]; rfl
        rw [hst] at hK
        refine canonK_sound L _ _ M2 _ K (hC3.tr hmv (x := .adr (16 * s + 14) []) ?_) hF2 (hup _ _ _ (.inr (.inl rfl)) hN2) hK
        simp only [VR]
        exact ⟨_, updH_same _ _ _, trivial, b, by simp [updν, hb], hv⟩
      · cases h
    · cases h
  | (s, .lnk τ q e) :: L, σ, acc, M, νA, K, hC, hF, hN, h => by
    obtain ⟨hF2, hN2, hup⟩ := fresh_step hF hN
    unfold canonK at h
    have hs := hC.src s
    split at h
    · rename_i id hT
      rw [hT] at hs
      split at h
      · rename_i υ x q' k hid
        obtain ⟨hpq, h1⟩ := cond_inv h
        clear h
        have := peq_eq hpq
        subst this
        split at h1
        · rename_i e' l hk
          obtain ⟨e1, h2⟩ := castK_inv h1
          clear h1
          subst e1
          obtain ⟨e2, h⟩ := castK_inv h2
          cases e2
          have hne : id ≠ k := fun e => by rw [e, hk] at hid; cases hid
          obtain ⟨hj13, hj14, _⟩ := hN _ List.mem_cons_self
          simp only [VR] at hs
          obtain ⟨e, he, har⟩ := hs
          rw [hid] at he; cases he
          simp only [AR] at har
          obtain ⟨_, b, hb, hv⟩ := har
          have hm1 := hC.mem.move hk trivial hj13 (.inl ⟨rfl, fun _ _ _ _ => by simp⟩)
          have hid1 : updH σ.H k (some .gone) id = some (.lnk υ x q k) := by rw [updH_ne _ _ hne]; exact hid
          have hm2 := hm1.mem.move hid1 trivial (j := 16 * s + 14) (e1 := .lnk υ x q (16 * s + 13)) (by rw [updH_ne _ _ (by omega)]; exact hj14)
            (.inr ⟨υ, x, q, k, 16 * s + 13, rfl, rfl, by rw [updH_same]; simp, by simp [updν]⟩)
          refine canonK_sound L _ _ M _ K (hC.tr (hm1.trans hm2) (s := s) (x := .adr (16 * s + 14) []) ?_) hF2 (hup _ _ _ (.inr (.inl rfl)) (hup _ _ _ (.inl rfl) hN2)) h
          simp only [VR]
          exact ⟨_, updH_same _ _ _, trivial, b, by simp [updν, hb], hv⟩
        · cases h1
      · cases h
    · cases h
  | (s, .same s') :: L, σ, acc, M, νA, K, hC, hF, hN, h => by
    obtain ⟨hF2, hN2, hup⟩ := fresh_step hF hN
    unfold canonK at h
    split at h
    · rename_i i j j' h1 h2 h3
      obtain ⟨hb, h⟩ := cond_inv h
      have hb := Nat.eq_of_beq_eq_true hb
      have e1 := hC.src s
      have e2 := hC.src s'
      have e3 := hC.dst s'
      rw [h1] at e1; rw [h2] at e2; rw [h3] at e3
      simp only [VR] at e1 e2 e3
      refine canonK_sound L σ _ M νA K (hC.tr (.refl hC.mem) (x := .ref j') ?_) hF2 hN2 h
      simp only [VR]
      exact ⟨e3.1, by rw [e1.2, hb, ← e2.2, e3.2]⟩
    · cases h
  | (s, .io τ) :: L, σ, acc, M, νA, K, hC, hF, hN, h => by
    obtain ⟨hF2, hN2, hup⟩ := fresh_step hF hN
    unfold canonK at h
    have hs := hC.src s
    split at h
    · rename_i id hT
      rw [hT] at hs
      obtain ⟨_, h⟩ := cond_inv h
      split at h
      · rename_i υ x hid
        obtain ⟨e1, h⟩ := castK_inv h
        subst e1
        have hj := (hN _ List.mem_cons_self).2.2
        simp only [VR] at hs
        obtain ⟨e, he, har⟩ := hs
        rw [hid] at he; cases he
        simp only [AR] at har
        obtain ⟨_, b, hb, hv⟩ := har
        refine canonK_sound L _ _ M _ K (hC.tr (hC.mem.move hid trivial hj (.inl ⟨rfl, fun _ _ _ _ => by simp⟩)) (x := .adr (16 * s + 15) []) ?_) hF2 (hup _ _ _ (.inr (.inr rfl)) hN2) h
        simp only [VR]
        exact ⟨_, updH_same _ _ _, trivial, b, by simp [updν, hb], hv⟩
      · cases h
    · cases h
  | (s, .fn f τ) :: L, σ, acc, M, νA, K, hC, hF, hN, h => by
    obtain ⟨hF2, hN2, hup⟩ := fresh_step hF hN
    unfold canonK at h
    have hs := hC.src s
    split at h
    · rename_i f' cs hT
      rw [hT] at hs
      obtain ⟨hb, h1⟩ := cond_inv h
      clear h
      have hb := Nat.eq_of_beq_eq_true hb
      subst hb
      simp only [VR] at hs
      obtain ⟨us, hv, hvs⟩ := hs
      obtain ⟨y, rd, ups, h, hy⟩ := capsK_at hC.mem.left hvs h1
      split at h
      · refine canonK_sound L σ _ M νA K (hC.tr (.refl hC.mem) (x := .clo f (capsL τ y)) ?_) hF2 hN2 h
        simp only [VR]
        exact ⟨us, hv, VRs.free (hy rfl)⟩
      · cases h
    · cases h

theorem cutK_sound (hI : Inv c E σ a w) {L : Option (List (Nat × CM))} (hL : ∀ L', L = some L' → freshL L' = true) {K : St → Option α} (h : cutK L σ K = some r) : ∃ σ', K σ' = some r ∧ Inv c E σ' a w := by
  unfold cutK at h
  split at h
  · exact ⟨σ, h, hI⟩
  · have hfr := hL _ rfl
    obtain ⟨⟨M, ν, hc⟩, hs, hd⟩ := hI
    obtain ⟨acc', M', νA', hK, hcore⟩ := canonK_sound (tm := a.tmps) _ σ ⟨fun _ => .any, fun _ => none⟩ M (fun _ => undef) K ⟨hc.mem.mixNone _, hc.tmp, fun i => by simp [VR]⟩ hfr (fun _ _ => ⟨rfl, rfl, rfl⟩) h
    exact ⟨acc', hK, ⟨M', νA', hcore⟩, hs, hd⟩

end VM
end

