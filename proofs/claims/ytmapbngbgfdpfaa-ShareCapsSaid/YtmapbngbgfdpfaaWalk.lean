/- A part of the proof of the six laws of layer 3: each function of the program does what its equation says; printed by a program. -/
import Derived.Test.YtmapbngbgfdpfaaText
import Derived.Test.YtmapbngbgfdpfaaVm6
import Derived.Test.YtmapbngbgfdpfaaPlain0
import Derived.Test.YtmapbngbgfdpfaaProg
import Derived.KernelRfl
import Derived.Deep.RegionWith
import Derived.Deep.DeepCutAuto
import Derived.Lib.Hide
set_option linter.all false
namespace VM.F
open Go VM Go.Proofs
set_option linter.unusedVariables false
set_option linter.unusedSimpArgs false
set_option maxRecDepth 100000
def tab : List (Nat × Ty) := [(2, (.int .i64)), (3, (.int .i64)), (4, .bool), (5, (.int .u8)), (9, .str), (22, (.slice (.int .i64))), (24, (.int .i64)), (30, (.slice (.int .i64))), (36, (.int .u64)), (37, (.slice (.int .u32))), (39, (.int .u64)), (40, (.slice (.int .u64))), (42, tBig), (50, (.int .u32)), (57, tWide)]
theorem tabok : TabOk Try.prog tab := ⟨by kernel_rfl, by kernel_rfl⟩
theorem add64.sum (N : Nat) : SumOk Try.prog 49 (add64.S N) := add64_sum N Try.func49 (by kernel_rfl) (by kernel_rfl) (by kernel_rfl) (by kernel_rfl)
theorem sub64.sum (N : Nat) : SumOk Try.prog 61 (sub64.S N) := sub64_sum N Try.func61 (by kernel_rfl) (by kernel_rfl) (by kernel_rfl) (by kernel_rfl)
noncomputable abbrev ins_38.S (N : Nat) : Summ := insertS (.int .i64) N
noncomputable def ins_38.ren : Go.Shelf.Ren := { f := fun i => cond (Nat.beq i 29) 57 (cond (Nat.beq i 30) 58 0), t := fun i => cond (Nat.beq i 24) 30 (cond (Nat.beq i 9) 3 (cond (Nat.beq i 3) 3 (cond (Nat.beq i 4) 4 0))), g := fun _ => 0 }
theorem ins_38.lays : InsP Try.prog (.int .i64) ins_38.ren 38 Try.f38 Try.f57 := ⟨Try.func38.trans (by kernel_rfl), Try.underlying3, Try.underlying4, Try.underlying30, layB_ok (x := .inl 3) (by kernel_rfl), by decide, by kernel_rfl⟩
theorem ins_38.sum (N : Nat) : SumOk Try.prog 38 (ins_38.S N) := insert_sum ins_38.lays ⟨Try.func57, by kernel_rfl, by kernel_rfl, by kernel_rfl, by kernel_rfl⟩ (by kernel_rfl) (by kernel_rfl) N
noncomputable def bits_Mul64.S (N : Nat) : Summ := { args := [.v (.int .u64), .v (.int .u64)], res := [.v (.int .u64), .v (.int .u64)], quiet := true, run := fun x => bits_Mul64 N x.1 x.2 }
noncomputable def bits_Mul64.E (N : Nat) : Env := mkE 51 tab [] [] [] [] N
theorem bits_Mul64.ok (N : Nat) (a0 : Int) (a1 : Int) : evF (bits_Mul64.E N) Try.f53 [.v (.int .u64), .v (.int .u64)] [.v (.int .u64), .v (.int .u64)] (a0, a1) = bits_Mul64 N a0 a1 := by kernel_rfl
theorem bits_Mul64.env (N : Nat) : EnvOk Try.prog (bits_Mul64.E N) := mkE_ok tabok trivial (by kernel_rfl)
theorem bits_Mul64.sum (N : Nat) : SumOk Try.prog 53 (bits_Mul64.S N) := sum_mk (bits_Mul64.env N) (bits_Mul64.S N) Try.func53 (by kernel_rfl) (fun x => bits_Mul64.ok N x.1 x.2)

noncomputable def bits_Mul.S (N : Nat) : Summ := { args := [.v (.int .u64), .v (.int .u64)], res := [.v (.int .u64), .v (.int .u64)], quiet := true, run := fun x => bits_Mul N x.1 x.2 }
noncomputable def bits_Mul.E (N : Nat) : Env := mkE 30 tab [(53, [bits_Mul64.S N])] [] [] [] N
theorem bits_Mul.ok (N : Nat) (a0 : Int) (a1 : Int) : evF (bits_Mul.E N) Try.f56 [.v (.int .u64), .v (.int .u64)] [.v (.int .u64), .v (.int .u64)] (a0, a1) = bits_Mul N a0 a1 := by kernel_rfl
theorem bits_Mul.env (N : Nat) : EnvOk Try.prog (bits_Mul.E N) := mkE_ok tabok ⟨⟨bits_Mul64.sum N, trivial⟩, trivial⟩ (by kernel_rfl)
theorem bits_Mul.sum (N : Nat) : SumOk Try.prog 56 (bits_Mul.S N) := sum_mk (bits_Mul.env N) (bits_Mul.S N) Try.func56 (by kernel_rfl) (fun x => bits_Mul.ok N x.1 x.2)

theorem rep_37.mul (w : World) (n : Int) (h0 : 0 < n) (h1 : n < 1048576) : Calls Try.prog 56 #[.int .u64 1, .int .u64 n] w fun e w' => e = .returned (.tuple #[.int .u64 0, .int .u64 n]) ∧ RowKit.Below w.heap.size w w' :=
  calls22 (bits_Mul.env 0) Try.func56 (by kernel_rfl) ((bits_Mul.ok 0 1 n).trans (bits_Mul_one 0 n h0 h1))
open Go.RowKit in
set_option maxHeartbeats 2000000 in
set_option maxRecDepth 100000 in
theorem rep_37.walk (w : World) (a n : Int) (b off c : Nat) (h0 : 0 < n) (h1 : n < 1048576) (ha : w.cell? ⟨b, off, none⟩ = some (.int .i64 a)) (hc : 1 ≤ c) : Calls Try.prog 37 #[.slice (some ⟨b, off, none⟩) 1 c, .int .i64 n] w fun e w' => ∃ rb, e = .returned (.slice (some ⟨rb, 0, none⟩) n.toNat n.toNat) ∧ w.heap.size ≤ rb ∧ w'.heap[rb]? = some (.cells (rowV n.toNat n.toNat a) 2 (0, 0)) ∧ Below w.heap.size w w' := by
  have hn0 : ¬ (n < 0) := by omega
  have hu : IntKind.u64.wrap n = n := by simp [IntKind.wrap, IntKind.bits, IntKind.signed]; omega
  have hi : IntKind.i64.wrap n = n := by rw [IntKind.wrap_i64]; omega
  obtain ⟨m, rfl⟩ := Int.eq_ofNat_of_zero_le (Int.le_of_lt h0)
  have hlay : Lay Try.prog (.int .i64) 2 := layB_ok (τ := .int .i64) (x := .inl 2) (by kernel_rfl)
  have hmk := fun W => make_zero (W := W) (a := a) Try.underlying22 hlay m (by omega)
  have hsize : ∀ W, (Go.sizeOf 2).run Try.prog W = .ok 1 W := fun W => run_sizeOf' hlay W
  have mixed : Try.prog.follows Departure.mixedOrders = true := by kernel_rfl
  go_enter Try.func37, Try.ntmps37
  go_upto_region 4 with (go_at_call 56; refine (rep_37.mul _ _ h0 h1).mono ?_; rintro e w1 ⟨rfl, hb1⟩)
  obtain ⟨B, hB⟩ : ∃ B : Int, B = 9223372036854775807 := ⟨_, rfl⟩
  rw [← hB]
  have hgt : ¬ (B < (m : Int)) := by omega
  clear hB
  go_upto_region 6 with fail
  have hlt : b < w.heap.size := lt_of_cell ha
  have hnb : w.heap.size ≤ w1.heap.size := hb1.size
  have hmk1 := hmk w1
  have hk2 : ∀ W, (Go.sizeOf 2).run Try.prog W = .ok 1 W := hsize
  have hcp : ∀ ty, (Builtin.copy_ #[22, 22] ty #[.slice (some ⟨w1.heap.size, 0, none⟩) m m, .slice (some ⟨b, off, none⟩) 1 c]).run Try.prog (w1.alloc (.cells (rowV 0 m a) 2)) = .ok (goInt (1 : Nat)) ((w1.alloc (.cells (rowV 0 m a) 2)).setRow w1.heap.size (rowV 1 m a)) := fun ty => by
    have h := run_copy_row (P := Try.prog) (t := 22) (e := 2) (te := 2) (k := 1) (W := w1.alloc (.cells (rowV 0 m a) 2)) (b := w1.heap.size) (o := 0) (dLen := m) (dCap := m) (sLen := 1) (sCap := c) (n := 1) (a := ⟨b, off, none⟩) (cs := rowV 0 m a) Try.underlying22 hk2 (alloc_new _ _)
      (news := [.int .i64 a]) (Nat.min_eq_left (by omega)) rfl (fun j u hj => by
        cases j with
        | zero =>
          cases hj
          show World.cell? _ ⟨b, off, none⟩ = _
          rw [World.cell?_of_block (w := w) ((alloc_old _ _ (Nat.lt_of_lt_of_le hlt hnb)).trans (hb1.block b hlt))]; exact ha
        | succ j => cases hj) (fun u hu => by rw [List.mem_singleton] at hu; subst hu; rfl) (by rw [rowV_size (Nat.zero_le _)]; simp; omega) ty
    rw [h]
    have := rowV_step (k := 0) (m := 1) (n := m) (a := a) (by omega)
    rw [Nat.zero_mul, Nat.zero_add] at this
    rw [← this]; rfl
  go_wp2_with fail
  have hrow : ((w1.alloc (.cells (rowV 0 m a) 2)).setRow w1.heap.size (rowV 1 m a)).heap[w1.heap.size]? = some (.cells (rowV 1 m a) 2 (0, 0)) := setRow_heap _ _ _ _ _ _ (alloc_new w1 _)
  have hB : Below w.heap.size w ((w1.alloc (.cells (rowV 0 m a) 2)).setRow w1.heap.size (rowV 1 m a)) := ⟨hb1.os, hb1.tape, hb1.output, by rw [setRow_size, alloc_size]; omega, fun k hk => (setRow_other _ _ (by omega)).trans ((alloc_old _ _ (by omega)).trans (hb1.block k hk))⟩
  clear hcp hmk1 hmk
  generalize (w1.alloc (.cells (rowV 0 m a) 2)).setRow w1.heap.size (rowV 1 m a) = W at *
  generalize hnbe : w1.heap.size = nb at *
  clear hnbe hb1
  have hg : ∀ (k : Nat) (W : World), 0 < k → k < m → W.heap[nb]? = some (.cells (rowV k m a) 2 (0, 0)) → ∀ ty dc sc, (Builtin.copy_ #[22, 22] ty #[.slice (some ⟨nb, k, none⟩) (m - k) dc, .slice (some ⟨nb, 0, none⟩) k sc]).run Try.prog W.drew = .ok (goInt ((Nat.min k (m - k) : Nat) : Int)) (W.drew.setRow nb (rowV (k + Nat.min k (m - k)) m a)) := fun k W h0 hk hW ty dc sc => by
    have hle : Nat.min k (m - k) ≤ k := Nat.min_le_left _ _
    have hle2 : Nat.min k (m - k) ≤ m - k := Nat.min_le_right _ _
    rw [run_copy_row (P := Try.prog) (t := 22) (e := 2) (te := 2) (k := 1) (W := W.drew) (b := nb) (o := k) (dLen := m - k) (dCap := dc) (sLen := k) (sCap := sc) (n := Nat.min k (m - k)) (a := ⟨nb, 0, none⟩) (cs := rowV k m a) Try.underlying22 hsize hW
      (news := List.replicate (Nat.min k (m - k)) (.int .i64 a)) rfl (by simp) (rowV_cells (w := W.drew) hW _ hle) (fun u hu => by rw [List.eq_of_mem_replicate hu]; rfl) (by rw [rowV_size (Nat.le_of_lt hk), List.length_replicate]; omega) ty]
    have := rowV_step (k := k) (m := Nat.min k (m - k)) (n := m) (a := a) (by omega)
    rw [Nat.mul_one] at this
    rw [this]
  have HG := Lib.hid hg
  clear hg
  have HR := Lib.hid hrow
  clear hrow
  go_loopw [8] (fun v W' => ∃ k : Nat, 0 < k ∧ k ≤ m ∧ v = .int .i64 k ∧ Hid (W'.heap[nb]? = some (.cells (rowV k m a) 2 (0, 0))) ∧ Below w.heap.size w W') (fun v _ => m - (RowKit.intOf v).toNat)
  case atStart => exact ⟨1, by omega, by omega, rfl, HR, hB⟩
  case round =>
    obtain ⟨k, hk0, hkm, rfl, HK, HB⟩ := hrel
    by_cases hlt2 : k < m
    · have hle : Nat.min k (m - k) ≤ k := Nat.min_le_left _ _
      have hle2 : Nat.min k (m - k) ≤ m - k := Nat.min_le_right _ _
      have hpos : 0 < Nat.min k (m - k) := by simp only [Nat.min_def]; split <;> omega
      have h2 := HG.out k _ hk0 hlt2 HK.out
      have hrow2 := setRow_heap (wr.drew) nb _ (rowV (k + Nat.min k (m - k)) m a) 2 (0, 0) HK.out
      have HR2 := Lib.hid hrow2
      have hB2 : Below w.heap.size w (wr.drew.setRow nb (rowV (k + Nat.min k (m - k)) m a)) := ⟨HB.os, HB.tape, HB.output, by rw [setRow_size]; exact HB.size, fun j hj => (setRow_other _ _ (by omega)).trans (HB.block j hj)⟩
      clear hrow2
      generalize hmq : Nat.min k (m - k) = q at *
      clear hmq
      have hmk : ¬ (m = k) := by omega
      have hw : IntKind.i64.wrap ((k : Int) + (q : Int)) = (k : Int) + (q : Int) := by rw [IntKind.wrap_i64]; omega
      go_wp2_with fail
      go_region_law_o (refine Go.Proofs.step_copy_runI rfl _ _ 22 22 rfl _ _ (by simp [Act.eval, Act.put]) (by simp [Act.eval, Act.put]) (h2 _ _ _) ?_)
      simp only [List.getElem_toArray, List.getElem_cons_succ, List.getElem_cons_zero, Act.put, List.setIfInBounds_toArray, List.set_cons_succ, List.set_cons_zero]
      go_wp2
      go_roundw
      case rel => exact ⟨k + q, by omega, by omega, by go_num, HR2, hB2⟩
      case measure => simp [RowKit.intOf]; omega
    · obtain rfl : k = m := by omega
      go_wp2
      go_ret
      exact ⟨nb, rfl, hnb, HK.out, HB⟩
noncomputable abbrev rep_37.S (N : Nat) : Summ := repeatS (.int .i64) N
theorem rep_37.sum (N : Nat) : SumOk Try.prog 37 (rep_37.S N) := repeat_sum Try.func37 (by kernel_rfl) (by kernel_rfl) 2 N (fun w a n b off c h0 h1 ha hc => rep_37.walk w a n b off c h0 h1 ha hc)
noncomputable def share_may_1.S (N : Nat) : Summ := { args := [.v (.int .i64)], res := [.v .bool], quiet := true, run := fun x => share_may_1 N x }
noncomputable def share_may_1.E (N : Nat) : Env := mkE 5 tab [] [] [] [] N
theorem share_may_1.ok (N : Nat) (a0 : Int) : evF (share_may_1.E N) Try.f48 [.v (.int .i64)] [.v .bool] (a0) = share_may_1 N a0 := by kernel_rfl
theorem share_may_1.env (N : Nat) : EnvOk Try.prog (share_may_1.E N) := mkE_ok tabok trivial (by kernel_rfl)
theorem share_may_1.sum (N : Nat) : SumOk Try.prog 48 (share_may_1.S N) := sum_mk (share_may_1.env N) (share_may_1.S N) Try.func48 (by kernel_rfl) (fun x => share_may_1.ok N x)

noncomputable def slices_IndexFunc_int64_int64.S (N : Nat) : Summ := { args := [.v (.slice (.int .i64)), .fn 48 .unit], res := [.v (.int .i64)], quiet := true, run := fun x => slices_IndexFunc_int64_int64 N x.1 x.2 }
noncomputable def slices_IndexFunc_int64_int64.c_l2 : List (Nat × CM) := [(0, .v (.slice (.int .i64))), (1, .fn 48 .unit), (7, .v (.int .i64)), (8, .v (.int .i64))]
noncomputable def slices_IndexFunc_int64_int64.E (N : Nat) : Env := mkE 19 tab [(48, [share_may_1.S N])] [(2, slices_IndexFunc_int64_int64.c_l2)] [] [] N
abbrev slices_IndexFunc_int64_int64.R := Option ((Int))
noncomputable def slices_IndexFunc_int64_int64.s_l2 (x0 : List (Int)) (x1 : Unit) (x7 : Int) (x8 : Int) : St := ((((S0.put 0 (.val (.slice (.int .i64)) x0)).put 1 (.clo 48 (capsL .unit x1))).put 7 (.val (.int .i64) x7)).put 8 (.val (.int .i64) x8))
noncomputable def slices_IndexFunc_int64_int64.e_l2 (N : Nat) (n : Nat) : St → slices_IndexFunc_int64_int64.R := lpF (slices_IndexFunc_int64_int64.E N) Try.f60 [.v (.slice (.int .i64)), .fn 48 .unit] [.v (.int .i64)] slices_IndexFunc_int64_int64.c_l2 [1, 0, 1, 0, 0] [] n
theorem slices_IndexFunc_int64_int64.h_l2 (N : Nat) (κJ κL : Nat → St → slices_IndexFunc_int64_int64.R) (κ_l2 : St → slices_IndexFunc_int64_int64.R) (x0 : List (Int)) (x1 : Unit) (x7 : Int) (x8 : Int) : atQ (slices_IndexFunc_int64_int64.E N) Try.f60 [.v (.slice (.int .i64)), .fn 48 .unit] [.v (.int .i64)] κJ κL [1, 0, 1, 0, 0] [fun σ => cutK (some slices_IndexFunc_int64_int64.c_l2) σ κ_l2] (slices_IndexFunc_int64_int64.s_l2 x0 x1 x7 x8) = slices_IndexFunc_int64_int64.l2b N (fun x0 x1 x7 x8 => κ_l2 (slices_IndexFunc_int64_int64.s_l2 x0 x1 x7 x8)) x0 x1 x7 x8 := by kernel_rfl
theorem slices_IndexFunc_int64_int64.r_l2 (N : Nat) (κJ κL : Nat → St → slices_IndexFunc_int64_int64.R) (κ_l2 : St → slices_IndexFunc_int64_int64.R) : selT (slices_IndexFunc_int64_int64.E N) κJ κL (tlsF (slices_IndexFunc_int64_int64.E N) Try.f60 [.v (.slice (.int .i64)), .fn 48 .unit] [.v (.int .i64)] [1, 0, 1, 0, 0] [fun σ => cutK (some slices_IndexFunc_int64_int64.c_l2) σ κ_l2]) = [] := by kernel_rfl
theorem slices_IndexFunc_int64_int64.l2_ok (N : Nat) (n : Nat) : ∀ (x0 : List (Int)) (x1 : Unit) (x7 : Int) (x8 : Int), slices_IndexFunc_int64_int64.e_l2 N n (slices_IndexFunc_int64_int64.s_l2 x0 x1 x7 x8) = slices_IndexFunc_int64_int64.l2 N n x0 x1 x7 x8 := by
  induction n with
  | zero => intros; rfl
  | succ n ih =>
    intro x0 x1 x7 x8
    have hr := slices_IndexFunc_int64_int64.r_l2 N nox nox (slices_IndexFunc_int64_int64.e_l2 N n)
    have h := (at_eq (slices_IndexFunc_int64_int64.E N) Try.f60 [.v (.slice (.int .i64)), .fn 48 .unit] [.v (.int .i64)] hr trivial (slices_IndexFunc_int64_int64.s_l2 x0 x1 x7 x8)).trans (slices_IndexFunc_int64_int64.h_l2 N nox nox (slices_IndexFunc_int64_int64.e_l2 N n) x0 x1 x7 x8)
    have e_me : (fun x0 x1 x7 x8 => (slices_IndexFunc_int64_int64.e_l2 N n) (slices_IndexFunc_int64_int64.s_l2 x0 x1 x7 x8)) = slices_IndexFunc_int64_int64.l2 N n := funext fun x0 => funext fun x1 => funext fun x7 => funext fun x8 => ih x0 x1 x7 x8
    rw [e_me] at h; exact h
theorem slices_IndexFunc_int64_int64.h_top (N : Nat) (κJ κL : Nat → St → slices_IndexFunc_int64_int64.R) (a0 : List (Int)) (a1 : Unit) : atQ (slices_IndexFunc_int64_int64.E N) Try.f60 [.v (.slice (.int .i64)), .fn 48 .unit] [.v (.int .i64)] κJ κL [] [] (entry ([.v (.slice (.int .i64)), .fn 48 .unit] : List AM) (a0, a1) 0 S0) = slices_IndexFunc_int64_int64.b N (fun x0 x1 x7 x8 => κL 2 (slices_IndexFunc_int64_int64.s_l2 x0 x1 x7 x8)) a0 a1 := by kernel_rfl
theorem slices_IndexFunc_int64_int64.r_top (N : Nat) (κJ κL : Nat → St → slices_IndexFunc_int64_int64.R) : selT (slices_IndexFunc_int64_int64.E N) κJ κL (tlsF (slices_IndexFunc_int64_int64.E N) Try.f60 [.v (.slice (.int .i64)), .fn 48 .unit] [.v (.int .i64)] [] []) = [(κL 2, slices_IndexFunc_int64_int64.e_l2 N N)] := by kernel_rfl
theorem slices_IndexFunc_int64_int64.ok (N : Nat) (a0 : List (Int)) (a1 : Unit) : evF (slices_IndexFunc_int64_int64.E N) Try.f60 [.v (.slice (.int .i64)), .fn 48 .unit] [.v (.int .i64)] (a0, a1) = slices_IndexFunc_int64_int64 N a0 a1 := by
  obtain ⟨κL, q_l2, _⟩ := tabs' nox0 [(2, slices_IndexFunc_int64_int64.e_l2 N N)] (rfl : _ = [2]) (by decide)
  have hr := slices_IndexFunc_int64_int64.r_top N nox κL
  have h := (at_eq (slices_IndexFunc_int64_int64.E N) Try.f60 [.v (.slice (.int .i64)), .fn 48 .unit] [.v (.int .i64)] hr ⟨q_l2, trivial⟩ (entry ([.v (.slice (.int .i64)), .fn 48 .unit] : List AM) (a0, a1) 0 S0)).trans (slices_IndexFunc_int64_int64.h_top N nox κL a0 a1)
  have e_l2 : (fun x0 x1 x7 x8 => slices_IndexFunc_int64_int64.e_l2 N N (slices_IndexFunc_int64_int64.s_l2 x0 x1 x7 x8)) = slices_IndexFunc_int64_int64.l2 N N := funext fun x0 => funext fun x1 => funext fun x7 => funext fun x8 => slices_IndexFunc_int64_int64.l2_ok N N x0 x1 x7 x8
  rw [q_l2, e_l2] at h; exact (evF_at (by kernel_rfl) _).trans h
theorem slices_IndexFunc_int64_int64.env (N : Nat) : EnvOk Try.prog (slices_IndexFunc_int64_int64.E N) := mkE_ok tabok ⟨⟨share_may_1.sum N, trivial⟩, trivial⟩ (by kernel_rfl)
theorem slices_IndexFunc_int64_int64.sum (N : Nat) : SumOk Try.prog 60 (slices_IndexFunc_int64_int64.S N) := sum_mk (slices_IndexFunc_int64_int64.env N) (slices_IndexFunc_int64_int64.S N) Try.func60 (by kernel_rfl) (fun x => slices_IndexFunc_int64_int64.ok N x.1 x.2)

noncomputable def slices_ContainsFunc_int64_int64.S (N : Nat) : Summ := { args := [.v (.slice (.int .i64)), .fn 48 .unit], res := [.v .bool], quiet := true, run := fun x => slices_ContainsFunc_int64_int64 N x.1 x.2 }
noncomputable def slices_ContainsFunc_int64_int64.E (N : Nat) : Env := mkE 9 tab [(60, [slices_IndexFunc_int64_int64.S N])] [] [] [] N
theorem slices_ContainsFunc_int64_int64.ok (N : Nat) (a0 : List (Int)) (a1 : Unit) : evF (slices_ContainsFunc_int64_int64.E N) Try.f47 [.v (.slice (.int .i64)), .fn 48 .unit] [.v .bool] (a0, a1) = slices_ContainsFunc_int64_int64 N a0 a1 := by kernel_rfl
theorem slices_ContainsFunc_int64_int64.env (N : Nat) : EnvOk Try.prog (slices_ContainsFunc_int64_int64.E N) := mkE_ok tabok ⟨⟨slices_IndexFunc_int64_int64.sum N, trivial⟩, trivial⟩ (by kernel_rfl)
theorem slices_ContainsFunc_int64_int64.sum (N : Nat) : SumOk Try.prog 47 (slices_ContainsFunc_int64_int64.S N) := sum_mk (slices_ContainsFunc_int64_int64.env N) (slices_ContainsFunc_int64_int64.S N) Try.func47 (by kernel_rfl) (fun x => slices_ContainsFunc_int64_int64.ok N x.1 x.2)

noncomputable def share_may.S (N : Nat) : Summ := { args := [.v (.slice (.int .i64))], res := [.v .bool], quiet := true, run := fun x => share_may N x }
noncomputable def share_may.E (N : Nat) : Env := mkE 11 tab [(47, [slices_ContainsFunc_int64_int64.S N])] [] [] [] N
theorem share_may.ok (N : Nat) (a0 : List (Int)) : evF (share_may.E N) Try.f29 [.v (.slice (.int .i64))] [.v .bool] (a0) = share_may N a0 := by kernel_rfl
theorem share_may.env (N : Nat) : EnvOk Try.prog (share_may.E N) := mkE_ok tabok ⟨⟨slices_ContainsFunc_int64_int64.sum N, trivial⟩, trivial⟩ (by kernel_rfl)
theorem share_may.sum (N : Nat) : SumOk Try.prog 29 (share_may.S N) := sum_mk (share_may.env N) (share_may.S N) Try.func29 (by kernel_rfl) (fun x => share_may.ok N x)

noncomputable def amount_Sum.S (N : Nat) : Summ := { args := [.v (.slice (.int .i64))], res := [.v (.int .i64), .v .bool], quiet := true, run := fun x => amount_Sum N x }
noncomputable def amount_Sum.c_l3 : List (Nat × CM) := [(4, .v (.int .i64)), (5, .v (.int .u64)), (10, .v (.slice (.int .i64))), (11, .v (.int .i64)), (12, .v (.int .i64))]
noncomputable def amount_Sum.E (N : Nat) : Env := mkE 39 tab [(49, [add64.S N])] [(3, amount_Sum.c_l3)] [] [] N
abbrev amount_Sum.R := Option ((Int) × (Bool))
noncomputable def amount_Sum.s_l3 (x4 : Int) (x5 : Int) (x10 : List (Int)) (x11 : Int) (x12 : Int) : St := (((((S0.put 4 (.val (.int .i64) x4)).put 5 (.val (.int .u64) x5)).put 10 (.val (.slice (.int .i64)) x10)).put 11 (.val (.int .i64) x11)).put 12 (.val (.int .i64) x12))
noncomputable def amount_Sum.e_l3 (N : Nat) (n : Nat) : St → amount_Sum.R := lpF (amount_Sum.E N) Try.f30 [.v (.slice (.int .i64))] [.v (.int .i64), .v .bool] amount_Sum.c_l3 [1, 1, 0, 1, 0, 0] [] n
theorem amount_Sum.h_l3 (N : Nat) (κJ κL : Nat → St → amount_Sum.R) (κ_l3 : St → amount_Sum.R) (x4 : Int) (x5 : Int) (x10 : List (Int)) (x11 : Int) (x12 : Int) : atQ (amount_Sum.E N) Try.f30 [.v (.slice (.int .i64))] [.v (.int .i64), .v .bool] κJ κL [1, 1, 0, 1, 0, 0] [fun σ => cutK (some amount_Sum.c_l3) σ κ_l3] (amount_Sum.s_l3 x4 x5 x10 x11 x12) = amount_Sum.l3b N (fun x4 x5 x10 x11 x12 => κ_l3 (amount_Sum.s_l3 x4 x5 x10 x11 x12)) x4 x5 x10 x11 x12 := by kernel_rfl
theorem amount_Sum.r_l3 (N : Nat) (κJ κL : Nat → St → amount_Sum.R) (κ_l3 : St → amount_Sum.R) : selT (amount_Sum.E N) κJ κL (tlsF (amount_Sum.E N) Try.f30 [.v (.slice (.int .i64))] [.v (.int .i64), .v .bool] [1, 1, 0, 1, 0, 0] [fun σ => cutK (some amount_Sum.c_l3) σ κ_l3]) = [] := by kernel_rfl
theorem amount_Sum.l3_ok (N : Nat) (n : Nat) : ∀ (x4 : Int) (x5 : Int) (x10 : List (Int)) (x11 : Int) (x12 : Int), amount_Sum.e_l3 N n (amount_Sum.s_l3 x4 x5 x10 x11 x12) = amount_Sum.l3 N n x4 x5 x10 x11 x12 := by
  induction n with
  | zero => intros; rfl
  | succ n ih =>
    intro x4 x5 x10 x11 x12
    have hr := amount_Sum.r_l3 N nox nox (amount_Sum.e_l3 N n)
    have h := (at_eq (amount_Sum.E N) Try.f30 [.v (.slice (.int .i64))] [.v (.int .i64), .v .bool] hr trivial (amount_Sum.s_l3 x4 x5 x10 x11 x12)).trans (amount_Sum.h_l3 N nox nox (amount_Sum.e_l3 N n) x4 x5 x10 x11 x12)
    have e_me : (fun x4 x5 x10 x11 x12 => (amount_Sum.e_l3 N n) (amount_Sum.s_l3 x4 x5 x10 x11 x12)) = amount_Sum.l3 N n := funext fun x4 => funext fun x5 => funext fun x10 => funext fun x11 => funext fun x12 => ih x4 x5 x10 x11 x12
    rw [e_me] at h; exact h
theorem amount_Sum.h_top (N : Nat) (κJ κL : Nat → St → amount_Sum.R) (a0 : List (Int)) : atQ (amount_Sum.E N) Try.f30 [.v (.slice (.int .i64))] [.v (.int .i64), .v .bool] κJ κL [] [] (entry ([.v (.slice (.int .i64))] : List AM) (a0) 0 S0) = amount_Sum.b N (fun x4 x5 x10 x11 x12 => κL 3 (amount_Sum.s_l3 x4 x5 x10 x11 x12)) a0 := by kernel_rfl
theorem amount_Sum.r_top (N : Nat) (κJ κL : Nat → St → amount_Sum.R) : selT (amount_Sum.E N) κJ κL (tlsF (amount_Sum.E N) Try.f30 [.v (.slice (.int .i64))] [.v (.int .i64), .v .bool] [] []) = [(κL 3, amount_Sum.e_l3 N N)] := by kernel_rfl
theorem amount_Sum.ok (N : Nat) (a0 : List (Int)) : evF (amount_Sum.E N) Try.f30 [.v (.slice (.int .i64))] [.v (.int .i64), .v .bool] (a0) = amount_Sum N a0 := by
  obtain ⟨κL, q_l3, _⟩ := tabs' nox0 [(3, amount_Sum.e_l3 N N)] (rfl : _ = [3]) (by decide)
  have hr := amount_Sum.r_top N nox κL
  have h := (at_eq (amount_Sum.E N) Try.f30 [.v (.slice (.int .i64))] [.v (.int .i64), .v .bool] hr ⟨q_l3, trivial⟩ (entry ([.v (.slice (.int .i64))] : List AM) (a0) 0 S0)).trans (amount_Sum.h_top N nox κL a0)
  have e_l3 : (fun x4 x5 x10 x11 x12 => amount_Sum.e_l3 N N (amount_Sum.s_l3 x4 x5 x10 x11 x12)) = amount_Sum.l3 N N := funext fun x4 => funext fun x5 => funext fun x10 => funext fun x11 => funext fun x12 => amount_Sum.l3_ok N N x4 x5 x10 x11 x12
  rw [q_l3, e_l3] at h; exact (evF_at (by kernel_rfl) _).trans h
theorem amount_Sum.env (N : Nat) : EnvOk Try.prog (amount_Sum.E N) := mkE_ok tabok ⟨⟨add64.sum N, trivial⟩, trivial⟩ (by kernel_rfl)
theorem amount_Sum.sum (N : Nat) : SumOk Try.prog 30 (amount_Sum.S N) := sum_mk (amount_Sum.env N) (amount_Sum.S N) Try.func30 (by kernel_rfl) (fun x => amount_Sum.ok N x)

noncomputable def amount_Size.S (N : Nat) : Summ := { args := [.v (.int .i64)], res := [.v (.int .u64)], quiet := true, run := fun x => amount_Size N x }
noncomputable def amount_Size.E (N : Nat) : Env := mkE 10 tab [] [] [] [] N
theorem amount_Size.ok (N : Nat) (a0 : Int) : evF (amount_Size.E N) Try.f54 [.v (.int .i64)] [.v (.int .u64)] (a0) = amount_Size N a0 := by kernel_rfl
theorem amount_Size.env (N : Nat) : EnvOk Try.prog (amount_Size.E N) := mkE_ok tabok trivial (by kernel_rfl)
theorem amount_Size.sum (N : Nat) : SumOk Try.prog 54 (amount_Size.S N) := sum_mk (amount_Size.env N) (amount_Size.S N) Try.func54 (by kernel_rfl) (fun x => amount_Size.ok N x)

noncomputable def wide_signed.S (N : Nat) : Summ := { args := [.v .bool, .v (.int .u64), .v (.int .u64)], res := [.v tWide, .v .bool], quiet := true, run := fun x => wide_signed N x.1 x.2.1 x.2.2 }
noncomputable def wide_signed.c_j7 : List (Nat × CM) := [(1, .v (.int .u64)), (2, .v (.int .u64)), (6, .obj tWide)]
noncomputable def wide_signed.E (N : Nat) : Env := mkE 47 tab [(61, [sub64.S N])] [] [(7, wide_signed.c_j7)] [] N
abbrev wide_signed.R := Option ((Ty.den tWide) × (Bool))
noncomputable def wide_signed.s_j7 (x1 : Int) (x2 : Int) (x6 : Ty.den tWide) : St := ((((S0.put 1 (.val (.int .u64) x1)).put 2 (.val (.int .u64) x2)).put 6 (.adr 110 [])).putH 110 (some (.obj tWide x6)))
noncomputable def wide_signed.e_j7 (N : Nat) : St → wide_signed.R := atF (wide_signed.E N) Try.f52 [.v .bool, .v (.int .u64), .v (.int .u64)] [.v tWide, .v .bool] [1, 1, 1] []
theorem wide_signed.h_j7 (N : Nat) (κJ κL : Nat → St → wide_signed.R) (x1 : Int) (x2 : Int) (x6 : Ty.den tWide) : atQ (wide_signed.E N) Try.f52 [.v .bool, .v (.int .u64), .v (.int .u64)] [.v tWide, .v .bool] κJ κL [1, 1, 1] [] (wide_signed.s_j7 x1 x2 x6) = wide_signed.j7b N x1 x2 x6 := by kernel_rfl
theorem wide_signed.r_j7 (N : Nat) (κJ κL : Nat → St → wide_signed.R) : selT (wide_signed.E N) κJ κL (tlsF (wide_signed.E N) Try.f52 [.v .bool, .v (.int .u64), .v (.int .u64)] [.v tWide, .v .bool] [1, 1, 1] []) = [] := by kernel_rfl
theorem wide_signed.j7_ok (N : Nat) (x1 : Int) (x2 : Int) (x6 : Ty.den tWide) : wide_signed.e_j7 N (wide_signed.s_j7 x1 x2 x6) = wide_signed.j7 N x1 x2 x6 := by
  have hr := wide_signed.r_j7 N nox nox
  have h := (at_eq (wide_signed.E N) Try.f52 [.v .bool, .v (.int .u64), .v (.int .u64)] [.v tWide, .v .bool] hr trivial (wide_signed.s_j7 x1 x2 x6)).trans (wide_signed.h_j7 N nox nox x1 x2 x6)
  exact h
theorem wide_signed.h_top (N : Nat) (κJ κL : Nat → St → wide_signed.R) (a0 : Bool) (a1 : Int) (a2 : Int) : atQ (wide_signed.E N) Try.f52 [.v .bool, .v (.int .u64), .v (.int .u64)] [.v tWide, .v .bool] κJ κL [] [] (entry ([.v .bool, .v (.int .u64), .v (.int .u64)] : List AM) (a0, a1, a2) 0 S0) = wide_signed.b N (fun x1 x2 x6 => κJ 7 (wide_signed.s_j7 x1 x2 x6)) a0 a1 a2 := by kernel_rfl
theorem wide_signed.r_top (N : Nat) (κJ κL : Nat → St → wide_signed.R) : selT (wide_signed.E N) κJ κL (tlsF (wide_signed.E N) Try.f52 [.v .bool, .v (.int .u64), .v (.int .u64)] [.v tWide, .v .bool] [] []) = [(κJ 7, wide_signed.e_j7 N)] := by kernel_rfl
theorem wide_signed.ok (N : Nat) (a0 : Bool) (a1 : Int) (a2 : Int) : evF (wide_signed.E N) Try.f52 [.v .bool, .v (.int .u64), .v (.int .u64)] [.v tWide, .v .bool] (a0, a1, a2) = wide_signed N a0 a1 a2 := by
  obtain ⟨κJ, q_j7, _⟩ := tabs' nox0 [(7, wide_signed.e_j7 N)] (rfl : _ = [7]) (by decide)
  have hr := wide_signed.r_top N κJ nox
  have h := (at_eq (wide_signed.E N) Try.f52 [.v .bool, .v (.int .u64), .v (.int .u64)] [.v tWide, .v .bool] hr ⟨q_j7, trivial⟩ (entry ([.v .bool, .v (.int .u64), .v (.int .u64)] : List AM) (a0, a1, a2) 0 S0)).trans (wide_signed.h_top N κJ nox a0 a1 a2)
  have e_j7 : (fun x1 x2 x6 => wide_signed.e_j7 N (wide_signed.s_j7 x1 x2 x6)) = wide_signed.j7 N := funext fun x1 => funext fun x2 => funext fun x6 => wide_signed.j7_ok N x1 x2 x6
  rw [q_j7, e_j7] at h; exact (evF_at (by kernel_rfl) _).trans h
theorem wide_signed.env (N : Nat) : EnvOk Try.prog (wide_signed.E N) := mkE_ok tabok ⟨⟨sub64.sum N, trivial⟩, trivial⟩ (by kernel_rfl)
theorem wide_signed.sum (N : Nat) : SumOk Try.prog 52 (wide_signed.S N) := sum_mk (wide_signed.env N) (wide_signed.S N) Try.func52 (by kernel_rfl) (fun x => wide_signed.ok N x.1 x.2.1 x.2.2)

noncomputable def wide_Mul.S (N : Nat) : Summ := { args := [.v (.int .i64), .v (.int .i64)], res := [.v tWide], quiet := true, run := fun x => wide_Mul N x.1 x.2 }
noncomputable def wide_Mul.E (N : Nat) : Env := mkE 29 tab [(54, [amount_Size.S N]), (53, [bits_Mul64.S N]), (52, [wide_signed.S N])] [] [] [] N
theorem wide_Mul.ok (N : Nat) (a0 : Int) (a1 : Int) : evF (wide_Mul.E N) Try.f32 [.v (.int .i64), .v (.int .i64)] [.v tWide] (a0, a1) = wide_Mul N a0 a1 := by kernel_rfl
theorem wide_Mul.env (N : Nat) : EnvOk Try.prog (wide_Mul.E N) := mkE_ok tabok ⟨⟨amount_Size.sum N, trivial⟩, ⟨⟨bits_Mul64.sum N, trivial⟩, ⟨⟨wide_signed.sum N, trivial⟩, trivial⟩⟩⟩ (by kernel_rfl)
theorem wide_Mul.sum (N : Nat) : SumOk Try.prog 32 (wide_Mul.S N) := sum_mk (wide_Mul.env N) (wide_Mul.S N) Try.func32 (by kernel_rfl) (fun x => wide_Mul.ok N x.1 x.2)

noncomputable def wide_size.S (N : Nat) : Summ := { args := [.v tWide], res := [.v (.int .u64), .v (.int .u64)], quiet := true, run := fun x => wide_size N x }
noncomputable def wide_size.E (N : Nat) : Env := mkE 32 tab [(61, [sub64.S N])] [] [] [] N
theorem wide_size.ok (N : Nat) (a0 : Ty.den tWide) : evF (wide_size.E N) Try.f50 [.v tWide] [.v (.int .u64), .v (.int .u64)] (a0) = wide_size N a0 := by kernel_rfl
theorem wide_size.env (N : Nat) : EnvOk Try.prog (wide_size.E N) := mkE_ok tabok ⟨⟨sub64.sum N, trivial⟩, trivial⟩ (by kernel_rfl)
theorem wide_size.sum (N : Nat) : SumOk Try.prog 50 (wide_size.S N) := sum_mk (wide_size.env N) (wide_size.S N) Try.func50 (by kernel_rfl) (fun x => wide_size.ok N x)

noncomputable def bits_Len64.S (N : Nat) : Summ := { args := [.v (.int .u64)], res := [.v (.int .i64)], quiet := true, run := fun x => bits_Len64 N x }
noncomputable def bits_Len64.c_j7 : List (Nat × CM) := [(0, .v (.int .u64)), (2, .v (.int .i64))]
noncomputable def bits_Len64.c_j4 : List (Nat × CM) := [(0, .v (.int .u64)), (2, .v (.int .i64))]
noncomputable def bits_Len64.E (N : Nat) : Env := mkE 25 tab [] [] [(7, bits_Len64.c_j7), (4, bits_Len64.c_j4)] [] N
abbrev bits_Len64.R := Option ((Int))
noncomputable def bits_Len64.s_j7 (x0 : Int) (x2 : Int) : St := ((S0.put 0 (.val (.int .u64) x0)).put 2 (.val (.int .i64) x2))
noncomputable def bits_Len64.s_j4 (x0 : Int) (x2 : Int) : St := ((S0.put 0 (.val (.int .u64) x0)).put 2 (.val (.int .i64) x2))
noncomputable def bits_Len64.e_j7 (N : Nat) : St → bits_Len64.R := atF (bits_Len64.E N) Try.f65 [.v (.int .u64)] [.v (.int .i64)] [1, 1, 1] []
noncomputable def bits_Len64.e_j4 (N : Nat) : St → bits_Len64.R := atF (bits_Len64.E N) Try.f65 [.v (.int .u64)] [.v (.int .i64)] [1, 1] []
theorem bits_Len64.h_j7 (N : Nat) (κJ κL : Nat → St → bits_Len64.R) (x0 : Int) (x2 : Int) : atQ (bits_Len64.E N) Try.f65 [.v (.int .u64)] [.v (.int .i64)] κJ κL [1, 1, 1] [] (bits_Len64.s_j7 x0 x2) = bits_Len64.j7b N x0 x2 := by kernel_rfl
theorem bits_Len64.r_j7 (N : Nat) (κJ κL : Nat → St → bits_Len64.R) : selT (bits_Len64.E N) κJ κL (tlsF (bits_Len64.E N) Try.f65 [.v (.int .u64)] [.v (.int .i64)] [1, 1, 1] []) = [] := by kernel_rfl
theorem bits_Len64.j7_ok (N : Nat) (x0 : Int) (x2 : Int) : bits_Len64.e_j7 N (bits_Len64.s_j7 x0 x2) = bits_Len64.j7 N x0 x2 := by
  have hr := bits_Len64.r_j7 N nox nox
  have h := (at_eq (bits_Len64.E N) Try.f65 [.v (.int .u64)] [.v (.int .i64)] hr trivial (bits_Len64.s_j7 x0 x2)).trans (bits_Len64.h_j7 N nox nox x0 x2)
  exact h
theorem bits_Len64.h_j4 (N : Nat) (κJ κL : Nat → St → bits_Len64.R) (x0 : Int) (x2 : Int) : atQ (bits_Len64.E N) Try.f65 [.v (.int .u64)] [.v (.int .i64)] κJ κL [1, 1] [] (bits_Len64.s_j4 x0 x2) = bits_Len64.j4b N (fun x0 x2 => κJ 7 (bits_Len64.s_j7 x0 x2)) x0 x2 := by kernel_rfl
theorem bits_Len64.r_j4 (N : Nat) (κJ κL : Nat → St → bits_Len64.R) : selT (bits_Len64.E N) κJ κL (tlsF (bits_Len64.E N) Try.f65 [.v (.int .u64)] [.v (.int .i64)] [1, 1] []) = [(κJ 7, bits_Len64.e_j7 N)] := by kernel_rfl
theorem bits_Len64.j4_ok (N : Nat) (x0 : Int) (x2 : Int) : bits_Len64.e_j4 N (bits_Len64.s_j4 x0 x2) = bits_Len64.j4 N x0 x2 := by
  obtain ⟨κJ, q_j7, _⟩ := tabs' nox0 [(7, bits_Len64.e_j7 N)] (rfl : _ = [7]) (by decide)
  have hr := bits_Len64.r_j4 N κJ nox
  have h := (at_eq (bits_Len64.E N) Try.f65 [.v (.int .u64)] [.v (.int .i64)] hr ⟨q_j7, trivial⟩ (bits_Len64.s_j4 x0 x2)).trans (bits_Len64.h_j4 N κJ nox x0 x2)
  have e_j7 : (fun x0 x2 => bits_Len64.e_j7 N (bits_Len64.s_j7 x0 x2)) = bits_Len64.j7 N := funext fun x0 => funext fun x2 => bits_Len64.j7_ok N x0 x2
  rw [q_j7, e_j7] at h; exact h
theorem bits_Len64.h_top (N : Nat) (κJ κL : Nat → St → bits_Len64.R) (a0 : Int) : atQ (bits_Len64.E N) Try.f65 [.v (.int .u64)] [.v (.int .i64)] κJ κL [] [] (entry ([.v (.int .u64)] : List AM) (a0) 0 S0) = bits_Len64.b N (fun x0 x2 => κJ 4 (bits_Len64.s_j4 x0 x2)) a0 := by kernel_rfl
theorem bits_Len64.r_top (N : Nat) (κJ κL : Nat → St → bits_Len64.R) : selT (bits_Len64.E N) κJ κL (tlsF (bits_Len64.E N) Try.f65 [.v (.int .u64)] [.v (.int .i64)] [] []) = [(κJ 4, bits_Len64.e_j4 N), (κJ 7, bits_Len64.e_j7 N)] := by kernel_rfl
theorem bits_Len64.ok (N : Nat) (a0 : Int) : evF (bits_Len64.E N) Try.f65 [.v (.int .u64)] [.v (.int .i64)] (a0) = bits_Len64 N a0 := by
  obtain ⟨κJ, q_j4, q_j7, _⟩ := tabs' nox0 [(4, bits_Len64.e_j4 N), (7, bits_Len64.e_j7 N)] (rfl : _ = [4, 7]) (by decide)
  have hr := bits_Len64.r_top N κJ nox
  have h := (at_eq (bits_Len64.E N) Try.f65 [.v (.int .u64)] [.v (.int .i64)] hr ⟨q_j4, q_j7, trivial⟩ (entry ([.v (.int .u64)] : List AM) (a0) 0 S0)).trans (bits_Len64.h_top N κJ nox a0)
  have e_j4 : (fun x0 x2 => bits_Len64.e_j4 N (bits_Len64.s_j4 x0 x2)) = bits_Len64.j4 N := funext fun x0 => funext fun x2 => bits_Len64.j4_ok N x0 x2
  rw [q_j4, e_j4] at h; exact (evF_at (by kernel_rfl) _).trans h
theorem bits_Len64.env (N : Nat) : EnvOk Try.prog (bits_Len64.E N) := mkE_ok tabok trivial (by kernel_rfl)
theorem bits_Len64.sum (N : Nat) : SumOk Try.prog 65 (bits_Len64.S N) := sum_mk (bits_Len64.env N) (bits_Len64.S N) Try.func65 (by kernel_rfl) (fun x => bits_Len64.ok N x)

noncomputable def bits_LeadingZeros64.S (N : Nat) : Summ := { args := [.v (.int .u64)], res := [.v (.int .i64)], quiet := true, run := fun x => bits_LeadingZeros64 N x }
noncomputable def bits_LeadingZeros64.E (N : Nat) : Env := mkE 6 tab [(65, [bits_Len64.S N])] [] [] [] N
theorem bits_LeadingZeros64.ok (N : Nat) (a0 : Int) : evF (bits_LeadingZeros64.E N) Try.f62 [.v (.int .u64)] [.v (.int .i64)] (a0) = bits_LeadingZeros64 N a0 := by kernel_rfl
theorem bits_LeadingZeros64.env (N : Nat) : EnvOk Try.prog (bits_LeadingZeros64.E N) := mkE_ok tabok ⟨⟨bits_Len64.sum N, trivial⟩, trivial⟩ (by kernel_rfl)
theorem bits_LeadingZeros64.sum (N : Nat) : SumOk Try.prog 62 (bits_LeadingZeros64.S N) := sum_mk (bits_LeadingZeros64.env N) (bits_LeadingZeros64.S N) Try.func62 (by kernel_rfl) (fun x => bits_LeadingZeros64.ok N x)

noncomputable def bits_Div64.S (N : Nat) : Summ := { args := [.v (.int .u64), .v (.int .u64), .v (.int .u64)], res := [.v (.int .u64), .v (.int .u64)], quiet := true, run := fun x => bits_Div64 N x.1 x.2.1 x.2.2 }
noncomputable def bits_Div64.c_j28 : List (Nat × CM) := [(2, .v (.int .u64)), (8, .v (.int .u64)), (14, .v (.int .u64)), (15, .v (.int .u64)), (17, .v (.int .u64)), (18, .v (.int .u64))]
noncomputable def bits_Div64.c_l24 : List (Nat × CM) := [(2, .v (.int .u64)), (8, .v (.int .u64)), (9, .v (.int .u64)), (10, .v (.int .u64)), (14, .v (.int .u64)), (15, .v (.int .u64)), (16, .v (.int .u64)), (17, .v (.int .u64)), (18, .v (.int .u64))]
noncomputable def bits_Div64.c_j21 : List (Nat × CM) := [(2, .v (.int .u64)), (8, .v (.int .u64)), (9, .v (.int .u64)), (10, .v (.int .u64)), (11, .v (.int .u64)), (13, .v (.int .u64)), (14, .v (.int .u64)), (15, .v (.int .u64))]
noncomputable def bits_Div64.c_l17 : List (Nat × CM) := [(2, .v (.int .u64)), (8, .v (.int .u64)), (9, .v (.int .u64)), (10, .v (.int .u64)), (11, .v (.int .u64)), (13, .v (.int .u64)), (14, .v (.int .u64)), (15, .v (.int .u64)), (16, .v (.int .u64))]
noncomputable def bits_Div64.E (N : Nat) : Env := mkE 135 tab [(62, [bits_LeadingZeros64.S N])] [(24, bits_Div64.c_l24), (17, bits_Div64.c_l17)] [(28, bits_Div64.c_j28), (21, bits_Div64.c_j21)] [] N
abbrev bits_Div64.R := Option ((Int) × (Int))
noncomputable def bits_Div64.s_j28 (x2 : Int) (x8 : Int) (x14 : Int) (x15 : Int) (x17 : Int) (x18 : Int) : St := ((((((S0.put 2 (.val (.int .u64) x2)).put 8 (.val (.int .u64) x8)).put 14 (.val (.int .u64) x14)).put 15 (.val (.int .u64) x15)).put 17 (.val (.int .u64) x17)).put 18 (.val (.int .u64) x18))
noncomputable def bits_Div64.s_l24 (x2 : Int) (x8 : Int) (x9 : Int) (x10 : Int) (x14 : Int) (x15 : Int) (x16 : Int) (x17 : Int) (x18 : Int) : St := (((((((((S0.put 2 (.val (.int .u64) x2)).put 8 (.val (.int .u64) x8)).put 9 (.val (.int .u64) x9)).put 10 (.val (.int .u64) x10)).put 14 (.val (.int .u64) x14)).put 15 (.val (.int .u64) x15)).put 16 (.val (.int .u64) x16)).put 17 (.val (.int .u64) x17)).put 18 (.val (.int .u64) x18))
noncomputable def bits_Div64.s_j21 (x2 : Int) (x8 : Int) (x9 : Int) (x10 : Int) (x11 : Int) (x13 : Int) (x14 : Int) (x15 : Int) : St := ((((((((S0.put 2 (.val (.int .u64) x2)).put 8 (.val (.int .u64) x8)).put 9 (.val (.int .u64) x9)).put 10 (.val (.int .u64) x10)).put 11 (.val (.int .u64) x11)).put 13 (.val (.int .u64) x13)).put 14 (.val (.int .u64) x14)).put 15 (.val (.int .u64) x15))
noncomputable def bits_Div64.s_l17 (x2 : Int) (x8 : Int) (x9 : Int) (x10 : Int) (x11 : Int) (x13 : Int) (x14 : Int) (x15 : Int) (x16 : Int) : St := (((((((((S0.put 2 (.val (.int .u64) x2)).put 8 (.val (.int .u64) x8)).put 9 (.val (.int .u64) x9)).put 10 (.val (.int .u64) x10)).put 11 (.val (.int .u64) x11)).put 13 (.val (.int .u64) x13)).put 14 (.val (.int .u64) x14)).put 15 (.val (.int .u64) x15)).put 16 (.val (.int .u64) x16))
noncomputable def bits_Div64.e_j28 (N : Nat) : St → bits_Div64.R := atF (bits_Div64.E N) Try.f51 [.v (.int .u64), .v (.int .u64), .v (.int .u64)] [.v (.int .u64), .v (.int .u64)] [1, 1, 1, 1, 1, 1, 1, 1, 1, 1, 1, 1, 1, 1, 1, 1, 1, 1, 1] []
noncomputable def bits_Div64.e_l24 (N : Nat) (n : Nat) : St → bits_Div64.R := lpF (bits_Div64.E N) Try.f51 [.v (.int .u64), .v (.int .u64), .v (.int .u64)] [.v (.int .u64), .v (.int .u64)] bits_Div64.c_l24 [1, 1, 1, 1, 1, 1, 1, 1, 1, 1, 1, 1, 1, 1, 1, 1, 1, 1, 0, 0, 0] [] n
noncomputable def bits_Div64.e_j21 (N : Nat) : St → bits_Div64.R := atF (bits_Div64.E N) Try.f51 [.v (.int .u64), .v (.int .u64), .v (.int .u64)] [.v (.int .u64), .v (.int .u64)] [1, 1, 1, 1, 1, 1, 1, 1, 1, 1, 1, 1, 1, 1, 1] []
noncomputable def bits_Div64.e_l17 (N : Nat) (n : Nat) : St → bits_Div64.R := lpF (bits_Div64.E N) Try.f51 [.v (.int .u64), .v (.int .u64), .v (.int .u64)] [.v (.int .u64), .v (.int .u64)] bits_Div64.c_l17 [1, 1, 1, 1, 1, 1, 1, 1, 1, 1, 1, 1, 1, 1, 0, 0, 0] [] n
theorem bits_Div64.h_j28 (N : Nat) (κJ κL : Nat → St → bits_Div64.R) (x2 : Int) (x8 : Int) (x14 : Int) (x15 : Int) (x17 : Int) (x18 : Int) : atQ (bits_Div64.E N) Try.f51 [.v (.int .u64), .v (.int .u64), .v (.int .u64)] [.v (.int .u64), .v (.int .u64)] κJ κL [1, 1, 1, 1, 1, 1, 1, 1, 1, 1, 1, 1, 1, 1, 1, 1, 1, 1, 1] [] (bits_Div64.s_j28 x2 x8 x14 x15 x17 x18) = bits_Div64.j28b N x2 x8 x14 x15 x17 x18 := by kernel_rfl
theorem bits_Div64.r_j28 (N : Nat) (κJ κL : Nat → St → bits_Div64.R) : selT (bits_Div64.E N) κJ κL (tlsF (bits_Div64.E N) Try.f51 [.v (.int .u64), .v (.int .u64), .v (.int .u64)] [.v (.int .u64), .v (.int .u64)] [1, 1, 1, 1, 1, 1, 1, 1, 1, 1, 1, 1, 1, 1, 1, 1, 1, 1, 1] []) = [] := by kernel_rfl
theorem bits_Div64.j28_ok (N : Nat) (x2 : Int) (x8 : Int) (x14 : Int) (x15 : Int) (x17 : Int) (x18 : Int) : bits_Div64.e_j28 N (bits_Div64.s_j28 x2 x8 x14 x15 x17 x18) = bits_Div64.j28 N x2 x8 x14 x15 x17 x18 := by
  have hr := bits_Div64.r_j28 N nox nox
  have h := (at_eq (bits_Div64.E N) Try.f51 [.v (.int .u64), .v (.int .u64), .v (.int .u64)] [.v (.int .u64), .v (.int .u64)] hr trivial (bits_Div64.s_j28 x2 x8 x14 x15 x17 x18)).trans (bits_Div64.h_j28 N nox nox x2 x8 x14 x15 x17 x18)
  exact h
theorem bits_Div64.h_l24 (N : Nat) (κJ κL : Nat → St → bits_Div64.R) (κ_l24 : St → bits_Div64.R) (x2 : Int) (x8 : Int) (x9 : Int) (x10 : Int) (x14 : Int) (x15 : Int) (x16 : Int) (x17 : Int) (x18 : Int) : atQ (bits_Div64.E N) Try.f51 [.v (.int .u64), .v (.int .u64), .v (.int .u64)] [.v (.int .u64), .v (.int .u64)] κJ κL [1, 1, 1, 1, 1, 1, 1, 1, 1, 1, 1, 1, 1, 1, 1, 1, 1, 1, 0, 0, 0] [fun σ => cutK (some bits_Div64.c_l24) σ κ_l24] (bits_Div64.s_l24 x2 x8 x9 x10 x14 x15 x16 x17 x18) = bits_Div64.l24b N (fun x2 x8 x14 x15 x17 x18 => κJ 28 (bits_Div64.s_j28 x2 x8 x14 x15 x17 x18)) (fun x2 x8 x9 x10 x14 x15 x16 x17 x18 => κ_l24 (bits_Div64.s_l24 x2 x8 x9 x10 x14 x15 x16 x17 x18)) x2 x8 x9 x10 x14 x15 x16 x17 x18 := by kernel_rfl
theorem bits_Div64.r_l24 (N : Nat) (κJ κL : Nat → St → bits_Div64.R) (κ_l24 : St → bits_Div64.R) : selT (bits_Div64.E N) κJ κL (tlsF (bits_Div64.E N) Try.f51 [.v (.int .u64), .v (.int .u64), .v (.int .u64)] [.v (.int .u64), .v (.int .u64)] [1, 1, 1, 1, 1, 1, 1, 1, 1, 1, 1, 1, 1, 1, 1, 1, 1, 1, 0, 0, 0] [fun σ => cutK (some bits_Div64.c_l24) σ κ_l24]) = [(κJ 28, bits_Div64.e_j28 N)] := by kernel_rfl
theorem bits_Div64.l24_ok (N : Nat) (n : Nat) : ∀ (x2 : Int) (x8 : Int) (x9 : Int) (x10 : Int) (x14 : Int) (x15 : Int) (x16 : Int) (x17 : Int) (x18 : Int), bits_Div64.e_l24 N n (bits_Div64.s_l24 x2 x8 x9 x10 x14 x15 x16 x17 x18) = bits_Div64.l24 N n x2 x8 x9 x10 x14 x15 x16 x17 x18 := by
  induction n with
  | zero => intros; rfl
  | succ n ih =>
    intro x2 x8 x9 x10 x14 x15 x16 x17 x18
    obtain ⟨κJ, q_j28, _⟩ := tabs' nox0 [(28, bits_Div64.e_j28 N)] (rfl : _ = [28]) (by decide)
    have hr := bits_Div64.r_l24 N κJ nox (bits_Div64.e_l24 N n)
    have h := (at_eq (bits_Div64.E N) Try.f51 [.v (.int .u64), .v (.int .u64), .v (.int .u64)] [.v (.int .u64), .v (.int .u64)] hr ⟨q_j28, trivial⟩ (bits_Div64.s_l24 x2 x8 x9 x10 x14 x15 x16 x17 x18)).trans (bits_Div64.h_l24 N κJ nox (bits_Div64.e_l24 N n) x2 x8 x9 x10 x14 x15 x16 x17 x18)
    have e_j28 : (fun x2 x8 x14 x15 x17 x18 => bits_Div64.e_j28 N (bits_Div64.s_j28 x2 x8 x14 x15 x17 x18)) = bits_Div64.j28 N := funext fun x2 => funext fun x8 => funext fun x14 => funext fun x15 => funext fun x17 => funext fun x18 => bits_Div64.j28_ok N x2 x8 x14 x15 x17 x18
    have e_me : (fun x2 x8 x9 x10 x14 x15 x16 x17 x18 => (bits_Div64.e_l24 N n) (bits_Div64.s_l24 x2 x8 x9 x10 x14 x15 x16 x17 x18)) = bits_Div64.l24 N n := funext fun x2 => funext fun x8 => funext fun x9 => funext fun x10 => funext fun x14 => funext fun x15 => funext fun x16 => funext fun x17 => funext fun x18 => ih x2 x8 x9 x10 x14 x15 x16 x17 x18
    rw [q_j28, e_j28, e_me] at h; exact h
theorem bits_Div64.h_j21 (N : Nat) (κJ κL : Nat → St → bits_Div64.R) (x2 : Int) (x8 : Int) (x9 : Int) (x10 : Int) (x11 : Int) (x13 : Int) (x14 : Int) (x15 : Int) : atQ (bits_Div64.E N) Try.f51 [.v (.int .u64), .v (.int .u64), .v (.int .u64)] [.v (.int .u64), .v (.int .u64)] κJ κL [1, 1, 1, 1, 1, 1, 1, 1, 1, 1, 1, 1, 1, 1, 1] [] (bits_Div64.s_j21 x2 x8 x9 x10 x11 x13 x14 x15) = bits_Div64.j21b N (fun x2 x8 x9 x10 x14 x15 x16 x17 x18 => κL 24 (bits_Div64.s_l24 x2 x8 x9 x10 x14 x15 x16 x17 x18)) x2 x8 x9 x10 x11 x13 x14 x15 := by kernel_rfl
theorem bits_Div64.r_j21 (N : Nat) (κJ κL : Nat → St → bits_Div64.R) : selT (bits_Div64.E N) κJ κL (tlsF (bits_Div64.E N) Try.f51 [.v (.int .u64), .v (.int .u64), .v (.int .u64)] [.v (.int .u64), .v (.int .u64)] [1, 1, 1, 1, 1, 1, 1, 1, 1, 1, 1, 1, 1, 1, 1] []) = [(κL 24, bits_Div64.e_l24 N N), (κJ 28, bits_Div64.e_j28 N)] := by kernel_rfl
theorem bits_Div64.j21_ok (N : Nat) (x2 : Int) (x8 : Int) (x9 : Int) (x10 : Int) (x11 : Int) (x13 : Int) (x14 : Int) (x15 : Int) : bits_Div64.e_j21 N (bits_Div64.s_j21 x2 x8 x9 x10 x11 x13 x14 x15) = bits_Div64.j21 N x2 x8 x9 x10 x11 x13 x14 x15 := by
  obtain ⟨κJ, q_j28, _⟩ := tabs' nox0 [(28, bits_Div64.e_j28 N)] (rfl : _ = [28]) (by decide)
  obtain ⟨κL, q_l24, _⟩ := tabs' nox0 [(24, bits_Div64.e_l24 N N)] (rfl : _ = [24]) (by decide)
  have hr := bits_Div64.r_j21 N κJ κL
  have h := (at_eq (bits_Div64.E N) Try.f51 [.v (.int .u64), .v (.int .u64), .v (.int .u64)] [.v (.int .u64), .v (.int .u64)] hr ⟨q_l24, q_j28, trivial⟩ (bits_Div64.s_j21 x2 x8 x9 x10 x11 x13 x14 x15)).trans (bits_Div64.h_j21 N κJ κL x2 x8 x9 x10 x11 x13 x14 x15)
  have e_l24 : (fun x2 x8 x9 x10 x14 x15 x16 x17 x18 => bits_Div64.e_l24 N N (bits_Div64.s_l24 x2 x8 x9 x10 x14 x15 x16 x17 x18)) = bits_Div64.l24 N N := funext fun x2 => funext fun x8 => funext fun x9 => funext fun x10 => funext fun x14 => funext fun x15 => funext fun x16 => funext fun x17 => funext fun x18 => bits_Div64.l24_ok N N x2 x8 x9 x10 x14 x15 x16 x17 x18
  rw [q_l24, e_l24] at h; exact h
theorem bits_Div64.h_l17 (N : Nat) (κJ κL : Nat → St → bits_Div64.R) (κ_l17 : St → bits_Div64.R) (x2 : Int) (x8 : Int) (x9 : Int) (x10 : Int) (x11 : Int) (x13 : Int) (x14 : Int) (x15 : Int) (x16 : Int) : atQ (bits_Div64.E N) Try.f51 [.v (.int .u64), .v (.int .u64), .v (.int .u64)] [.v (.int .u64), .v (.int .u64)] κJ κL [1, 1, 1, 1, 1, 1, 1, 1, 1, 1, 1, 1, 1, 1, 0, 0, 0] [fun σ => cutK (some bits_Div64.c_l17) σ κ_l17] (bits_Div64.s_l17 x2 x8 x9 x10 x11 x13 x14 x15 x16) = bits_Div64.l17b N (fun x2 x8 x9 x10 x11 x13 x14 x15 => κJ 21 (bits_Div64.s_j21 x2 x8 x9 x10 x11 x13 x14 x15)) (fun x2 x8 x9 x10 x11 x13 x14 x15 x16 => κ_l17 (bits_Div64.s_l17 x2 x8 x9 x10 x11 x13 x14 x15 x16)) x2 x8 x9 x10 x11 x13 x14 x15 x16 := by kernel_rfl
theorem bits_Div64.r_l17 (N : Nat) (κJ κL : Nat → St → bits_Div64.R) (κ_l17 : St → bits_Div64.R) : selT (bits_Div64.E N) κJ κL (tlsF (bits_Div64.E N) Try.f51 [.v (.int .u64), .v (.int .u64), .v (.int .u64)] [.v (.int .u64), .v (.int .u64)] [1, 1, 1, 1, 1, 1, 1, 1, 1, 1, 1, 1, 1, 1, 0, 0, 0] [fun σ => cutK (some bits_Div64.c_l17) σ κ_l17]) = [(κJ 21, bits_Div64.e_j21 N), (κL 24, bits_Div64.e_l24 N N), (κJ 28, bits_Div64.e_j28 N)] := by kernel_rfl
theorem bits_Div64.l17_ok (N : Nat) (n : Nat) : ∀ (x2 : Int) (x8 : Int) (x9 : Int) (x10 : Int) (x11 : Int) (x13 : Int) (x14 : Int) (x15 : Int) (x16 : Int), bits_Div64.e_l17 N n (bits_Div64.s_l17 x2 x8 x9 x10 x11 x13 x14 x15 x16) = bits_Div64.l17 N n x2 x8 x9 x10 x11 x13 x14 x15 x16 := by
  induction n with
  | zero => intros; rfl
  | succ n ih =>
    intro x2 x8 x9 x10 x11 x13 x14 x15 x16
    obtain ⟨κJ, q_j21, q_j28, _⟩ := tabs' nox0 [(21, bits_Div64.e_j21 N), (28, bits_Div64.e_j28 N)] (rfl : _ = [21, 28]) (by decide)
    obtain ⟨κL, q_l24, _⟩ := tabs' nox0 [(24, bits_Div64.e_l24 N N)] (rfl : _ = [24]) (by decide)
    have hr := bits_Div64.r_l17 N κJ κL (bits_Div64.e_l17 N n)
    have h := (at_eq (bits_Div64.E N) Try.f51 [.v (.int .u64), .v (.int .u64), .v (.int .u64)] [.v (.int .u64), .v (.int .u64)] hr ⟨q_j21, q_l24, q_j28, trivial⟩ (bits_Div64.s_l17 x2 x8 x9 x10 x11 x13 x14 x15 x16)).trans (bits_Div64.h_l17 N κJ κL (bits_Div64.e_l17 N n) x2 x8 x9 x10 x11 x13 x14 x15 x16)
    have e_j21 : (fun x2 x8 x9 x10 x11 x13 x14 x15 => bits_Div64.e_j21 N (bits_Div64.s_j21 x2 x8 x9 x10 x11 x13 x14 x15)) = bits_Div64.j21 N := funext fun x2 => funext fun x8 => funext fun x9 => funext fun x10 => funext fun x11 => funext fun x13 => funext fun x14 => funext fun x15 => bits_Div64.j21_ok N x2 x8 x9 x10 x11 x13 x14 x15
    have e_me : (fun x2 x8 x9 x10 x11 x13 x14 x15 x16 => (bits_Div64.e_l17 N n) (bits_Div64.s_l17 x2 x8 x9 x10 x11 x13 x14 x15 x16)) = bits_Div64.l17 N n := funext fun x2 => funext fun x8 => funext fun x9 => funext fun x10 => funext fun x11 => funext fun x13 => funext fun x14 => funext fun x15 => funext fun x16 => ih x2 x8 x9 x10 x11 x13 x14 x15 x16
    rw [q_j21, e_j21, e_me] at h; exact h
theorem bits_Div64.h_top (N : Nat) (κJ κL : Nat → St → bits_Div64.R) (a0 : Int) (a1 : Int) (a2 : Int) : atQ (bits_Div64.E N) Try.f51 [.v (.int .u64), .v (.int .u64), .v (.int .u64)] [.v (.int .u64), .v (.int .u64)] κJ κL [] [] (entry ([.v (.int .u64), .v (.int .u64), .v (.int .u64)] : List AM) (a0, a1, a2) 0 S0) = bits_Div64.b N (fun x2 x8 x9 x10 x11 x13 x14 x15 x16 => κL 17 (bits_Div64.s_l17 x2 x8 x9 x10 x11 x13 x14 x15 x16)) a0 a1 a2 := by kernel_rfl
theorem bits_Div64.r_top (N : Nat) (κJ κL : Nat → St → bits_Div64.R) : selT (bits_Div64.E N) κJ κL (tlsF (bits_Div64.E N) Try.f51 [.v (.int .u64), .v (.int .u64), .v (.int .u64)] [.v (.int .u64), .v (.int .u64)] [] []) = [(κL 17, bits_Div64.e_l17 N N), (κJ 21, bits_Div64.e_j21 N), (κL 24, bits_Div64.e_l24 N N), (κJ 28, bits_Div64.e_j28 N)] := by kernel_rfl
theorem bits_Div64.ok (N : Nat) (a0 : Int) (a1 : Int) (a2 : Int) : evF (bits_Div64.E N) Try.f51 [.v (.int .u64), .v (.int .u64), .v (.int .u64)] [.v (.int .u64), .v (.int .u64)] (a0, a1, a2) = bits_Div64 N a0 a1 a2 := by
  obtain ⟨κJ, q_j21, q_j28, _⟩ := tabs' nox0 [(21, bits_Div64.e_j21 N), (28, bits_Div64.e_j28 N)] (rfl : _ = [21, 28]) (by decide)
  obtain ⟨κL, q_l17, q_l24, _⟩ := tabs' nox0 [(17, bits_Div64.e_l17 N N), (24, bits_Div64.e_l24 N N)] (rfl : _ = [17, 24]) (by decide)
  have hr := bits_Div64.r_top N κJ κL
  have h := (at_eq (bits_Div64.E N) Try.f51 [.v (.int .u64), .v (.int .u64), .v (.int .u64)] [.v (.int .u64), .v (.int .u64)] hr ⟨q_l17, q_j21, q_l24, q_j28, trivial⟩ (entry ([.v (.int .u64), .v (.int .u64), .v (.int .u64)] : List AM) (a0, a1, a2) 0 S0)).trans (bits_Div64.h_top N κJ κL a0 a1 a2)
  have e_l17 : (fun x2 x8 x9 x10 x11 x13 x14 x15 x16 => bits_Div64.e_l17 N N (bits_Div64.s_l17 x2 x8 x9 x10 x11 x13 x14 x15 x16)) = bits_Div64.l17 N N := funext fun x2 => funext fun x8 => funext fun x9 => funext fun x10 => funext fun x11 => funext fun x13 => funext fun x14 => funext fun x15 => funext fun x16 => bits_Div64.l17_ok N N x2 x8 x9 x10 x11 x13 x14 x15 x16
  rw [q_l17, e_l17] at h; exact (evF_at (by kernel_rfl) _).trans h
theorem bits_Div64.env (N : Nat) : EnvOk Try.prog (bits_Div64.E N) := mkE_ok tabok ⟨⟨bits_LeadingZeros64.sum N, trivial⟩, trivial⟩ (by kernel_rfl)
theorem bits_Div64.sum (N : Nat) : SumOk Try.prog 51 (bits_Div64.S N) := sum_mk (bits_Div64.env N) (bits_Div64.S N) Try.func51 (by kernel_rfl) (fun x => bits_Div64.ok N x.1 x.2.1 x.2.2)

noncomputable def wide_Div.S (N : Nat) : Summ := { args := [.v tWide, .v (.int .i64)], res := [.v tWide, .v (.int .i64), .v .bool], quiet := true, run := fun x => wide_Div N x.1 x.2 }
noncomputable def wide_Div.c_j13 : List (Nat × CM) := [(4, .obj tWide), (10, .v (.int .u64)), (11, .v (.int .u64)), (12, .v (.int .u64))]
noncomputable def wide_Div.E (N : Nat) : Env := mkE 70 tab [(50, [wide_size.S N]), (51, [bits_Div64.S N]), (49, [add64.S N]), (52, [wide_signed.S N])] [] [(13, wide_Div.c_j13)] [] N
abbrev wide_Div.R := Option ((Ty.den tWide) × (Int) × (Bool))
noncomputable def wide_Div.s_j13 (x4 : Ty.den tWide) (x10 : Int) (x11 : Int) (x12 : Int) : St := (((((S0.put 4 (.adr 78 [])).putH 78 (some (.obj tWide x4))).put 10 (.val (.int .u64) x10)).put 11 (.val (.int .u64) x11)).put 12 (.val (.int .u64) x12))
noncomputable def wide_Div.e_j13 (N : Nat) : St → wide_Div.R := atF (wide_Div.E N) Try.f31 [.v tWide, .v (.int .i64)] [.v tWide, .v (.int .i64), .v .bool] [1, 1, 1, 1, 1, 1, 1, 1] []
theorem wide_Div.h_j13 (N : Nat) (κJ κL : Nat → St → wide_Div.R) (x4 : Ty.den tWide) (x10 : Int) (x11 : Int) (x12 : Int) : atQ (wide_Div.E N) Try.f31 [.v tWide, .v (.int .i64)] [.v tWide, .v (.int .i64), .v .bool] κJ κL [1, 1, 1, 1, 1, 1, 1, 1] [] (wide_Div.s_j13 x4 x10 x11 x12) = wide_Div.j13b N x4 x10 x11 x12 := by kernel_rfl
theorem wide_Div.r_j13 (N : Nat) (κJ κL : Nat → St → wide_Div.R) : selT (wide_Div.E N) κJ κL (tlsF (wide_Div.E N) Try.f31 [.v tWide, .v (.int .i64)] [.v tWide, .v (.int .i64), .v .bool] [1, 1, 1, 1, 1, 1, 1, 1] []) = [] := by kernel_rfl
theorem wide_Div.j13_ok (N : Nat) (x4 : Ty.den tWide) (x10 : Int) (x11 : Int) (x12 : Int) : wide_Div.e_j13 N (wide_Div.s_j13 x4 x10 x11 x12) = wide_Div.j13 N x4 x10 x11 x12 := by
  have hr := wide_Div.r_j13 N nox nox
  have h := (at_eq (wide_Div.E N) Try.f31 [.v tWide, .v (.int .i64)] [.v tWide, .v (.int .i64), .v .bool] hr trivial (wide_Div.s_j13 x4 x10 x11 x12)).trans (wide_Div.h_j13 N nox nox x4 x10 x11 x12)
  exact h
theorem wide_Div.h_top (N : Nat) (κJ κL : Nat → St → wide_Div.R) (a0 : Ty.den tWide) (a1 : Int) : atQ (wide_Div.E N) Try.f31 [.v tWide, .v (.int .i64)] [.v tWide, .v (.int .i64), .v .bool] κJ κL [] [] (entry ([.v tWide, .v (.int .i64)] : List AM) (a0, a1) 0 S0) = wide_Div.b N (fun x4 x10 x11 x12 => κJ 13 (wide_Div.s_j13 x4 x10 x11 x12)) a0 a1 := by kernel_rfl
theorem wide_Div.r_top (N : Nat) (κJ κL : Nat → St → wide_Div.R) : selT (wide_Div.E N) κJ κL (tlsF (wide_Div.E N) Try.f31 [.v tWide, .v (.int .i64)] [.v tWide, .v (.int .i64), .v .bool] [] []) = [(κJ 13, wide_Div.e_j13 N)] := by kernel_rfl
theorem wide_Div.ok (N : Nat) (a0 : Ty.den tWide) (a1 : Int) : evF (wide_Div.E N) Try.f31 [.v tWide, .v (.int .i64)] [.v tWide, .v (.int .i64), .v .bool] (a0, a1) = wide_Div N a0 a1 := by
  obtain ⟨κJ, q_j13, _⟩ := tabs' nox0 [(13, wide_Div.e_j13 N)] (rfl : _ = [13]) (by decide)
  have hr := wide_Div.r_top N κJ nox
  have h := (at_eq (wide_Div.E N) Try.f31 [.v tWide, .v (.int .i64)] [.v tWide, .v (.int .i64), .v .bool] hr ⟨q_j13, trivial⟩ (entry ([.v tWide, .v (.int .i64)] : List AM) (a0, a1) 0 S0)).trans (wide_Div.h_top N κJ nox a0 a1)
  have e_j13 : (fun x4 x10 x11 x12 => wide_Div.e_j13 N (wide_Div.s_j13 x4 x10 x11 x12)) = wide_Div.j13 N := funext fun x4 => funext fun x10 => funext fun x11 => funext fun x12 => wide_Div.j13_ok N x4 x10 x11 x12
  rw [q_j13, e_j13] at h; exact (evF_at (by kernel_rfl) _).trans h
theorem wide_Div.env (N : Nat) : EnvOk Try.prog (wide_Div.E N) := mkE_ok tabok ⟨⟨wide_size.sum N, trivial⟩, ⟨⟨bits_Div64.sum N, trivial⟩, ⟨⟨add64.sum N, trivial⟩, ⟨⟨wide_signed.sum N, trivial⟩, trivial⟩⟩⟩⟩ (by kernel_rfl)
theorem wide_Div.sum (N : Nat) : SumOk Try.prog 31 (wide_Div.S N) := sum_mk (wide_Div.env N) (wide_Div.S N) Try.func31 (by kernel_rfl) (fun x => wide_Div.ok N x.1 x.2)

noncomputable def wide_Int.S (N : Nat) : Summ := { args := [.v tWide], res := [.v (.int .i64), .v .bool], quiet := true, run := fun x => wide_Int N x }
noncomputable def wide_Int.E (N : Nat) : Env := mkE 14 tab [] [] [] [] N
theorem wide_Int.ok (N : Nat) (a0 : Ty.den tWide) : evF (wide_Int.E N) Try.f33 [.v tWide] [.v (.int .i64), .v .bool] (a0) = wide_Int N a0 := by kernel_rfl
theorem wide_Int.env (N : Nat) : EnvOk Try.prog (wide_Int.E N) := mkE_ok tabok trivial (by kernel_rfl)
theorem wide_Int.sum (N : Nat) : SumOk Try.prog 33 (wide_Int.S N) := sum_mk (wide_Int.env N) (wide_Int.S N) Try.func33 (by kernel_rfl) (fun x => wide_Int.ok N x)

noncomputable def slices_Clip_int_int.S (N : Nat) : Summ := { args := [.v (.slice (.int .i64))], res := [.v (.slice (.int .i64))], quiet := false, run := fun x => slices_Clip_int_int N x }
noncomputable def slices_Clip_int_int.E (N : Nat) : Env := mkE 9 tab [] [] [] [] N
theorem slices_Clip_int_int.ok (N : Nat) (a0 : List (Int)) : evF (slices_Clip_int_int.E N) Try.f39 [.v (.slice (.int .i64))] [.v (.slice (.int .i64))] (a0) = slices_Clip_int_int N a0 := by kernel_rfl
theorem slices_Clip_int_int.env (N : Nat) : EnvOk Try.prog (slices_Clip_int_int.E N) := mkE_ok tabok trivial (by kernel_rfl)
theorem slices_Clip_int_int.sum (N : Nat) : SumOk Try.prog 39 (slices_Clip_int_int.S N) := sum_mk (slices_Clip_int_int.env N) (slices_Clip_int_int.S N) Try.func39 (by kernel_rfl) (fun x => slices_Clip_int_int.ok N x)

noncomputable def share_Order.S (N : Nat) : Summ := { args := [.v (.slice (.int .i64))], res := [.v (.slice (.int .i64))], quiet := false, run := fun x => share_Order N x }
noncomputable def share_Order.c_l6 : List (Nat × CM) := [(0, .v (.slice (.int .i64))), (3, .own (.int .i64)), (4, .v (.int .i64)), (5, .v (.int .i64)), (10, .v (.int .i64)), (11, .v (.int .i64))]
noncomputable def share_Order.c_l3 : List (Nat × CM) := [(0, .v (.slice (.int .i64))), (3, .own (.int .i64)), (10, .v (.int .i64)), (11, .v (.int .i64))]
noncomputable def share_Order.E (N : Nat) : Env := mkE 43 tab [(38, [ins_38.S N]), (39, [slices_Clip_int_int.S N])] [(6, share_Order.c_l6), (3, share_Order.c_l3)] [] [] N
abbrev share_Order.R := Option ((List (Int)))
noncomputable def share_Order.s_l6 (x0 : List (Int)) (x3 : List (Int)) (x4 : Int) (x5 : Int) (x10 : Int) (x11 : Int) : St := (((((((S0.put 0 (.val (.slice (.int .i64)) x0)).put 3 (.ref 62)).putH 62 (some (.own (.int .i64) x3))).put 4 (.val (.int .i64) x4)).put 5 (.val (.int .i64) x5)).put 10 (.val (.int .i64) x10)).put 11 (.val (.int .i64) x11))
noncomputable def share_Order.s_l3 (x0 : List (Int)) (x3 : List (Int)) (x10 : Int) (x11 : Int) : St := (((((S0.put 0 (.val (.slice (.int .i64)) x0)).put 3 (.ref 62)).putH 62 (some (.own (.int .i64) x3))).put 10 (.val (.int .i64) x10)).put 11 (.val (.int .i64) x11))
noncomputable def share_Order.e_l6 (N : Nat) (κ_l3 : St → share_Order.R) (n : Nat) : St → share_Order.R := lpF (share_Order.E N) Try.f16 [.v (.slice (.int .i64))] [.v (.slice (.int .i64))] share_Order.c_l6 [1, 1, 0, 1, 0, 0, 1, 1, 0, 0, 1, 1, 0, 0, 0] [fun σ => cutK (some share_Order.c_l3) σ κ_l3] n
noncomputable def share_Order.e_l3 (N : Nat) (n : Nat) : St → share_Order.R := lpF (share_Order.E N) Try.f16 [.v (.slice (.int .i64))] [.v (.slice (.int .i64))] share_Order.c_l3 [1, 1, 0, 1, 0, 0] [] n
theorem share_Order.h_l6 (N : Nat) (κJ κL : Nat → St → share_Order.R) (κ_l3 : St → share_Order.R) (κ_l6 : St → share_Order.R) (x0 : List (Int)) (x3 : List (Int)) (x4 : Int) (x5 : Int) (x10 : Int) (x11 : Int) : atQ (share_Order.E N) Try.f16 [.v (.slice (.int .i64))] [.v (.slice (.int .i64))] κJ κL [1, 1, 0, 1, 0, 0, 1, 1, 0, 0, 1, 1, 0, 0, 0] [fun σ => cutK (some share_Order.c_l3) σ κ_l3, fun σ => cutK (some share_Order.c_l6) σ κ_l6] (share_Order.s_l6 x0 x3 x4 x5 x10 x11) = share_Order.l6b N (fun x0 x3 x10 x11 => κ_l3 (share_Order.s_l3 x0 x3 x10 x11)) (fun x0 x3 x4 x5 x10 x11 => κ_l6 (share_Order.s_l6 x0 x3 x4 x5 x10 x11)) x0 x3 x4 x5 x10 x11 := by kernel_rfl
theorem share_Order.r_l6 (N : Nat) (κJ κL : Nat → St → share_Order.R) (κ_l3 : St → share_Order.R) (κ_l6 : St → share_Order.R) : selT (share_Order.E N) κJ κL (tlsF (share_Order.E N) Try.f16 [.v (.slice (.int .i64))] [.v (.slice (.int .i64))] [1, 1, 0, 1, 0, 0, 1, 1, 0, 0, 1, 1, 0, 0, 0] [fun σ => cutK (some share_Order.c_l3) σ κ_l3, fun σ => cutK (some share_Order.c_l6) σ κ_l6]) = [] := by kernel_rfl
theorem share_Order.l6_ok (N : Nat) (κ_l3 : St → share_Order.R) (n : Nat) : ∀ (x0 : List (Int)) (x3 : List (Int)) (x4 : Int) (x5 : Int) (x10 : Int) (x11 : Int), share_Order.e_l6 N κ_l3 n (share_Order.s_l6 x0 x3 x4 x5 x10 x11) = share_Order.l6 N (fun x0 x3 x10 x11 => κ_l3 (share_Order.s_l3 x0 x3 x10 x11)) n x0 x3 x4 x5 x10 x11 := by
  induction n with
  | zero => intros; rfl
  | succ n ih =>
    intro x0 x3 x4 x5 x10 x11
    have hr := share_Order.r_l6 N nox nox κ_l3 (share_Order.e_l6 N κ_l3 n)
    have h := (at_eq (share_Order.E N) Try.f16 [.v (.slice (.int .i64))] [.v (.slice (.int .i64))] hr trivial (share_Order.s_l6 x0 x3 x4 x5 x10 x11)).trans (share_Order.h_l6 N nox nox κ_l3 (share_Order.e_l6 N κ_l3 n) x0 x3 x4 x5 x10 x11)
    have e_me : (fun x0 x3 x4 x5 x10 x11 => (share_Order.e_l6 N κ_l3 n) (share_Order.s_l6 x0 x3 x4 x5 x10 x11)) = share_Order.l6 N (fun x0 x3 x10 x11 => κ_l3 (share_Order.s_l3 x0 x3 x10 x11)) n := funext fun x0 => funext fun x3 => funext fun x4 => funext fun x5 => funext fun x10 => funext fun x11 => ih x0 x3 x4 x5 x10 x11
    rw [e_me] at h; exact h
theorem share_Order.h_l3 (N : Nat) (κJ κL : Nat → St → share_Order.R) (κ_l3 : St → share_Order.R) (x0 : List (Int)) (x3 : List (Int)) (x10 : Int) (x11 : Int) : atQ (share_Order.E N) Try.f16 [.v (.slice (.int .i64))] [.v (.slice (.int .i64))] κJ κL [1, 1, 0, 1, 0, 0] [fun σ => cutK (some share_Order.c_l3) σ κ_l3] (share_Order.s_l3 x0 x3 x10 x11) = share_Order.l3b N (fun x0 x3 x4 x5 x10 x11 => κL 6 (share_Order.s_l6 x0 x3 x4 x5 x10 x11)) (fun x0 x3 x10 x11 => κ_l3 (share_Order.s_l3 x0 x3 x10 x11)) x0 x3 x10 x11 := by kernel_rfl
theorem share_Order.r_l3 (N : Nat) (κJ κL : Nat → St → share_Order.R) (κ_l3 : St → share_Order.R) : selT (share_Order.E N) κJ κL (tlsF (share_Order.E N) Try.f16 [.v (.slice (.int .i64))] [.v (.slice (.int .i64))] [1, 1, 0, 1, 0, 0] [fun σ => cutK (some share_Order.c_l3) σ κ_l3]) = [(κL 6, share_Order.e_l6 N κ_l3 N)] := by kernel_rfl
theorem share_Order.l3_ok (N : Nat) (n : Nat) : ∀ (x0 : List (Int)) (x3 : List (Int)) (x10 : Int) (x11 : Int), share_Order.e_l3 N n (share_Order.s_l3 x0 x3 x10 x11) = share_Order.l3 N n x0 x3 x10 x11 := by
  induction n with
  | zero => intros; rfl
  | succ n ih =>
    intro x0 x3 x10 x11
    obtain ⟨κL, q_l6, _⟩ := tabs' nox0 [(6, share_Order.e_l6 N (share_Order.e_l3 N n) N)] (rfl : _ = [6]) (by decide)
    have hr := share_Order.r_l3 N nox κL (share_Order.e_l3 N n)
    have h := (at_eq (share_Order.E N) Try.f16 [.v (.slice (.int .i64))] [.v (.slice (.int .i64))] hr ⟨q_l6, trivial⟩ (share_Order.s_l3 x0 x3 x10 x11)).trans (share_Order.h_l3 N nox κL (share_Order.e_l3 N n) x0 x3 x10 x11)
    have e_l6 : (fun x0 x3 x4 x5 x10 x11 => share_Order.e_l6 N (share_Order.e_l3 N n) N (share_Order.s_l6 x0 x3 x4 x5 x10 x11)) = share_Order.l6 N (fun x0 x3 x10 x11 => (share_Order.e_l3 N n) (share_Order.s_l3 x0 x3 x10 x11)) N := funext fun x0 => funext fun x3 => funext fun x4 => funext fun x5 => funext fun x10 => funext fun x11 => share_Order.l6_ok N (share_Order.e_l3 N n) N x0 x3 x4 x5 x10 x11
    have e_me : (fun x0 x3 x10 x11 => (share_Order.e_l3 N n) (share_Order.s_l3 x0 x3 x10 x11)) = share_Order.l3 N n := funext fun x0 => funext fun x3 => funext fun x10 => funext fun x11 => ih x0 x3 x10 x11
    rw [q_l6, e_l6, e_me] at h; exact h
theorem share_Order.h_top (N : Nat) (κJ κL : Nat → St → share_Order.R) (a0 : List (Int)) : atQ (share_Order.E N) Try.f16 [.v (.slice (.int .i64))] [.v (.slice (.int .i64))] κJ κL [] [] (entry ([.v (.slice (.int .i64))] : List AM) (a0) 0 S0) = share_Order.b N (fun x0 x3 x10 x11 => κL 3 (share_Order.s_l3 x0 x3 x10 x11)) a0 := by kernel_rfl
theorem share_Order.r_top (N : Nat) (κJ κL : Nat → St → share_Order.R) : selT (share_Order.E N) κJ κL (tlsF (share_Order.E N) Try.f16 [.v (.slice (.int .i64))] [.v (.slice (.int .i64))] [] []) = [(κL 3, share_Order.e_l3 N N)] := by kernel_rfl
theorem share_Order.ok (N : Nat) (a0 : List (Int)) : evF (share_Order.E N) Try.f16 [.v (.slice (.int .i64))] [.v (.slice (.int .i64))] (a0) = share_Order N a0 := by
  obtain ⟨κL, q_l3, _⟩ := tabs' nox0 [(3, share_Order.e_l3 N N)] (rfl : _ = [3]) (by decide)
  have hr := share_Order.r_top N nox κL
  have h := (at_eq (share_Order.E N) Try.f16 [.v (.slice (.int .i64))] [.v (.slice (.int .i64))] hr ⟨q_l3, trivial⟩ (entry ([.v (.slice (.int .i64))] : List AM) (a0) 0 S0)).trans (share_Order.h_top N nox κL a0)
  have e_l3 : (fun x0 x3 x10 x11 => share_Order.e_l3 N N (share_Order.s_l3 x0 x3 x10 x11)) = share_Order.l3 N N := funext fun x0 => funext fun x3 => funext fun x10 => funext fun x11 => share_Order.l3_ok N N x0 x3 x10 x11
  rw [q_l3, e_l3] at h; exact (evF_at (by kernel_rfl) _).trans h
theorem share_Order.env (N : Nat) : EnvOk Try.prog (share_Order.E N) := mkE_ok tabok ⟨⟨ins_38.sum N, trivial⟩, ⟨⟨slices_Clip_int_int.sum N, trivial⟩, trivial⟩⟩ (by kernel_rfl)
theorem share_Order.sum (N : Nat) : SumOk Try.prog 16 (share_Order.S N) := sum_mk (share_Order.env N) (share_Order.S N) Try.func16 (by kernel_rfl) (fun x => share_Order.ok N x)

noncomputable def share_Split.S (N : Nat) : Summ := { args := [.v (.int .i64), .v (.slice (.int .i64))], res := [.own (.int .i64), .v (.int .i64)], quiet := false, run := fun x => share_Split N x.1 x.2 }
noncomputable def share_Split.c_l21 : List (Nat × CM) := [(8, .own (.int .i64)), (88, .v (.slice (.int .i64))), (89, .v (.int .i64)), (90, .v (.int .i64))]
noncomputable def share_Split.c_l13 : List (Nat × CM) := [(0, .v (.int .i64)), (6, .v (.int .i64)), (8, .own (.int .i64)), (9, .own (.int .i64)), (10, .v (.int .i64)), (50, .v (.slice (.int .i64))), (51, .v (.int .i64)), (52, .v (.int .i64))]
noncomputable def share_Split.c_j8 : List (Nat × CM) := [(0, .v (.int .i64)), (1, .v (.slice (.int .i64))), (6, .v (.int .i64))]
noncomputable def share_Split.E (N : Nat) : Env := mkE 102 tab [(29, [share_may.S N]), (30, [amount_Sum.S N]), (32, [wide_Mul.S N]), (31, [wide_Div.S N]), (33, [wide_Int.S N]), (16, [share_Order.S N])] [(21, share_Split.c_l21), (13, share_Split.c_l13)] [(8, share_Split.c_j8)] [] N
abbrev share_Split.R := Option ((List (Int)) × (Int))
noncomputable def share_Split.s_l21 (x8 : List (Int)) (x88 : List (Int)) (x89 : Int) (x90 : Int) : St := (((((S0.put 8 (.ref 142)).putH 142 (some (.own (.int .i64) x8))).put 88 (.val (.slice (.int .i64)) x88)).put 89 (.val (.int .i64) x89)).put 90 (.val (.int .i64) x90))
noncomputable def share_Split.s_l13 (x0 : Int) (x6 : Int) (x8 : List (Int)) (x9 : List (Int)) (x10 : Int) (x50 : List (Int)) (x51 : Int) (x52 : Int) : St := ((((((((((S0.put 0 (.val (.int .i64) x0)).put 6 (.val (.int .i64) x6)).put 8 (.ref 142)).putH 142 (some (.own (.int .i64) x8))).put 9 (.ref 158)).putH 158 (some (.own (.int .i64) x9))).put 10 (.val (.int .i64) x10)).put 50 (.val (.slice (.int .i64)) x50)).put 51 (.val (.int .i64) x51)).put 52 (.val (.int .i64) x52))
noncomputable def share_Split.s_j8 (x0 : Int) (x1 : List (Int)) (x6 : Int) : St := (((S0.put 0 (.val (.int .i64) x0)).put 1 (.val (.slice (.int .i64)) x1)).put 6 (.val (.int .i64) x6))
noncomputable def share_Split.e_l21 (N : Nat) (n : Nat) : St → share_Split.R := lpF (share_Split.E N) Try.f10 [.v (.int .i64), .v (.slice (.int .i64))] [.own (.int .i64), .v (.int .i64)] share_Split.c_l21 [1, 1, 1, 1, 1, 1, 1, 1, 0, 1, 0, 0] [] n
noncomputable def share_Split.e_l13 (N : Nat) (n : Nat) : St → share_Split.R := lpF (share_Split.E N) Try.f10 [.v (.int .i64), .v (.slice (.int .i64))] [.own (.int .i64), .v (.int .i64)] share_Split.c_l13 [1, 1, 1, 1, 1, 1, 1, 0, 1, 0, 0] [] n
noncomputable def share_Split.e_j8 (N : Nat) : St → share_Split.R := atF (share_Split.E N) Try.f10 [.v (.int .i64), .v (.slice (.int .i64))] [.own (.int .i64), .v (.int .i64)] [1, 1, 1, 1] []
theorem share_Split.h_l21 (N : Nat) (κJ κL : Nat → St → share_Split.R) (κ_l21 : St → share_Split.R) (x8 : List (Int)) (x88 : List (Int)) (x89 : Int) (x90 : Int) : atQ (share_Split.E N) Try.f10 [.v (.int .i64), .v (.slice (.int .i64))] [.own (.int .i64), .v (.int .i64)] κJ κL [1, 1, 1, 1, 1, 1, 1, 1, 0, 1, 0, 0] [fun σ => cutK (some share_Split.c_l21) σ κ_l21] (share_Split.s_l21 x8 x88 x89 x90) = share_Split.l21b N (fun x8 x88 x89 x90 => κ_l21 (share_Split.s_l21 x8 x88 x89 x90)) x8 x88 x89 x90 := by kernel_rfl
theorem share_Split.r_l21 (N : Nat) (κJ κL : Nat → St → share_Split.R) (κ_l21 : St → share_Split.R) : selT (share_Split.E N) κJ κL (tlsF (share_Split.E N) Try.f10 [.v (.int .i64), .v (.slice (.int .i64))] [.own (.int .i64), .v (.int .i64)] [1, 1, 1, 1, 1, 1, 1, 1, 0, 1, 0, 0] [fun σ => cutK (some share_Split.c_l21) σ κ_l21]) = [] := by kernel_rfl
theorem share_Split.l21_ok (N : Nat) (n : Nat) : ∀ (x8 : List (Int)) (x88 : List (Int)) (x89 : Int) (x90 : Int), share_Split.e_l21 N n (share_Split.s_l21 x8 x88 x89 x90) = share_Split.l21 N n x8 x88 x89 x90 := by
  induction n with
  | zero => intros; rfl
  | succ n ih =>
    intro x8 x88 x89 x90
    have hr := share_Split.r_l21 N nox nox (share_Split.e_l21 N n)
    have h := (at_eq (share_Split.E N) Try.f10 [.v (.int .i64), .v (.slice (.int .i64))] [.own (.int .i64), .v (.int .i64)] hr trivial (share_Split.s_l21 x8 x88 x89 x90)).trans (share_Split.h_l21 N nox nox (share_Split.e_l21 N n) x8 x88 x89 x90)
    have e_me : (fun x8 x88 x89 x90 => (share_Split.e_l21 N n) (share_Split.s_l21 x8 x88 x89 x90)) = share_Split.l21 N n := funext fun x8 => funext fun x88 => funext fun x89 => funext fun x90 => ih x8 x88 x89 x90
    rw [e_me] at h; exact h
theorem share_Split.h_l13 (N : Nat) (κJ κL : Nat → St → share_Split.R) (κ_l13 : St → share_Split.R) (x0 : Int) (x6 : Int) (x8 : List (Int)) (x9 : List (Int)) (x10 : Int) (x50 : List (Int)) (x51 : Int) (x52 : Int) : atQ (share_Split.E N) Try.f10 [.v (.int .i64), .v (.slice (.int .i64))] [.own (.int .i64), .v (.int .i64)] κJ κL [1, 1, 1, 1, 1, 1, 1, 0, 1, 0, 0] [fun σ => cutK (some share_Split.c_l13) σ κ_l13] (share_Split.s_l13 x0 x6 x8 x9 x10 x50 x51 x52) = share_Split.l13b N (fun x8 x88 x89 x90 => κL 21 (share_Split.s_l21 x8 x88 x89 x90)) (fun x0 x6 x8 x9 x10 x50 x51 x52 => κ_l13 (share_Split.s_l13 x0 x6 x8 x9 x10 x50 x51 x52)) x0 x6 x8 x9 x10 x50 x51 x52 := by kernel_rfl
theorem share_Split.r_l13 (N : Nat) (κJ κL : Nat → St → share_Split.R) (κ_l13 : St → share_Split.R) : selT (share_Split.E N) κJ κL (tlsF (share_Split.E N) Try.f10 [.v (.int .i64), .v (.slice (.int .i64))] [.own (.int .i64), .v (.int .i64)] [1, 1, 1, 1, 1, 1, 1, 0, 1, 0, 0] [fun σ => cutK (some share_Split.c_l13) σ κ_l13]) = [(κL 21, share_Split.e_l21 N N)] := by kernel_rfl
theorem share_Split.l13_ok (N : Nat) (n : Nat) : ∀ (x0 : Int) (x6 : Int) (x8 : List (Int)) (x9 : List (Int)) (x10 : Int) (x50 : List (Int)) (x51 : Int) (x52 : Int), share_Split.e_l13 N n (share_Split.s_l13 x0 x6 x8 x9 x10 x50 x51 x52) = share_Split.l13 N n x0 x6 x8 x9 x10 x50 x51 x52 := by
  induction n with
  | zero => intros; rfl
  | succ n ih =>
    intro x0 x6 x8 x9 x10 x50 x51 x52
    obtain ⟨κL, q_l21, _⟩ := tabs' nox0 [(21, share_Split.e_l21 N N)] (rfl : _ = [21]) (by decide)
    have hr := share_Split.r_l13 N nox κL (share_Split.e_l13 N n)
    have h := (at_eq (share_Split.E N) Try.f10 [.v (.int .i64), .v (.slice (.int .i64))] [.own (.int .i64), .v (.int .i64)] hr ⟨q_l21, trivial⟩ (share_Split.s_l13 x0 x6 x8 x9 x10 x50 x51 x52)).trans (share_Split.h_l13 N nox κL (share_Split.e_l13 N n) x0 x6 x8 x9 x10 x50 x51 x52)
    have e_l21 : (fun x8 x88 x89 x90 => share_Split.e_l21 N N (share_Split.s_l21 x8 x88 x89 x90)) = share_Split.l21 N N := funext fun x8 => funext fun x88 => funext fun x89 => funext fun x90 => share_Split.l21_ok N N x8 x88 x89 x90
    have e_me : (fun x0 x6 x8 x9 x10 x50 x51 x52 => (share_Split.e_l13 N n) (share_Split.s_l13 x0 x6 x8 x9 x10 x50 x51 x52)) = share_Split.l13 N n := funext fun x0 => funext fun x6 => funext fun x8 => funext fun x9 => funext fun x10 => funext fun x50 => funext fun x51 => funext fun x52 => ih x0 x6 x8 x9 x10 x50 x51 x52
    rw [q_l21, e_l21, e_me] at h; exact h
theorem share_Split.h_j8 (N : Nat) (κJ κL : Nat → St → share_Split.R) (x0 : Int) (x1 : List (Int)) (x6 : Int) : atQ (share_Split.E N) Try.f10 [.v (.int .i64), .v (.slice (.int .i64))] [.own (.int .i64), .v (.int .i64)] κJ κL [1, 1, 1, 1] [] (share_Split.s_j8 x0 x1 x6) = share_Split.j8b N (fun x0 x6 x8 x9 x10 x50 x51 x52 => κL 13 (share_Split.s_l13 x0 x6 x8 x9 x10 x50 x51 x52)) x0 x1 x6 := by kernel_rfl
theorem share_Split.r_j8 (N : Nat) (κJ κL : Nat → St → share_Split.R) : selT (share_Split.E N) κJ κL (tlsF (share_Split.E N) Try.f10 [.v (.int .i64), .v (.slice (.int .i64))] [.own (.int .i64), .v (.int .i64)] [1, 1, 1, 1] []) = [(κL 13, share_Split.e_l13 N N), (κL 21, share_Split.e_l21 N N)] := by kernel_rfl
theorem share_Split.j8_ok (N : Nat) (x0 : Int) (x1 : List (Int)) (x6 : Int) : share_Split.e_j8 N (share_Split.s_j8 x0 x1 x6) = share_Split.j8 N x0 x1 x6 := by
  obtain ⟨κL, q_l13, q_l21, _⟩ := tabs' nox0 [(13, share_Split.e_l13 N N), (21, share_Split.e_l21 N N)] (rfl : _ = [13, 21]) (by decide)
  have hr := share_Split.r_j8 N nox κL
  have h := (at_eq (share_Split.E N) Try.f10 [.v (.int .i64), .v (.slice (.int .i64))] [.own (.int .i64), .v (.int .i64)] hr ⟨q_l13, q_l21, trivial⟩ (share_Split.s_j8 x0 x1 x6)).trans (share_Split.h_j8 N nox κL x0 x1 x6)
  have e_l13 : (fun x0 x6 x8 x9 x10 x50 x51 x52 => share_Split.e_l13 N N (share_Split.s_l13 x0 x6 x8 x9 x10 x50 x51 x52)) = share_Split.l13 N N := funext fun x0 => funext fun x6 => funext fun x8 => funext fun x9 => funext fun x10 => funext fun x50 => funext fun x51 => funext fun x52 => share_Split.l13_ok N N x0 x6 x8 x9 x10 x50 x51 x52
  rw [q_l13, e_l13] at h; exact h
theorem share_Split.h_top (N : Nat) (κJ κL : Nat → St → share_Split.R) (a0 : Int) (a1 : List (Int)) : atQ (share_Split.E N) Try.f10 [.v (.int .i64), .v (.slice (.int .i64))] [.own (.int .i64), .v (.int .i64)] κJ κL [] [] (entry ([.v (.int .i64), .v (.slice (.int .i64))] : List AM) (a0, a1) 0 S0) = share_Split.b N (fun x0 x1 x6 => κJ 8 (share_Split.s_j8 x0 x1 x6)) a0 a1 := by kernel_rfl
theorem share_Split.r_top (N : Nat) (κJ κL : Nat → St → share_Split.R) : selT (share_Split.E N) κJ κL (tlsF (share_Split.E N) Try.f10 [.v (.int .i64), .v (.slice (.int .i64))] [.own (.int .i64), .v (.int .i64)] [] []) = [(κJ 8, share_Split.e_j8 N), (κL 13, share_Split.e_l13 N N), (κL 21, share_Split.e_l21 N N)] := by kernel_rfl
theorem share_Split.ok (N : Nat) (a0 : Int) (a1 : List (Int)) : evF (share_Split.E N) Try.f10 [.v (.int .i64), .v (.slice (.int .i64))] [.own (.int .i64), .v (.int .i64)] (a0, a1) = share_Split N a0 a1 := by
  obtain ⟨κJ, q_j8, _⟩ := tabs' nox0 [(8, share_Split.e_j8 N)] (rfl : _ = [8]) (by decide)
  obtain ⟨κL, q_l13, q_l21, _⟩ := tabs' nox0 [(13, share_Split.e_l13 N N), (21, share_Split.e_l21 N N)] (rfl : _ = [13, 21]) (by decide)
  have hr := share_Split.r_top N κJ κL
  have h := (at_eq (share_Split.E N) Try.f10 [.v (.int .i64), .v (.slice (.int .i64))] [.own (.int .i64), .v (.int .i64)] hr ⟨q_j8, q_l13, q_l21, trivial⟩ (entry ([.v (.int .i64), .v (.slice (.int .i64))] : List AM) (a0, a1) 0 S0)).trans (share_Split.h_top N κJ κL a0 a1)
  have e_j8 : (fun x0 x1 x6 => share_Split.e_j8 N (share_Split.s_j8 x0 x1 x6)) = share_Split.j8 N := funext fun x0 => funext fun x1 => funext fun x6 => share_Split.j8_ok N x0 x1 x6
  rw [q_j8, e_j8] at h; exact (evF_at (by kernel_rfl) _).trans h
theorem share_Split.env (N : Nat) : EnvOk Try.prog (share_Split.E N) := mkE_ok tabok ⟨⟨share_may.sum N, trivial⟩, ⟨⟨amount_Sum.sum N, trivial⟩, ⟨⟨wide_Mul.sum N, trivial⟩, ⟨⟨wide_Div.sum N, trivial⟩, ⟨⟨wide_Int.sum N, trivial⟩, ⟨⟨share_Order.sum N, trivial⟩, trivial⟩⟩⟩⟩⟩⟩ (by kernel_rfl)
theorem share_Split.sum (N : Nat) : SumOk Try.prog 10 (share_Split.S N) := sum_mk (share_Split.env N) (share_Split.S N) Try.func10 (by kernel_rfl) (fun x => share_Split.ok N x.1 x.2)

noncomputable def share_Even.S (N : Nat) : Summ := { args := [.v (.int .i64), .v (.int .i64)], res := [.own (.int .i64), .v (.int .i64)], quiet := false, run := fun x => share_Even N x.1 x.2 }
noncomputable def share_Even.E (N : Nat) : Env := mkE 23 tab [(37, [rep_37.S N]), (10, [share_Split.S N])] [] [] [] N
theorem share_Even.ok (N : Nat) (a0 : Int) (a1 : Int) : evF (share_Even.E N) Try.f12 [.v (.int .i64), .v (.int .i64)] [.own (.int .i64), .v (.int .i64)] (a0, a1) = share_Even N a0 a1 := by kernel_rfl
theorem share_Even.env (N : Nat) : EnvOk Try.prog (share_Even.E N) := mkE_ok tabok ⟨⟨rep_37.sum N, trivial⟩, ⟨⟨share_Split.sum N, trivial⟩, trivial⟩⟩ (by kernel_rfl)
theorem share_Even.sum (N : Nat) : SumOk Try.prog 12 (share_Even.S N) := sum_mk (share_Even.env N) (share_Even.S N) Try.func12 (by kernel_rfl) (fun x => share_Even.ok N x.1 x.2)

noncomputable def share_Capped.S (N : Nat) : Summ := { args := [.v (.int .i64), .v (.slice (.int .i64)), .v (.slice (.int .i64))], res := [.own (.int .i64), .v (.int .i64), .v (.int .i64)], quiet := false, run := fun x => share_Capped N x.1 x.2.1 x.2.2 }
noncomputable def share_Capped.c_l18 : List (Nat × CM) := [(1, .v (.slice (.int .i64))), (2, .v (.slice (.int .i64))), (11, .own (.int .i64)), (12, .v (.int .i64)), (84, .own (.int .i64)), (85, .v (.int .i64)), (86, .v (.int .i64))]
noncomputable def share_Capped.c_l10 : List (Nat × CM) := [(1, .v (.slice (.int .i64))), (2, .v (.slice (.int .i64))), (11, .own (.int .i64)), (12, .v (.int .i64)), (13, .own (.int .i64)), (55, .v (.int .i64)), (56, .v (.int .i64))]
noncomputable def share_Capped.c_l7 : List (Nat × CM) := [(1, .v (.slice (.int .i64))), (2, .v (.slice (.int .i64))), (11, .own (.int .i64)), (12, .v (.int .i64))]
noncomputable def share_Capped.E (N : Nat) : Env := mkE 115 tab [(29, [share_may.S N]), (30, [amount_Sum.S N]), (10, [share_Split.S N])] [(18, share_Capped.c_l18), (10, share_Capped.c_l10), (7, share_Capped.c_l7)] [] [] N
abbrev share_Capped.R := Option ((List (Int)) × (Int) × (Int))
noncomputable def share_Capped.s_l18 (x1 : List (Int)) (x2 : List (Int)) (x11 : List (Int)) (x12 : Int) (x84 : List (Int)) (x85 : Int) (x86 : Int) : St := (((((((((S0.put 1 (.val (.slice (.int .i64)) x1)).put 2 (.val (.slice (.int .i64)) x2)).put 11 (.ref 190)).putH 190 (some (.own (.int .i64) x11))).put 12 (.val (.int .i64) x12)).put 84 (.ref 1358)).putH 1358 (some (.own (.int .i64) x84))).put 85 (.val (.int .i64) x85)).put 86 (.val (.int .i64) x86))
noncomputable def share_Capped.s_l10 (x1 : List (Int)) (x2 : List (Int)) (x11 : List (Int)) (x12 : Int) (x13 : List (Int)) (x55 : Int) (x56 : Int) : St := (((((((((S0.put 1 (.val (.slice (.int .i64)) x1)).put 2 (.val (.slice (.int .i64)) x2)).put 11 (.ref 190)).putH 190 (some (.own (.int .i64) x11))).put 12 (.val (.int .i64) x12)).put 13 (.ref 222)).putH 222 (some (.own (.int .i64) x13))).put 55 (.val (.int .i64) x55)).put 56 (.val (.int .i64) x56))
noncomputable def share_Capped.s_l7 (x1 : List (Int)) (x2 : List (Int)) (x11 : List (Int)) (x12 : Int) : St := (((((S0.put 1 (.val (.slice (.int .i64)) x1)).put 2 (.val (.slice (.int .i64)) x2)).put 11 (.ref 190)).putH 190 (some (.own (.int .i64) x11))).put 12 (.val (.int .i64) x12))
noncomputable def share_Capped.e_l18 (N : Nat) (κ_l7 : St → share_Capped.R) (n : Nat) : St → share_Capped.R := lpF (share_Capped.E N) Try.f18 [.v (.int .i64), .v (.slice (.int .i64)), .v (.slice (.int .i64))] [.own (.int .i64), .v (.int .i64), .v (.int .i64)] share_Capped.c_l18 [1, 0, 1, 1, 1, 1, 0, 0, 0, 1, 0, 1, 1, 1, 1, 1, 0, 0] [fun σ => cutK (some share_Capped.c_l7) σ κ_l7] n
noncomputable def share_Capped.e_l10 (N : Nat) (κ_l7 : St → share_Capped.R) (n : Nat) : St → share_Capped.R := lpF (share_Capped.E N) Try.f18 [.v (.int .i64), .v (.slice (.int .i64)), .v (.slice (.int .i64))] [.own (.int .i64), .v (.int .i64), .v (.int .i64)] share_Capped.c_l10 [1, 0, 1, 1, 1, 1, 0, 0, 0, 1, 0, 1, 0, 1, 0, 0] [fun σ => cutK (some share_Capped.c_l7) σ κ_l7] n
noncomputable def share_Capped.e_l7 (N : Nat) (n : Nat) : St → share_Capped.R := lpF (share_Capped.E N) Try.f18 [.v (.int .i64), .v (.slice (.int .i64)), .v (.slice (.int .i64))] [.own (.int .i64), .v (.int .i64), .v (.int .i64)] share_Capped.c_l7 [1, 0, 1, 1, 1, 1, 0, 0, 0] [] n
theorem share_Capped.h_l18 (N : Nat) (κJ κL : Nat → St → share_Capped.R) (κ_l7 : St → share_Capped.R) (κ_l18 : St → share_Capped.R) (x1 : List (Int)) (x2 : List (Int)) (x11 : List (Int)) (x12 : Int) (x84 : List (Int)) (x85 : Int) (x86 : Int) : atQ (share_Capped.E N) Try.f18 [.v (.int .i64), .v (.slice (.int .i64)), .v (.slice (.int .i64))] [.own (.int .i64), .v (.int .i64), .v (.int .i64)] κJ κL [1, 0, 1, 1, 1, 1, 0, 0, 0, 1, 0, 1, 1, 1, 1, 1, 0, 0] [fun σ => cutK (some share_Capped.c_l7) σ κ_l7, fun σ => cutK (some share_Capped.c_l18) σ κ_l18] (share_Capped.s_l18 x1 x2 x11 x12 x84 x85 x86) = share_Capped.l18b N (fun x1 x2 x11 x12 => κ_l7 (share_Capped.s_l7 x1 x2 x11 x12)) (fun x1 x2 x11 x12 x84 x85 x86 => κ_l18 (share_Capped.s_l18 x1 x2 x11 x12 x84 x85 x86)) x1 x2 x11 x12 x84 x85 x86 := by kernel_rfl
theorem share_Capped.r_l18 (N : Nat) (κJ κL : Nat → St → share_Capped.R) (κ_l7 : St → share_Capped.R) (κ_l18 : St → share_Capped.R) : selT (share_Capped.E N) κJ κL (tlsF (share_Capped.E N) Try.f18 [.v (.int .i64), .v (.slice (.int .i64)), .v (.slice (.int .i64))] [.own (.int .i64), .v (.int .i64), .v (.int .i64)] [1, 0, 1, 1, 1, 1, 0, 0, 0, 1, 0, 1, 1, 1, 1, 1, 0, 0] [fun σ => cutK (some share_Capped.c_l7) σ κ_l7, fun σ => cutK (some share_Capped.c_l18) σ κ_l18]) = [] := by kernel_rfl
theorem share_Capped.l18_ok (N : Nat) (κ_l7 : St → share_Capped.R) (n : Nat) : ∀ (x1 : List (Int)) (x2 : List (Int)) (x11 : List (Int)) (x12 : Int) (x84 : List (Int)) (x85 : Int) (x86 : Int), share_Capped.e_l18 N κ_l7 n (share_Capped.s_l18 x1 x2 x11 x12 x84 x85 x86) = share_Capped.l18 N (fun x1 x2 x11 x12 => κ_l7 (share_Capped.s_l7 x1 x2 x11 x12)) n x1 x2 x11 x12 x84 x85 x86 := by
  induction n with
  | zero => intros; rfl
  | succ n ih =>
    intro x1 x2 x11 x12 x84 x85 x86
    have hr := share_Capped.r_l18 N nox nox κ_l7 (share_Capped.e_l18 N κ_l7 n)
    have h := (at_eq (share_Capped.E N) Try.f18 [.v (.int .i64), .v (.slice (.int .i64)), .v (.slice (.int .i64))] [.own (.int .i64), .v (.int .i64), .v (.int .i64)] hr trivial (share_Capped.s_l18 x1 x2 x11 x12 x84 x85 x86)).trans (share_Capped.h_l18 N nox nox κ_l7 (share_Capped.e_l18 N κ_l7 n) x1 x2 x11 x12 x84 x85 x86)
    have e_me : (fun x1 x2 x11 x12 x84 x85 x86 => (share_Capped.e_l18 N κ_l7 n) (share_Capped.s_l18 x1 x2 x11 x12 x84 x85 x86)) = share_Capped.l18 N (fun x1 x2 x11 x12 => κ_l7 (share_Capped.s_l7 x1 x2 x11 x12)) n := funext fun x1 => funext fun x2 => funext fun x11 => funext fun x12 => funext fun x84 => funext fun x85 => funext fun x86 => ih x1 x2 x11 x12 x84 x85 x86
    rw [e_me] at h; exact h
theorem share_Capped.h_l10 (N : Nat) (κJ κL : Nat → St → share_Capped.R) (κ_l7 : St → share_Capped.R) (κ_l10 : St → share_Capped.R) (x1 : List (Int)) (x2 : List (Int)) (x11 : List (Int)) (x12 : Int) (x13 : List (Int)) (x55 : Int) (x56 : Int) : atQ (share_Capped.E N) Try.f18 [.v (.int .i64), .v (.slice (.int .i64)), .v (.slice (.int .i64))] [.own (.int .i64), .v (.int .i64), .v (.int .i64)] κJ κL [1, 0, 1, 1, 1, 1, 0, 0, 0, 1, 0, 1, 0, 1, 0, 0] [fun σ => cutK (some share_Capped.c_l7) σ κ_l7, fun σ => cutK (some share_Capped.c_l10) σ κ_l10] (share_Capped.s_l10 x1 x2 x11 x12 x13 x55 x56) = share_Capped.l10b N (fun x1 x2 x11 x12 x84 x85 x86 => κL 18 (share_Capped.s_l18 x1 x2 x11 x12 x84 x85 x86)) (fun x1 x2 x11 x12 => κ_l7 (share_Capped.s_l7 x1 x2 x11 x12)) (fun x1 x2 x11 x12 x13 x55 x56 => κ_l10 (share_Capped.s_l10 x1 x2 x11 x12 x13 x55 x56)) x1 x2 x11 x12 x13 x55 x56 := by kernel_rfl
theorem share_Capped.r_l10 (N : Nat) (κJ κL : Nat → St → share_Capped.R) (κ_l7 : St → share_Capped.R) (κ_l10 : St → share_Capped.R) : selT (share_Capped.E N) κJ κL (tlsF (share_Capped.E N) Try.f18 [.v (.int .i64), .v (.slice (.int .i64)), .v (.slice (.int .i64))] [.own (.int .i64), .v (.int .i64), .v (.int .i64)] [1, 0, 1, 1, 1, 1, 0, 0, 0, 1, 0, 1, 0, 1, 0, 0] [fun σ => cutK (some share_Capped.c_l7) σ κ_l7, fun σ => cutK (some share_Capped.c_l10) σ κ_l10]) = [(κL 18, share_Capped.e_l18 N κ_l7 N)] := by kernel_rfl
theorem share_Capped.l10_ok (N : Nat) (κ_l7 : St → share_Capped.R) (n : Nat) : ∀ (x1 : List (Int)) (x2 : List (Int)) (x11 : List (Int)) (x12 : Int) (x13 : List (Int)) (x55 : Int) (x56 : Int), share_Capped.e_l10 N κ_l7 n (share_Capped.s_l10 x1 x2 x11 x12 x13 x55 x56) = share_Capped.l10 N (fun x1 x2 x11 x12 => κ_l7 (share_Capped.s_l7 x1 x2 x11 x12)) n x1 x2 x11 x12 x13 x55 x56 := by
  induction n with
  | zero => intros; rfl
  | succ n ih =>
    intro x1 x2 x11 x12 x13 x55 x56
    obtain ⟨κL, q_l18, _⟩ := tabs' nox0 [(18, share_Capped.e_l18 N κ_l7 N)] (rfl : _ = [18]) (by decide)
    have hr := share_Capped.r_l10 N nox κL κ_l7 (share_Capped.e_l10 N κ_l7 n)
    have h := (at_eq (share_Capped.E N) Try.f18 [.v (.int .i64), .v (.slice (.int .i64)), .v (.slice (.int .i64))] [.own (.int .i64), .v (.int .i64), .v (.int .i64)] hr ⟨q_l18, trivial⟩ (share_Capped.s_l10 x1 x2 x11 x12 x13 x55 x56)).trans (share_Capped.h_l10 N nox κL κ_l7 (share_Capped.e_l10 N κ_l7 n) x1 x2 x11 x12 x13 x55 x56)
    have e_l18 : (fun x1 x2 x11 x12 x84 x85 x86 => share_Capped.e_l18 N κ_l7 N (share_Capped.s_l18 x1 x2 x11 x12 x84 x85 x86)) = share_Capped.l18 N (fun x1 x2 x11 x12 => κ_l7 (share_Capped.s_l7 x1 x2 x11 x12)) N := funext fun x1 => funext fun x2 => funext fun x11 => funext fun x12 => funext fun x84 => funext fun x85 => funext fun x86 => share_Capped.l18_ok N κ_l7 N x1 x2 x11 x12 x84 x85 x86
    have e_me : (fun x1 x2 x11 x12 x13 x55 x56 => (share_Capped.e_l10 N κ_l7 n) (share_Capped.s_l10 x1 x2 x11 x12 x13 x55 x56)) = share_Capped.l10 N (fun x1 x2 x11 x12 => κ_l7 (share_Capped.s_l7 x1 x2 x11 x12)) n := funext fun x1 => funext fun x2 => funext fun x11 => funext fun x12 => funext fun x13 => funext fun x55 => funext fun x56 => ih x1 x2 x11 x12 x13 x55 x56
    rw [q_l18, e_l18, e_me] at h; exact h
theorem share_Capped.h_l7 (N : Nat) (κJ κL : Nat → St → share_Capped.R) (κ_l7 : St → share_Capped.R) (x1 : List (Int)) (x2 : List (Int)) (x11 : List (Int)) (x12 : Int) : atQ (share_Capped.E N) Try.f18 [.v (.int .i64), .v (.slice (.int .i64)), .v (.slice (.int .i64))] [.own (.int .i64), .v (.int .i64), .v (.int .i64)] κJ κL [1, 0, 1, 1, 1, 1, 0, 0, 0] [fun σ => cutK (some share_Capped.c_l7) σ κ_l7] (share_Capped.s_l7 x1 x2 x11 x12) = share_Capped.l7b N (fun x1 x2 x11 x12 x13 x55 x56 => κL 10 (share_Capped.s_l10 x1 x2 x11 x12 x13 x55 x56)) (fun x1 x2 x11 x12 => κ_l7 (share_Capped.s_l7 x1 x2 x11 x12)) x1 x2 x11 x12 := by kernel_rfl
theorem share_Capped.r_l7 (N : Nat) (κJ κL : Nat → St → share_Capped.R) (κ_l7 : St → share_Capped.R) : selT (share_Capped.E N) κJ κL (tlsF (share_Capped.E N) Try.f18 [.v (.int .i64), .v (.slice (.int .i64)), .v (.slice (.int .i64))] [.own (.int .i64), .v (.int .i64), .v (.int .i64)] [1, 0, 1, 1, 1, 1, 0, 0, 0] [fun σ => cutK (some share_Capped.c_l7) σ κ_l7]) = [(κL 10, share_Capped.e_l10 N κ_l7 N), (κL 18, share_Capped.e_l18 N κ_l7 N)] := by kernel_rfl
theorem share_Capped.l7_ok (N : Nat) (n : Nat) : ∀ (x1 : List (Int)) (x2 : List (Int)) (x11 : List (Int)) (x12 : Int), share_Capped.e_l7 N n (share_Capped.s_l7 x1 x2 x11 x12) = share_Capped.l7 N n x1 x2 x11 x12 := by
  induction n with
  | zero => intros; rfl
  | succ n ih =>
    intro x1 x2 x11 x12
    obtain ⟨κL, q_l10, q_l18, _⟩ := tabs' nox0 [(10, share_Capped.e_l10 N (share_Capped.e_l7 N n) N), (18, share_Capped.e_l18 N (share_Capped.e_l7 N n) N)] (rfl : _ = [10, 18]) (by decide)
    have hr := share_Capped.r_l7 N nox κL (share_Capped.e_l7 N n)
    have h := (at_eq (share_Capped.E N) Try.f18 [.v (.int .i64), .v (.slice (.int .i64)), .v (.slice (.int .i64))] [.own (.int .i64), .v (.int .i64), .v (.int .i64)] hr ⟨q_l10, q_l18, trivial⟩ (share_Capped.s_l7 x1 x2 x11 x12)).trans (share_Capped.h_l7 N nox κL (share_Capped.e_l7 N n) x1 x2 x11 x12)
    have e_l10 : (fun x1 x2 x11 x12 x13 x55 x56 => share_Capped.e_l10 N (share_Capped.e_l7 N n) N (share_Capped.s_l10 x1 x2 x11 x12 x13 x55 x56)) = share_Capped.l10 N (fun x1 x2 x11 x12 => (share_Capped.e_l7 N n) (share_Capped.s_l7 x1 x2 x11 x12)) N := funext fun x1 => funext fun x2 => funext fun x11 => funext fun x12 => funext fun x13 => funext fun x55 => funext fun x56 => share_Capped.l10_ok N (share_Capped.e_l7 N n) N x1 x2 x11 x12 x13 x55 x56
    have e_me : (fun x1 x2 x11 x12 => (share_Capped.e_l7 N n) (share_Capped.s_l7 x1 x2 x11 x12)) = share_Capped.l7 N n := funext fun x1 => funext fun x2 => funext fun x11 => funext fun x12 => ih x1 x2 x11 x12
    rw [q_l10, e_l10, e_me] at h; exact h
theorem share_Capped.h_top (N : Nat) (κJ κL : Nat → St → share_Capped.R) (a0 : Int) (a1 : List (Int)) (a2 : List (Int)) : atQ (share_Capped.E N) Try.f18 [.v (.int .i64), .v (.slice (.int .i64)), .v (.slice (.int .i64))] [.own (.int .i64), .v (.int .i64), .v (.int .i64)] κJ κL [] [] (entry ([.v (.int .i64), .v (.slice (.int .i64)), .v (.slice (.int .i64))] : List AM) (a0, a1, a2) 0 S0) = share_Capped.b N (fun x1 x2 x11 x12 => κL 7 (share_Capped.s_l7 x1 x2 x11 x12)) a0 a1 a2 := by kernel_rfl
theorem share_Capped.r_top (N : Nat) (κJ κL : Nat → St → share_Capped.R) : selT (share_Capped.E N) κJ κL (tlsF (share_Capped.E N) Try.f18 [.v (.int .i64), .v (.slice (.int .i64)), .v (.slice (.int .i64))] [.own (.int .i64), .v (.int .i64), .v (.int .i64)] [] []) = [(κL 7, share_Capped.e_l7 N N)] := by kernel_rfl
theorem share_Capped.ok (N : Nat) (a0 : Int) (a1 : List (Int)) (a2 : List (Int)) : evF (share_Capped.E N) Try.f18 [.v (.int .i64), .v (.slice (.int .i64)), .v (.slice (.int .i64))] [.own (.int .i64), .v (.int .i64), .v (.int .i64)] (a0, a1, a2) = share_Capped N a0 a1 a2 := by
  obtain ⟨κL, q_l7, _⟩ := tabs' nox0 [(7, share_Capped.e_l7 N N)] (rfl : _ = [7]) (by decide)
  have hr := share_Capped.r_top N nox κL
  have h := (at_eq (share_Capped.E N) Try.f18 [.v (.int .i64), .v (.slice (.int .i64)), .v (.slice (.int .i64))] [.own (.int .i64), .v (.int .i64), .v (.int .i64)] hr ⟨q_l7, trivial⟩ (entry ([.v (.int .i64), .v (.slice (.int .i64)), .v (.slice (.int .i64))] : List AM) (a0, a1, a2) 0 S0)).trans (share_Capped.h_top N nox κL a0 a1 a2)
  have e_l7 : (fun x1 x2 x11 x12 => share_Capped.e_l7 N N (share_Capped.s_l7 x1 x2 x11 x12)) = share_Capped.l7 N N := funext fun x1 => funext fun x2 => funext fun x11 => funext fun x12 => share_Capped.l7_ok N N x1 x2 x11 x12
  rw [q_l7, e_l7] at h; exact (evF_at (by kernel_rfl) _).trans h
theorem share_Capped.env (N : Nat) : EnvOk Try.prog (share_Capped.E N) := mkE_ok tabok ⟨⟨share_may.sum N, trivial⟩, ⟨⟨amount_Sum.sum N, trivial⟩, ⟨⟨share_Split.sum N, trivial⟩, trivial⟩⟩⟩ (by kernel_rfl)
theorem share_Capped.sum (N : Nat) : SumOk Try.prog 18 (share_Capped.S N) := sum_mk (share_Capped.env N) (share_Capped.S N) Try.func18 (by kernel_rfl) (fun x => share_Capped.ok N x.1 x.2.1 x.2.2)

noncomputable def novationhelp_Ints.S (N : Nat) : Summ := { args := [.v (.slice (.int .i64)), .v (.slice (.int .i64))], res := [.v .bool], quiet := true, run := fun x => novationhelp_Ints N x.1 x.2 }
noncomputable def novationhelp_Ints.c_l4 : List (Nat × CM) := [(0, .v (.slice (.int .i64))), (1, .v (.slice (.int .i64))), (5, .v (.int .i64))]
noncomputable def novationhelp_Ints.E (N : Nat) : Env := mkE 26 tab [] [(4, novationhelp_Ints.c_l4)] [] [] N
abbrev novationhelp_Ints.R := Option ((Bool))
noncomputable def novationhelp_Ints.s_l4 (x0 : List (Int)) (x1 : List (Int)) (x5 : Int) : St := (((S0.put 0 (.val (.slice (.int .i64)) x0)).put 1 (.val (.slice (.int .i64)) x1)).put 5 (.val (.int .i64) x5))
noncomputable def novationhelp_Ints.e_l4 (N : Nat) (n : Nat) : St → novationhelp_Ints.R := lpF (novationhelp_Ints.E N) Try.f14 [.v (.slice (.int .i64)), .v (.slice (.int .i64))] [.v .bool] novationhelp_Ints.c_l4 [1, 1, 0, 1, 0, 0] [] n
theorem novationhelp_Ints.h_l4 (N : Nat) (κJ κL : Nat → St → novationhelp_Ints.R) (κ_l4 : St → novationhelp_Ints.R) (x0 : List (Int)) (x1 : List (Int)) (x5 : Int) : atQ (novationhelp_Ints.E N) Try.f14 [.v (.slice (.int .i64)), .v (.slice (.int .i64))] [.v .bool] κJ κL [1, 1, 0, 1, 0, 0] [fun σ => cutK (some novationhelp_Ints.c_l4) σ κ_l4] (novationhelp_Ints.s_l4 x0 x1 x5) = novationhelp_Ints.l4b N (fun x0 x1 x5 => κ_l4 (novationhelp_Ints.s_l4 x0 x1 x5)) x0 x1 x5 := by kernel_rfl
theorem novationhelp_Ints.r_l4 (N : Nat) (κJ κL : Nat → St → novationhelp_Ints.R) (κ_l4 : St → novationhelp_Ints.R) : selT (novationhelp_Ints.E N) κJ κL (tlsF (novationhelp_Ints.E N) Try.f14 [.v (.slice (.int .i64)), .v (.slice (.int .i64))] [.v .bool] [1, 1, 0, 1, 0, 0] [fun σ => cutK (some novationhelp_Ints.c_l4) σ κ_l4]) = [] := by kernel_rfl
theorem novationhelp_Ints.l4_ok (N : Nat) (n : Nat) : ∀ (x0 : List (Int)) (x1 : List (Int)) (x5 : Int), novationhelp_Ints.e_l4 N n (novationhelp_Ints.s_l4 x0 x1 x5) = novationhelp_Ints.l4 N n x0 x1 x5 := by
  induction n with
  | zero => intros; rfl
  | succ n ih =>
    intro x0 x1 x5
    have hr := novationhelp_Ints.r_l4 N nox nox (novationhelp_Ints.e_l4 N n)
    have h := (at_eq (novationhelp_Ints.E N) Try.f14 [.v (.slice (.int .i64)), .v (.slice (.int .i64))] [.v .bool] hr trivial (novationhelp_Ints.s_l4 x0 x1 x5)).trans (novationhelp_Ints.h_l4 N nox nox (novationhelp_Ints.e_l4 N n) x0 x1 x5)
    have e_me : (fun x0 x1 x5 => (novationhelp_Ints.e_l4 N n) (novationhelp_Ints.s_l4 x0 x1 x5)) = novationhelp_Ints.l4 N n := funext fun x0 => funext fun x1 => funext fun x5 => ih x0 x1 x5
    rw [e_me] at h; exact h
theorem novationhelp_Ints.h_top (N : Nat) (κJ κL : Nat → St → novationhelp_Ints.R) (a0 : List (Int)) (a1 : List (Int)) : atQ (novationhelp_Ints.E N) Try.f14 [.v (.slice (.int .i64)), .v (.slice (.int .i64))] [.v .bool] κJ κL [] [] (entry ([.v (.slice (.int .i64)), .v (.slice (.int .i64))] : List AM) (a0, a1) 0 S0) = novationhelp_Ints.b N (fun x0 x1 x5 => κL 4 (novationhelp_Ints.s_l4 x0 x1 x5)) a0 a1 := by kernel_rfl
theorem novationhelp_Ints.r_top (N : Nat) (κJ κL : Nat → St → novationhelp_Ints.R) : selT (novationhelp_Ints.E N) κJ κL (tlsF (novationhelp_Ints.E N) Try.f14 [.v (.slice (.int .i64)), .v (.slice (.int .i64))] [.v .bool] [] []) = [(κL 4, novationhelp_Ints.e_l4 N N)] := by kernel_rfl
theorem novationhelp_Ints.ok (N : Nat) (a0 : List (Int)) (a1 : List (Int)) : evF (novationhelp_Ints.E N) Try.f14 [.v (.slice (.int .i64)), .v (.slice (.int .i64))] [.v .bool] (a0, a1) = novationhelp_Ints N a0 a1 := by
  obtain ⟨κL, q_l4, _⟩ := tabs' nox0 [(4, novationhelp_Ints.e_l4 N N)] (rfl : _ = [4]) (by decide)
  have hr := novationhelp_Ints.r_top N nox κL
  have h := (at_eq (novationhelp_Ints.E N) Try.f14 [.v (.slice (.int .i64)), .v (.slice (.int .i64))] [.v .bool] hr ⟨q_l4, trivial⟩ (entry ([.v (.slice (.int .i64)), .v (.slice (.int .i64))] : List AM) (a0, a1) 0 S0)).trans (novationhelp_Ints.h_top N nox κL a0 a1)
  have e_l4 : (fun x0 x1 x5 => novationhelp_Ints.e_l4 N N (novationhelp_Ints.s_l4 x0 x1 x5)) = novationhelp_Ints.l4 N N := funext fun x0 => funext fun x1 => funext fun x5 => novationhelp_Ints.l4_ok N N x0 x1 x5
  rw [q_l4, e_l4] at h; exact (evF_at (by kernel_rfl) _).trans h
theorem novationhelp_Ints.env (N : Nat) : EnvOk Try.prog (novationhelp_Ints.E N) := mkE_ok tabok trivial (by kernel_rfl)
theorem novationhelp_Ints.sum (N : Nat) : SumOk Try.prog 14 (novationhelp_Ints.S N) := sum_mk (novationhelp_Ints.env N) (novationhelp_Ints.S N) Try.func14 (by kernel_rfl) (fun x => novationhelp_Ints.ok N x.1 x.2)

noncomputable def novationhelp_Nums.S (N : Nat) : Summ := { args := [.v (.slice (.int .i64)), .v (.slice (.int .i64))], res := [.v .bool], quiet := true, run := fun x => novationhelp_Nums N x.1 x.2 }
noncomputable def novationhelp_Nums.c_l4 : List (Nat × CM) := [(0, .v (.slice (.int .i64))), (1, .v (.slice (.int .i64))), (5, .v (.int .i64))]
noncomputable def novationhelp_Nums.E (N : Nat) : Env := mkE 26 tab [] [(4, novationhelp_Nums.c_l4)] [] [] N
abbrev novationhelp_Nums.R := Option ((Bool))
noncomputable def novationhelp_Nums.s_l4 (x0 : List (Int)) (x1 : List (Int)) (x5 : Int) : St := (((S0.put 0 (.val (.slice (.int .i64)) x0)).put 1 (.val (.slice (.int .i64)) x1)).put 5 (.val (.int .i64) x5))
noncomputable def novationhelp_Nums.e_l4 (N : Nat) (n : Nat) : St → novationhelp_Nums.R := lpF (novationhelp_Nums.E N) Try.f15 [.v (.slice (.int .i64)), .v (.slice (.int .i64))] [.v .bool] novationhelp_Nums.c_l4 [1, 1, 0, 1, 0, 0] [] n
theorem novationhelp_Nums.h_l4 (N : Nat) (κJ κL : Nat → St → novationhelp_Nums.R) (κ_l4 : St → novationhelp_Nums.R) (x0 : List (Int)) (x1 : List (Int)) (x5 : Int) : atQ (novationhelp_Nums.E N) Try.f15 [.v (.slice (.int .i64)), .v (.slice (.int .i64))] [.v .bool] κJ κL [1, 1, 0, 1, 0, 0] [fun σ => cutK (some novationhelp_Nums.c_l4) σ κ_l4] (novationhelp_Nums.s_l4 x0 x1 x5) = novationhelp_Nums.l4b N (fun x0 x1 x5 => κ_l4 (novationhelp_Nums.s_l4 x0 x1 x5)) x0 x1 x5 := by kernel_rfl
theorem novationhelp_Nums.r_l4 (N : Nat) (κJ κL : Nat → St → novationhelp_Nums.R) (κ_l4 : St → novationhelp_Nums.R) : selT (novationhelp_Nums.E N) κJ κL (tlsF (novationhelp_Nums.E N) Try.f15 [.v (.slice (.int .i64)), .v (.slice (.int .i64))] [.v .bool] [1, 1, 0, 1, 0, 0] [fun σ => cutK (some novationhelp_Nums.c_l4) σ κ_l4]) = [] := by kernel_rfl
theorem novationhelp_Nums.l4_ok (N : Nat) (n : Nat) : ∀ (x0 : List (Int)) (x1 : List (Int)) (x5 : Int), novationhelp_Nums.e_l4 N n (novationhelp_Nums.s_l4 x0 x1 x5) = novationhelp_Nums.l4 N n x0 x1 x5 := by
  induction n with
  | zero => intros; rfl
  | succ n ih =>
    intro x0 x1 x5
    have hr := novationhelp_Nums.r_l4 N nox nox (novationhelp_Nums.e_l4 N n)
    have h := (at_eq (novationhelp_Nums.E N) Try.f15 [.v (.slice (.int .i64)), .v (.slice (.int .i64))] [.v .bool] hr trivial (novationhelp_Nums.s_l4 x0 x1 x5)).trans (novationhelp_Nums.h_l4 N nox nox (novationhelp_Nums.e_l4 N n) x0 x1 x5)
    have e_me : (fun x0 x1 x5 => (novationhelp_Nums.e_l4 N n) (novationhelp_Nums.s_l4 x0 x1 x5)) = novationhelp_Nums.l4 N n := funext fun x0 => funext fun x1 => funext fun x5 => ih x0 x1 x5
    rw [e_me] at h; exact h
theorem novationhelp_Nums.h_top (N : Nat) (κJ κL : Nat → St → novationhelp_Nums.R) (a0 : List (Int)) (a1 : List (Int)) : atQ (novationhelp_Nums.E N) Try.f15 [.v (.slice (.int .i64)), .v (.slice (.int .i64))] [.v .bool] κJ κL [] [] (entry ([.v (.slice (.int .i64)), .v (.slice (.int .i64))] : List AM) (a0, a1) 0 S0) = novationhelp_Nums.b N (fun x0 x1 x5 => κL 4 (novationhelp_Nums.s_l4 x0 x1 x5)) a0 a1 := by kernel_rfl
theorem novationhelp_Nums.r_top (N : Nat) (κJ κL : Nat → St → novationhelp_Nums.R) : selT (novationhelp_Nums.E N) κJ κL (tlsF (novationhelp_Nums.E N) Try.f15 [.v (.slice (.int .i64)), .v (.slice (.int .i64))] [.v .bool] [] []) = [(κL 4, novationhelp_Nums.e_l4 N N)] := by kernel_rfl
theorem novationhelp_Nums.ok (N : Nat) (a0 : List (Int)) (a1 : List (Int)) : evF (novationhelp_Nums.E N) Try.f15 [.v (.slice (.int .i64)), .v (.slice (.int .i64))] [.v .bool] (a0, a1) = novationhelp_Nums N a0 a1 := by
  obtain ⟨κL, q_l4, _⟩ := tabs' nox0 [(4, novationhelp_Nums.e_l4 N N)] (rfl : _ = [4]) (by decide)
  have hr := novationhelp_Nums.r_top N nox κL
  have h := (at_eq (novationhelp_Nums.E N) Try.f15 [.v (.slice (.int .i64)), .v (.slice (.int .i64))] [.v .bool] hr ⟨q_l4, trivial⟩ (entry ([.v (.slice (.int .i64)), .v (.slice (.int .i64))] : List AM) (a0, a1) 0 S0)).trans (novationhelp_Nums.h_top N nox κL a0 a1)
  have e_l4 : (fun x0 x1 x5 => novationhelp_Nums.e_l4 N N (novationhelp_Nums.s_l4 x0 x1 x5)) = novationhelp_Nums.l4 N N := funext fun x0 => funext fun x1 => funext fun x5 => novationhelp_Nums.l4_ok N N x0 x1 x5
  rw [q_l4, e_l4] at h; exact (evF_at (by kernel_rfl) _).trans h
theorem novationhelp_Nums.env (N : Nat) : EnvOk Try.prog (novationhelp_Nums.E N) := mkE_ok tabok trivial (by kernel_rfl)
theorem novationhelp_Nums.sum (N : Nat) : SumOk Try.prog 15 (novationhelp_Nums.S N) := sum_mk (novationhelp_Nums.env N) (novationhelp_Nums.S N) Try.func15 (by kernel_rfl) (fun x => novationhelp_Nums.ok N x.1 x.2)

noncomputable def novationlaw3_known.S (N : Nat) : Summ := { args := [], res := [.v .bool], quiet := true, run := fun _ => novationlaw3_known N  }
noncomputable def novationlaw3_known.E (N : Nat) : Env := mkE 70 tab [(10, [share_Split.S N]), (12, [share_Even.S N]), (18, [share_Capped.S N]), (14, [novationhelp_Ints.S N]), (16, [share_Order.S N]), (15, [novationhelp_Nums.S N])] [] [] [] N
theorem novationlaw3_known.ok (N : Nat) : evF (novationlaw3_known.E N) Try.f9 [] [.v .bool] () = novationlaw3_known N  := by kernel_rfl
theorem novationlaw3_known.env (N : Nat) : EnvOk Try.prog (novationlaw3_known.E N) := mkE_ok tabok ⟨⟨share_Split.sum N, trivial⟩, ⟨⟨share_Even.sum N, trivial⟩, ⟨⟨share_Capped.sum N, trivial⟩, ⟨⟨novationhelp_Ints.sum N, trivial⟩, ⟨⟨share_Order.sum N, trivial⟩, ⟨⟨novationhelp_Nums.sum N, trivial⟩, trivial⟩⟩⟩⟩⟩⟩ (by kernel_rfl)
theorem novationlaw3_known.sum (N : Nat) : SumOk Try.prog 9 (novationlaw3_known.S N) := sum_mk (novationlaw3_known.env N) (novationlaw3_known.S N) Try.func9 (by kernel_rfl) (fun _ => novationlaw3_known.ok N )

noncomputable def novationref1_wrong.S (N : Nat) : Summ := { args := [.v (.int .i64), .v (.slice (.int .i64))], res := [.v .bool], quiet := true, run := fun x => novationref1_wrong N x.1 x.2 }
noncomputable def novationref1_wrong.c_l4 : List (Nat × CM) := [(1, .v (.slice (.int .i64))), (5, .v (.int .i64))]
noncomputable def novationref1_wrong.E (N : Nat) : Env := mkE 24 tab [] [(4, novationref1_wrong.c_l4)] [] [] N
abbrev novationref1_wrong.R := Option ((Bool))
noncomputable def novationref1_wrong.s_l4 (x1 : List (Int)) (x5 : Int) : St := ((S0.put 1 (.val (.slice (.int .i64)) x1)).put 5 (.val (.int .i64) x5))
noncomputable def novationref1_wrong.e_l4 (N : Nat) (n : Nat) : St → novationref1_wrong.R := lpF (novationref1_wrong.E N) Try.f34 [.v (.int .i64), .v (.slice (.int .i64))] [.v .bool] novationref1_wrong.c_l4 [1, 1, 0, 1, 0, 0] [] n
theorem novationref1_wrong.h_l4 (N : Nat) (κJ κL : Nat → St → novationref1_wrong.R) (κ_l4 : St → novationref1_wrong.R) (x1 : List (Int)) (x5 : Int) : atQ (novationref1_wrong.E N) Try.f34 [.v (.int .i64), .v (.slice (.int .i64))] [.v .bool] κJ κL [1, 1, 0, 1, 0, 0] [fun σ => cutK (some novationref1_wrong.c_l4) σ κ_l4] (novationref1_wrong.s_l4 x1 x5) = novationref1_wrong.l4b N (fun x1 x5 => κ_l4 (novationref1_wrong.s_l4 x1 x5)) x1 x5 := by kernel_rfl
theorem novationref1_wrong.r_l4 (N : Nat) (κJ κL : Nat → St → novationref1_wrong.R) (κ_l4 : St → novationref1_wrong.R) : selT (novationref1_wrong.E N) κJ κL (tlsF (novationref1_wrong.E N) Try.f34 [.v (.int .i64), .v (.slice (.int .i64))] [.v .bool] [1, 1, 0, 1, 0, 0] [fun σ => cutK (some novationref1_wrong.c_l4) σ κ_l4]) = [] := by kernel_rfl
theorem novationref1_wrong.l4_ok (N : Nat) (n : Nat) : ∀ (x1 : List (Int)) (x5 : Int), novationref1_wrong.e_l4 N n (novationref1_wrong.s_l4 x1 x5) = novationref1_wrong.l4 N n x1 x5 := by
  induction n with
  | zero => intros; rfl
  | succ n ih =>
    intro x1 x5
    have hr := novationref1_wrong.r_l4 N nox nox (novationref1_wrong.e_l4 N n)
    have h := (at_eq (novationref1_wrong.E N) Try.f34 [.v (.int .i64), .v (.slice (.int .i64))] [.v .bool] hr trivial (novationref1_wrong.s_l4 x1 x5)).trans (novationref1_wrong.h_l4 N nox nox (novationref1_wrong.e_l4 N n) x1 x5)
    have e_me : (fun x1 x5 => (novationref1_wrong.e_l4 N n) (novationref1_wrong.s_l4 x1 x5)) = novationref1_wrong.l4 N n := funext fun x1 => funext fun x5 => ih x1 x5
    rw [e_me] at h; exact h
theorem novationref1_wrong.h_top (N : Nat) (κJ κL : Nat → St → novationref1_wrong.R) (a0 : Int) (a1 : List (Int)) : atQ (novationref1_wrong.E N) Try.f34 [.v (.int .i64), .v (.slice (.int .i64))] [.v .bool] κJ κL [] [] (entry ([.v (.int .i64), .v (.slice (.int .i64))] : List AM) (a0, a1) 0 S0) = novationref1_wrong.b N (fun x1 x5 => κL 4 (novationref1_wrong.s_l4 x1 x5)) a0 a1 := by kernel_rfl
theorem novationref1_wrong.r_top (N : Nat) (κJ κL : Nat → St → novationref1_wrong.R) : selT (novationref1_wrong.E N) κJ κL (tlsF (novationref1_wrong.E N) Try.f34 [.v (.int .i64), .v (.slice (.int .i64))] [.v .bool] [] []) = [(κL 4, novationref1_wrong.e_l4 N N)] := by kernel_rfl
theorem novationref1_wrong.ok (N : Nat) (a0 : Int) (a1 : List (Int)) : evF (novationref1_wrong.E N) Try.f34 [.v (.int .i64), .v (.slice (.int .i64))] [.v .bool] (a0, a1) = novationref1_wrong N a0 a1 := by
  obtain ⟨κL, q_l4, _⟩ := tabs' nox0 [(4, novationref1_wrong.e_l4 N N)] (rfl : _ = [4]) (by decide)
  have hr := novationref1_wrong.r_top N nox κL
  have h := (at_eq (novationref1_wrong.E N) Try.f34 [.v (.int .i64), .v (.slice (.int .i64))] [.v .bool] hr ⟨q_l4, trivial⟩ (entry ([.v (.int .i64), .v (.slice (.int .i64))] : List AM) (a0, a1) 0 S0)).trans (novationref1_wrong.h_top N nox κL a0 a1)
  have e_l4 : (fun x1 x5 => novationref1_wrong.e_l4 N N (novationref1_wrong.s_l4 x1 x5)) = novationref1_wrong.l4 N N := funext fun x1 => funext fun x5 => novationref1_wrong.l4_ok N N x1 x5
  rw [q_l4, e_l4] at h; exact (evF_at (by kernel_rfl) _).trans h
theorem novationref1_wrong.env (N : Nat) : EnvOk Try.prog (novationref1_wrong.E N) := mkE_ok tabok trivial (by kernel_rfl)
theorem novationref1_wrong.sum (N : Nat) : SumOk Try.prog 34 (novationref1_wrong.S N) := sum_mk (novationref1_wrong.env N) (novationref1_wrong.S N) Try.func34 (by kernel_rfl) (fun x => novationref1_wrong.ok N x.1 x.2)

noncomputable def novationref1_trim.S (N : Nat) : Summ := { args := [.v (.slice (.int .u64))], res := [.v (.slice (.int .u64))], quiet := false, run := fun x => novationref1_trim N x }
noncomputable def novationref1_trim.c_l2 : List (Nat × CM) := [(0, .v (.slice (.int .u64))), (3, .v (.int .i64))]
noncomputable def novationref1_trim.E (N : Nat) : Env := mkE 22 tab [] [(2, novationref1_trim.c_l2)] [] [] N
abbrev novationref1_trim.R := Option ((List (Int)))
noncomputable def novationref1_trim.s_l2 (x0 : List (Int)) (x3 : Int) : St := ((S0.put 0 (.val (.slice (.int .u64)) x0)).put 3 (.val (.int .i64) x3))
noncomputable def novationref1_trim.e_l2 (N : Nat) (n : Nat) : St → novationref1_trim.R := lpF (novationref1_trim.E N) Try.f59 [.v (.slice (.int .u64))] [.v (.slice (.int .u64))] novationref1_trim.c_l2 [1, 1, 0, 0, 0] [] n
theorem novationref1_trim.h_l2 (N : Nat) (κJ κL : Nat → St → novationref1_trim.R) (κ_l2 : St → novationref1_trim.R) (x0 : List (Int)) (x3 : Int) : atQ (novationref1_trim.E N) Try.f59 [.v (.slice (.int .u64))] [.v (.slice (.int .u64))] κJ κL [1, 1, 0, 0, 0] [fun σ => cutK (some novationref1_trim.c_l2) σ κ_l2] (novationref1_trim.s_l2 x0 x3) = novationref1_trim.l2b N (fun x0 x3 => κ_l2 (novationref1_trim.s_l2 x0 x3)) x0 x3 := by kernel_rfl
theorem novationref1_trim.r_l2 (N : Nat) (κJ κL : Nat → St → novationref1_trim.R) (κ_l2 : St → novationref1_trim.R) : selT (novationref1_trim.E N) κJ κL (tlsF (novationref1_trim.E N) Try.f59 [.v (.slice (.int .u64))] [.v (.slice (.int .u64))] [1, 1, 0, 0, 0] [fun σ => cutK (some novationref1_trim.c_l2) σ κ_l2]) = [] := by kernel_rfl
theorem novationref1_trim.l2_ok (N : Nat) (n : Nat) : ∀ (x0 : List (Int)) (x3 : Int), novationref1_trim.e_l2 N n (novationref1_trim.s_l2 x0 x3) = novationref1_trim.l2 N n x0 x3 := by
  induction n with
  | zero => intros; rfl
  | succ n ih =>
    intro x0 x3
    have hr := novationref1_trim.r_l2 N nox nox (novationref1_trim.e_l2 N n)
    have h := (at_eq (novationref1_trim.E N) Try.f59 [.v (.slice (.int .u64))] [.v (.slice (.int .u64))] hr trivial (novationref1_trim.s_l2 x0 x3)).trans (novationref1_trim.h_l2 N nox nox (novationref1_trim.e_l2 N n) x0 x3)
    have e_me : (fun x0 x3 => (novationref1_trim.e_l2 N n) (novationref1_trim.s_l2 x0 x3)) = novationref1_trim.l2 N n := funext fun x0 => funext fun x3 => ih x0 x3
    rw [e_me] at h; exact h
theorem novationref1_trim.h_top (N : Nat) (κJ κL : Nat → St → novationref1_trim.R) (a0 : List (Int)) : atQ (novationref1_trim.E N) Try.f59 [.v (.slice (.int .u64))] [.v (.slice (.int .u64))] κJ κL [] [] (entry ([.v (.slice (.int .u64))] : List AM) (a0) 0 S0) = novationref1_trim.b N (fun x0 x3 => κL 2 (novationref1_trim.s_l2 x0 x3)) a0 := by kernel_rfl
theorem novationref1_trim.r_top (N : Nat) (κJ κL : Nat → St → novationref1_trim.R) : selT (novationref1_trim.E N) κJ κL (tlsF (novationref1_trim.E N) Try.f59 [.v (.slice (.int .u64))] [.v (.slice (.int .u64))] [] []) = [(κL 2, novationref1_trim.e_l2 N N)] := by kernel_rfl
theorem novationref1_trim.ok (N : Nat) (a0 : List (Int)) : evF (novationref1_trim.E N) Try.f59 [.v (.slice (.int .u64))] [.v (.slice (.int .u64))] (a0) = novationref1_trim N a0 := by
  obtain ⟨κL, q_l2, _⟩ := tabs' nox0 [(2, novationref1_trim.e_l2 N N)] (rfl : _ = [2]) (by decide)
  have hr := novationref1_trim.r_top N nox κL
  have h := (at_eq (novationref1_trim.E N) Try.f59 [.v (.slice (.int .u64))] [.v (.slice (.int .u64))] hr ⟨q_l2, trivial⟩ (entry ([.v (.slice (.int .u64))] : List AM) (a0) 0 S0)).trans (novationref1_trim.h_top N nox κL a0)
  have e_l2 : (fun x0 x3 => novationref1_trim.e_l2 N N (novationref1_trim.s_l2 x0 x3)) = novationref1_trim.l2 N N := funext fun x0 => funext fun x3 => novationref1_trim.l2_ok N N x0 x3
  rw [q_l2, e_l2] at h; exact (evF_at (by kernel_rfl) _).trans h
theorem novationref1_trim.env (N : Nat) : EnvOk Try.prog (novationref1_trim.E N) := mkE_ok tabok trivial (by kernel_rfl)
theorem novationref1_trim.sum (N : Nat) : SumOk Try.prog 59 (novationref1_trim.S N) := sum_mk (novationref1_trim.env N) (novationref1_trim.S N) Try.func59 (by kernel_rfl) (fun x => novationref1_trim.ok N x)

noncomputable def novationref1_size.S (N : Nat) : Summ := { args := [.v (.int .u64)], res := [.v (.slice (.int .u64))], quiet := false, run := fun x => novationref1_size N x }
noncomputable def novationref1_size.E (N : Nat) : Env := mkE 9 tab [(59, [novationref1_trim.S N])] [] [] [] N
theorem novationref1_size.ok (N : Nat) (a0 : Int) : evF (novationref1_size.E N) Try.f41 [.v (.int .u64)] [.v (.slice (.int .u64))] (a0) = novationref1_size N a0 := by kernel_rfl
theorem novationref1_size.env (N : Nat) : EnvOk Try.prog (novationref1_size.E N) := mkE_ok tabok ⟨⟨novationref1_trim.sum N, trivial⟩, trivial⟩ (by kernel_rfl)
theorem novationref1_size.sum (N : Nat) : SumOk Try.prog 41 (novationref1_size.S N) := sum_mk (novationref1_size.env N) (novationref1_size.S N) Try.func41 (by kernel_rfl) (fun x => novationref1_size.ok N x)

noncomputable def novationref1_made.S (N : Nat) : Summ := { args := [.v .bool, .v (.slice (.int .u64))], res := [.v tBig], quiet := false, run := fun x => novationref1_made N x.1 x.2 }
noncomputable def novationref1_made.E (N : Nat) : Env := mkE 15 tab [(59, [novationref1_trim.S N])] [] [] [] N
theorem novationref1_made.ok (N : Nat) (a0 : Bool) (a1 : List (Int)) : evF (novationref1_made.E N) Try.f40 [.v .bool, .v (.slice (.int .u64))] [.v tBig] (a0, a1) = novationref1_made N a0 a1 := by kernel_rfl
theorem novationref1_made.env (N : Nat) : EnvOk Try.prog (novationref1_made.E N) := mkE_ok tabok ⟨⟨novationref1_trim.sum N, trivial⟩, trivial⟩ (by kernel_rfl)
theorem novationref1_made.sum (N : Nat) : SumOk Try.prog 40 (novationref1_made.S N) := sum_mk (novationref1_made.env N) (novationref1_made.S N) Try.func40 (by kernel_rfl) (fun x => novationref1_made.ok N x.1 x.2)

noncomputable def novationref1_Whole.S (N : Nat) : Summ := { args := [.v (.int .i64)], res := [.v tBig], quiet := false, run := fun x => novationref1_Whole N x }
noncomputable def novationref1_Whole.E (N : Nat) : Env := mkE 15 tab [(41, [novationref1_size.S N]), (40, [novationref1_made.S N])] [] [] [] N
theorem novationref1_Whole.ok (N : Nat) (a0 : Int) : evF (novationref1_Whole.E N) Try.f24 [.v (.int .i64)] [.v tBig] (a0) = novationref1_Whole N a0 := by kernel_rfl
theorem novationref1_Whole.env (N : Nat) : EnvOk Try.prog (novationref1_Whole.E N) := mkE_ok tabok ⟨⟨novationref1_size.sum N, trivial⟩, ⟨⟨novationref1_made.sum N, trivial⟩, trivial⟩⟩ (by kernel_rfl)
theorem novationref1_Whole.sum (N : Nat) : SumOk Try.prog 24 (novationref1_Whole.S N) := sum_mk (novationref1_Whole.env N) (novationref1_Whole.S N) Try.func24 (by kernel_rfl) (fun x => novationref1_Whole.ok N x)

noncomputable def novationref1_digit.S (N : Nat) : Summ := { args := [.v (.slice (.int .u64)), .v (.int .i64)], res := [.v (.int .u64)], quiet := true, run := fun x => novationref1_digit N x.1 x.2 }
noncomputable def novationref1_digit.E (N : Nat) : Env := mkE 13 tab [] [] [] [] N
theorem novationref1_digit.ok (N : Nat) (a0 : List (Int)) (a1 : Int) : evF (novationref1_digit.E N) Try.f43 [.v (.slice (.int .u64)), .v (.int .i64)] [.v (.int .u64)] (a0, a1) = novationref1_digit N a0 a1 := by kernel_rfl
theorem novationref1_digit.env (N : Nat) : EnvOk Try.prog (novationref1_digit.E N) := mkE_ok tabok trivial (by kernel_rfl)
theorem novationref1_digit.sum (N : Nat) : SumOk Try.prog 43 (novationref1_digit.S N) := sum_mk (novationref1_digit.env N) (novationref1_digit.S N) Try.func43 (by kernel_rfl) (fun x => novationref1_digit.ok N x.1 x.2)

noncomputable def novationref1_addSizes.S (N : Nat) : Summ := { args := [.v (.slice (.int .u64)), .v (.slice (.int .u64))], res := [.own (.int .u64)], quiet := false, run := fun x => novationref1_addSizes N x.1 x.2 }
noncomputable def novationref1_addSizes.c_j6 : List (Nat × CM) := [(0, .v (.slice (.int .u64))), (1, .v (.slice (.int .u64))), (5, .own (.int .u64)), (6, .v (.int .u64)), (7, .v (.int .i64))]
noncomputable def novationref1_addSizes.c_l4 : List (Nat × CM) := [(0, .v (.slice (.int .u64))), (1, .v (.slice (.int .u64))), (5, .own (.int .u64)), (6, .v (.int .u64)), (7, .v (.int .i64))]
noncomputable def novationref1_addSizes.E (N : Nat) : Env := mkE 41 tab [(43, [novationref1_digit.S N])] [(4, novationref1_addSizes.c_l4)] [(6, novationref1_addSizes.c_j6)] [] N
abbrev novationref1_addSizes.R := Option ((List (Int)))
noncomputable def novationref1_addSizes.s_j6 (x0 : List (Int)) (x1 : List (Int)) (x5 : List (Int)) (x6 : Int) (x7 : Int) : St := ((((((S0.put 0 (.val (.slice (.int .u64)) x0)).put 1 (.val (.slice (.int .u64)) x1)).put 5 (.ref 94)).putH 94 (some (.own (.int .u64) x5))).put 6 (.val (.int .u64) x6)).put 7 (.val (.int .i64) x7))
noncomputable def novationref1_addSizes.s_l4 (x0 : List (Int)) (x1 : List (Int)) (x5 : List (Int)) (x6 : Int) (x7 : Int) : St := ((((((S0.put 0 (.val (.slice (.int .u64)) x0)).put 1 (.val (.slice (.int .u64)) x1)).put 5 (.ref 94)).putH 94 (some (.own (.int .u64) x5))).put 6 (.val (.int .u64) x6)).put 7 (.val (.int .i64) x7))
noncomputable def novationref1_addSizes.e_j6 (N : Nat) (κ_l4 : St → novationref1_addSizes.R) : St → novationref1_addSizes.R := atF (novationref1_addSizes.E N) Try.f44 [.v (.slice (.int .u64)), .v (.slice (.int .u64))] [.own (.int .u64)] [1, 1, 1, 0, 1, 0, 0, 1] [fun σ => cutK (some novationref1_addSizes.c_l4) σ κ_l4]
noncomputable def novationref1_addSizes.e_l4 (N : Nat) (n : Nat) : St → novationref1_addSizes.R := lpF (novationref1_addSizes.E N) Try.f44 [.v (.slice (.int .u64)), .v (.slice (.int .u64))] [.own (.int .u64)] novationref1_addSizes.c_l4 [1, 1, 1, 0, 1, 0, 0] [] n
theorem novationref1_addSizes.h_j6 (N : Nat) (κJ κL : Nat → St → novationref1_addSizes.R) (κ_l4 : St → novationref1_addSizes.R) (x0 : List (Int)) (x1 : List (Int)) (x5 : List (Int)) (x6 : Int) (x7 : Int) : atQ (novationref1_addSizes.E N) Try.f44 [.v (.slice (.int .u64)), .v (.slice (.int .u64))] [.own (.int .u64)] κJ κL [1, 1, 1, 0, 1, 0, 0, 1] [fun σ => cutK (some novationref1_addSizes.c_l4) σ κ_l4] (novationref1_addSizes.s_j6 x0 x1 x5 x6 x7) = novationref1_addSizes.j6b N (fun x0 x1 x5 x6 x7 => κ_l4 (novationref1_addSizes.s_l4 x0 x1 x5 x6 x7)) x0 x1 x5 x6 x7 := by kernel_rfl
theorem novationref1_addSizes.r_j6 (N : Nat) (κJ κL : Nat → St → novationref1_addSizes.R) (κ_l4 : St → novationref1_addSizes.R) : selT (novationref1_addSizes.E N) κJ κL (tlsF (novationref1_addSizes.E N) Try.f44 [.v (.slice (.int .u64)), .v (.slice (.int .u64))] [.own (.int .u64)] [1, 1, 1, 0, 1, 0, 0, 1] [fun σ => cutK (some novationref1_addSizes.c_l4) σ κ_l4]) = [] := by kernel_rfl
theorem novationref1_addSizes.j6_ok (N : Nat) (κ_l4 : St → novationref1_addSizes.R) (x0 : List (Int)) (x1 : List (Int)) (x5 : List (Int)) (x6 : Int) (x7 : Int) : novationref1_addSizes.e_j6 N κ_l4 (novationref1_addSizes.s_j6 x0 x1 x5 x6 x7) = novationref1_addSizes.j6 N (fun x0 x1 x5 x6 x7 => κ_l4 (novationref1_addSizes.s_l4 x0 x1 x5 x6 x7)) x0 x1 x5 x6 x7 := by
  have hr := novationref1_addSizes.r_j6 N nox nox κ_l4
  have h := (at_eq (novationref1_addSizes.E N) Try.f44 [.v (.slice (.int .u64)), .v (.slice (.int .u64))] [.own (.int .u64)] hr trivial (novationref1_addSizes.s_j6 x0 x1 x5 x6 x7)).trans (novationref1_addSizes.h_j6 N nox nox κ_l4 x0 x1 x5 x6 x7)
  exact h
theorem novationref1_addSizes.h_l4 (N : Nat) (κJ κL : Nat → St → novationref1_addSizes.R) (κ_l4 : St → novationref1_addSizes.R) (x0 : List (Int)) (x1 : List (Int)) (x5 : List (Int)) (x6 : Int) (x7 : Int) : atQ (novationref1_addSizes.E N) Try.f44 [.v (.slice (.int .u64)), .v (.slice (.int .u64))] [.own (.int .u64)] κJ κL [1, 1, 1, 0, 1, 0, 0] [fun σ => cutK (some novationref1_addSizes.c_l4) σ κ_l4] (novationref1_addSizes.s_l4 x0 x1 x5 x6 x7) = novationref1_addSizes.l4b N (fun x0 x1 x5 x6 x7 => κJ 6 (novationref1_addSizes.s_j6 x0 x1 x5 x6 x7)) (fun x0 x1 x5 x6 x7 => κ_l4 (novationref1_addSizes.s_l4 x0 x1 x5 x6 x7)) x0 x1 x5 x6 x7 := by kernel_rfl
theorem novationref1_addSizes.r_l4 (N : Nat) (κJ κL : Nat → St → novationref1_addSizes.R) (κ_l4 : St → novationref1_addSizes.R) : selT (novationref1_addSizes.E N) κJ κL (tlsF (novationref1_addSizes.E N) Try.f44 [.v (.slice (.int .u64)), .v (.slice (.int .u64))] [.own (.int .u64)] [1, 1, 1, 0, 1, 0, 0] [fun σ => cutK (some novationref1_addSizes.c_l4) σ κ_l4]) = [(κJ 6, novationref1_addSizes.e_j6 N κ_l4)] := by kernel_rfl
theorem novationref1_addSizes.l4_ok (N : Nat) (n : Nat) : ∀ (x0 : List (Int)) (x1 : List (Int)) (x5 : List (Int)) (x6 : Int) (x7 : Int), novationref1_addSizes.e_l4 N n (novationref1_addSizes.s_l4 x0 x1 x5 x6 x7) = novationref1_addSizes.l4 N n x0 x1 x5 x6 x7 := by
  induction n with
  | zero => intros; rfl
  | succ n ih =>
    intro x0 x1 x5 x6 x7
    obtain ⟨κJ, q_j6, _⟩ := tabs' nox0 [(6, novationref1_addSizes.e_j6 N (novationref1_addSizes.e_l4 N n))] (rfl : _ = [6]) (by decide)
    have hr := novationref1_addSizes.r_l4 N κJ nox (novationref1_addSizes.e_l4 N n)
    have h := (at_eq (novationref1_addSizes.E N) Try.f44 [.v (.slice (.int .u64)), .v (.slice (.int .u64))] [.own (.int .u64)] hr ⟨q_j6, trivial⟩ (novationref1_addSizes.s_l4 x0 x1 x5 x6 x7)).trans (novationref1_addSizes.h_l4 N κJ nox (novationref1_addSizes.e_l4 N n) x0 x1 x5 x6 x7)
    have e_j6 : (fun x0 x1 x5 x6 x7 => novationref1_addSizes.e_j6 N (novationref1_addSizes.e_l4 N n) (novationref1_addSizes.s_j6 x0 x1 x5 x6 x7)) = novationref1_addSizes.j6 N (fun x0 x1 x5 x6 x7 => (novationref1_addSizes.e_l4 N n) (novationref1_addSizes.s_l4 x0 x1 x5 x6 x7)) := funext fun x0 => funext fun x1 => funext fun x5 => funext fun x6 => funext fun x7 => novationref1_addSizes.j6_ok N (novationref1_addSizes.e_l4 N n) x0 x1 x5 x6 x7
    have e_me : (fun x0 x1 x5 x6 x7 => (novationref1_addSizes.e_l4 N n) (novationref1_addSizes.s_l4 x0 x1 x5 x6 x7)) = novationref1_addSizes.l4 N n := funext fun x0 => funext fun x1 => funext fun x5 => funext fun x6 => funext fun x7 => ih x0 x1 x5 x6 x7
    rw [q_j6, e_j6, e_me] at h; exact h
theorem novationref1_addSizes.h_top (N : Nat) (κJ κL : Nat → St → novationref1_addSizes.R) (a0 : List (Int)) (a1 : List (Int)) : atQ (novationref1_addSizes.E N) Try.f44 [.v (.slice (.int .u64)), .v (.slice (.int .u64))] [.own (.int .u64)] κJ κL [] [] (entry ([.v (.slice (.int .u64)), .v (.slice (.int .u64))] : List AM) (a0, a1) 0 S0) = novationref1_addSizes.b N (fun x0 x1 x5 x6 x7 => κL 4 (novationref1_addSizes.s_l4 x0 x1 x5 x6 x7)) a0 a1 := by kernel_rfl
theorem novationref1_addSizes.r_top (N : Nat) (κJ κL : Nat → St → novationref1_addSizes.R) : selT (novationref1_addSizes.E N) κJ κL (tlsF (novationref1_addSizes.E N) Try.f44 [.v (.slice (.int .u64)), .v (.slice (.int .u64))] [.own (.int .u64)] [] []) = [(κL 4, novationref1_addSizes.e_l4 N N)] := by kernel_rfl
theorem novationref1_addSizes.ok (N : Nat) (a0 : List (Int)) (a1 : List (Int)) : evF (novationref1_addSizes.E N) Try.f44 [.v (.slice (.int .u64)), .v (.slice (.int .u64))] [.own (.int .u64)] (a0, a1) = novationref1_addSizes N a0 a1 := by
  obtain ⟨κL, q_l4, _⟩ := tabs' nox0 [(4, novationref1_addSizes.e_l4 N N)] (rfl : _ = [4]) (by decide)
  have hr := novationref1_addSizes.r_top N nox κL
  have h := (at_eq (novationref1_addSizes.E N) Try.f44 [.v (.slice (.int .u64)), .v (.slice (.int .u64))] [.own (.int .u64)] hr ⟨q_l4, trivial⟩ (entry ([.v (.slice (.int .u64)), .v (.slice (.int .u64))] : List AM) (a0, a1) 0 S0)).trans (novationref1_addSizes.h_top N nox κL a0 a1)
  have e_l4 : (fun x0 x1 x5 x6 x7 => novationref1_addSizes.e_l4 N N (novationref1_addSizes.s_l4 x0 x1 x5 x6 x7)) = novationref1_addSizes.l4 N N := funext fun x0 => funext fun x1 => funext fun x5 => funext fun x6 => funext fun x7 => novationref1_addSizes.l4_ok N N x0 x1 x5 x6 x7
  rw [q_l4, e_l4] at h; exact (evF_at (by kernel_rfl) _).trans h
theorem novationref1_addSizes.env (N : Nat) : EnvOk Try.prog (novationref1_addSizes.E N) := mkE_ok tabok ⟨⟨novationref1_digit.sum N, trivial⟩, trivial⟩ (by kernel_rfl)
theorem novationref1_addSizes.sum (N : Nat) : SumOk Try.prog 44 (novationref1_addSizes.S N) := sum_mk (novationref1_addSizes.env N) (novationref1_addSizes.S N) Try.func44 (by kernel_rfl) (fun x => novationref1_addSizes.ok N x.1 x.2)

noncomputable def novationref1_cmpSizes.S (N : Nat) : Summ := { args := [.v (.slice (.int .u64)), .v (.slice (.int .u64))], res := [.v (.int .i64)], quiet := true, run := fun x => novationref1_cmpSizes N x.1 x.2 }
noncomputable def novationref1_cmpSizes.c_l6 : List (Nat × CM) := [(0, .v (.slice (.int .u64))), (1, .v (.slice (.int .u64))), (5, .v (.int .i64))]
noncomputable def novationref1_cmpSizes.E (N : Nat) : Env := mkE 41 tab [] [(6, novationref1_cmpSizes.c_l6)] [] [] N
abbrev novationref1_cmpSizes.R := Option ((Int))
noncomputable def novationref1_cmpSizes.s_l6 (x0 : List (Int)) (x1 : List (Int)) (x5 : Int) : St := (((S0.put 0 (.val (.slice (.int .u64)) x0)).put 1 (.val (.slice (.int .u64)) x1)).put 5 (.val (.int .i64) x5))
noncomputable def novationref1_cmpSizes.e_l6 (N : Nat) (n : Nat) : St → novationref1_cmpSizes.R := lpF (novationref1_cmpSizes.E N) Try.f45 [.v (.slice (.int .u64)), .v (.slice (.int .u64))] [.v (.int .i64)] novationref1_cmpSizes.c_l6 [1, 1, 0, 1, 0, 0] [] n
theorem novationref1_cmpSizes.h_l6 (N : Nat) (κJ κL : Nat → St → novationref1_cmpSizes.R) (κ_l6 : St → novationref1_cmpSizes.R) (x0 : List (Int)) (x1 : List (Int)) (x5 : Int) : atQ (novationref1_cmpSizes.E N) Try.f45 [.v (.slice (.int .u64)), .v (.slice (.int .u64))] [.v (.int .i64)] κJ κL [1, 1, 0, 1, 0, 0] [fun σ => cutK (some novationref1_cmpSizes.c_l6) σ κ_l6] (novationref1_cmpSizes.s_l6 x0 x1 x5) = novationref1_cmpSizes.l6b N (fun x0 x1 x5 => κ_l6 (novationref1_cmpSizes.s_l6 x0 x1 x5)) x0 x1 x5 := by kernel_rfl
theorem novationref1_cmpSizes.r_l6 (N : Nat) (κJ κL : Nat → St → novationref1_cmpSizes.R) (κ_l6 : St → novationref1_cmpSizes.R) : selT (novationref1_cmpSizes.E N) κJ κL (tlsF (novationref1_cmpSizes.E N) Try.f45 [.v (.slice (.int .u64)), .v (.slice (.int .u64))] [.v (.int .i64)] [1, 1, 0, 1, 0, 0] [fun σ => cutK (some novationref1_cmpSizes.c_l6) σ κ_l6]) = [] := by kernel_rfl
theorem novationref1_cmpSizes.l6_ok (N : Nat) (n : Nat) : ∀ (x0 : List (Int)) (x1 : List (Int)) (x5 : Int), novationref1_cmpSizes.e_l6 N n (novationref1_cmpSizes.s_l6 x0 x1 x5) = novationref1_cmpSizes.l6 N n x0 x1 x5 := by
  induction n with
  | zero => intros; rfl
  | succ n ih =>
    intro x0 x1 x5
    have hr := novationref1_cmpSizes.r_l6 N nox nox (novationref1_cmpSizes.e_l6 N n)
    have h := (at_eq (novationref1_cmpSizes.E N) Try.f45 [.v (.slice (.int .u64)), .v (.slice (.int .u64))] [.v (.int .i64)] hr trivial (novationref1_cmpSizes.s_l6 x0 x1 x5)).trans (novationref1_cmpSizes.h_l6 N nox nox (novationref1_cmpSizes.e_l6 N n) x0 x1 x5)
    have e_me : (fun x0 x1 x5 => (novationref1_cmpSizes.e_l6 N n) (novationref1_cmpSizes.s_l6 x0 x1 x5)) = novationref1_cmpSizes.l6 N n := funext fun x0 => funext fun x1 => funext fun x5 => ih x0 x1 x5
    rw [e_me] at h; exact h
theorem novationref1_cmpSizes.h_top (N : Nat) (κJ κL : Nat → St → novationref1_cmpSizes.R) (a0 : List (Int)) (a1 : List (Int)) : atQ (novationref1_cmpSizes.E N) Try.f45 [.v (.slice (.int .u64)), .v (.slice (.int .u64))] [.v (.int .i64)] κJ κL [] [] (entry ([.v (.slice (.int .u64)), .v (.slice (.int .u64))] : List AM) (a0, a1) 0 S0) = novationref1_cmpSizes.b N (fun x0 x1 x5 => κL 6 (novationref1_cmpSizes.s_l6 x0 x1 x5)) a0 a1 := by kernel_rfl
theorem novationref1_cmpSizes.r_top (N : Nat) (κJ κL : Nat → St → novationref1_cmpSizes.R) : selT (novationref1_cmpSizes.E N) κJ κL (tlsF (novationref1_cmpSizes.E N) Try.f45 [.v (.slice (.int .u64)), .v (.slice (.int .u64))] [.v (.int .i64)] [] []) = [(κL 6, novationref1_cmpSizes.e_l6 N N)] := by kernel_rfl
theorem novationref1_cmpSizes.ok (N : Nat) (a0 : List (Int)) (a1 : List (Int)) : evF (novationref1_cmpSizes.E N) Try.f45 [.v (.slice (.int .u64)), .v (.slice (.int .u64))] [.v (.int .i64)] (a0, a1) = novationref1_cmpSizes N a0 a1 := by
  obtain ⟨κL, q_l6, _⟩ := tabs' nox0 [(6, novationref1_cmpSizes.e_l6 N N)] (rfl : _ = [6]) (by decide)
  have hr := novationref1_cmpSizes.r_top N nox κL
  have h := (at_eq (novationref1_cmpSizes.E N) Try.f45 [.v (.slice (.int .u64)), .v (.slice (.int .u64))] [.v (.int .i64)] hr ⟨q_l6, trivial⟩ (entry ([.v (.slice (.int .u64)), .v (.slice (.int .u64))] : List AM) (a0, a1) 0 S0)).trans (novationref1_cmpSizes.h_top N nox κL a0 a1)
  have e_l6 : (fun x0 x1 x5 => novationref1_cmpSizes.e_l6 N N (novationref1_cmpSizes.s_l6 x0 x1 x5)) = novationref1_cmpSizes.l6 N N := funext fun x0 => funext fun x1 => funext fun x5 => novationref1_cmpSizes.l6_ok N N x0 x1 x5
  rw [q_l6, e_l6] at h; exact (evF_at (by kernel_rfl) _).trans h
theorem novationref1_cmpSizes.env (N : Nat) : EnvOk Try.prog (novationref1_cmpSizes.E N) := mkE_ok tabok trivial (by kernel_rfl)
theorem novationref1_cmpSizes.sum (N : Nat) : SumOk Try.prog 45 (novationref1_cmpSizes.S N) := sum_mk (novationref1_cmpSizes.env N) (novationref1_cmpSizes.S N) Try.func45 (by kernel_rfl) (fun x => novationref1_cmpSizes.ok N x.1 x.2)

noncomputable def novationref1_subSizes.S (N : Nat) : Summ := { args := [.v (.slice (.int .u64)), .v (.slice (.int .u64))], res := [.own (.int .u64)], quiet := false, run := fun x => novationref1_subSizes N x.1 x.2 }
noncomputable def novationref1_subSizes.c_l4 : List (Nat × CM) := [(0, .v (.slice (.int .u64))), (1, .v (.slice (.int .u64))), (5, .own (.int .u64)), (6, .v (.int .u64)), (7, .v (.int .i64))]
noncomputable def novationref1_subSizes.E (N : Nat) : Env := mkE 37 tab [(43, [novationref1_digit.S N])] [(4, novationref1_subSizes.c_l4)] [] [] N
abbrev novationref1_subSizes.R := Option ((List (Int)))
noncomputable def novationref1_subSizes.s_l4 (x0 : List (Int)) (x1 : List (Int)) (x5 : List (Int)) (x6 : Int) (x7 : Int) : St := ((((((S0.put 0 (.val (.slice (.int .u64)) x0)).put 1 (.val (.slice (.int .u64)) x1)).put 5 (.ref 94)).putH 94 (some (.own (.int .u64) x5))).put 6 (.val (.int .u64) x6)).put 7 (.val (.int .i64) x7))
noncomputable def novationref1_subSizes.e_l4 (N : Nat) (n : Nat) : St → novationref1_subSizes.R := lpF (novationref1_subSizes.E N) Try.f46 [.v (.slice (.int .u64)), .v (.slice (.int .u64))] [.own (.int .u64)] novationref1_subSizes.c_l4 [1, 1, 1, 0, 1, 0, 0] [] n
theorem novationref1_subSizes.h_l4 (N : Nat) (κJ κL : Nat → St → novationref1_subSizes.R) (κ_l4 : St → novationref1_subSizes.R) (x0 : List (Int)) (x1 : List (Int)) (x5 : List (Int)) (x6 : Int) (x7 : Int) : atQ (novationref1_subSizes.E N) Try.f46 [.v (.slice (.int .u64)), .v (.slice (.int .u64))] [.own (.int .u64)] κJ κL [1, 1, 1, 0, 1, 0, 0] [fun σ => cutK (some novationref1_subSizes.c_l4) σ κ_l4] (novationref1_subSizes.s_l4 x0 x1 x5 x6 x7) = novationref1_subSizes.l4b N (fun x0 x1 x5 x6 x7 => κ_l4 (novationref1_subSizes.s_l4 x0 x1 x5 x6 x7)) x0 x1 x5 x6 x7 := by kernel_rfl
theorem novationref1_subSizes.r_l4 (N : Nat) (κJ κL : Nat → St → novationref1_subSizes.R) (κ_l4 : St → novationref1_subSizes.R) : selT (novationref1_subSizes.E N) κJ κL (tlsF (novationref1_subSizes.E N) Try.f46 [.v (.slice (.int .u64)), .v (.slice (.int .u64))] [.own (.int .u64)] [1, 1, 1, 0, 1, 0, 0] [fun σ => cutK (some novationref1_subSizes.c_l4) σ κ_l4]) = [] := by kernel_rfl
theorem novationref1_subSizes.l4_ok (N : Nat) (n : Nat) : ∀ (x0 : List (Int)) (x1 : List (Int)) (x5 : List (Int)) (x6 : Int) (x7 : Int), novationref1_subSizes.e_l4 N n (novationref1_subSizes.s_l4 x0 x1 x5 x6 x7) = novationref1_subSizes.l4 N n x0 x1 x5 x6 x7 := by
  induction n with
  | zero => intros; rfl
  | succ n ih =>
    intro x0 x1 x5 x6 x7
    have hr := novationref1_subSizes.r_l4 N nox nox (novationref1_subSizes.e_l4 N n)
    have h := (at_eq (novationref1_subSizes.E N) Try.f46 [.v (.slice (.int .u64)), .v (.slice (.int .u64))] [.own (.int .u64)] hr trivial (novationref1_subSizes.s_l4 x0 x1 x5 x6 x7)).trans (novationref1_subSizes.h_l4 N nox nox (novationref1_subSizes.e_l4 N n) x0 x1 x5 x6 x7)
    have e_me : (fun x0 x1 x5 x6 x7 => (novationref1_subSizes.e_l4 N n) (novationref1_subSizes.s_l4 x0 x1 x5 x6 x7)) = novationref1_subSizes.l4 N n := funext fun x0 => funext fun x1 => funext fun x5 => funext fun x6 => funext fun x7 => ih x0 x1 x5 x6 x7
    rw [e_me] at h; exact h
theorem novationref1_subSizes.h_top (N : Nat) (κJ κL : Nat → St → novationref1_subSizes.R) (a0 : List (Int)) (a1 : List (Int)) : atQ (novationref1_subSizes.E N) Try.f46 [.v (.slice (.int .u64)), .v (.slice (.int .u64))] [.own (.int .u64)] κJ κL [] [] (entry ([.v (.slice (.int .u64)), .v (.slice (.int .u64))] : List AM) (a0, a1) 0 S0) = novationref1_subSizes.b N (fun x0 x1 x5 x6 x7 => κL 4 (novationref1_subSizes.s_l4 x0 x1 x5 x6 x7)) a0 a1 := by kernel_rfl
theorem novationref1_subSizes.r_top (N : Nat) (κJ κL : Nat → St → novationref1_subSizes.R) : selT (novationref1_subSizes.E N) κJ κL (tlsF (novationref1_subSizes.E N) Try.f46 [.v (.slice (.int .u64)), .v (.slice (.int .u64))] [.own (.int .u64)] [] []) = [(κL 4, novationref1_subSizes.e_l4 N N)] := by kernel_rfl
theorem novationref1_subSizes.ok (N : Nat) (a0 : List (Int)) (a1 : List (Int)) : evF (novationref1_subSizes.E N) Try.f46 [.v (.slice (.int .u64)), .v (.slice (.int .u64))] [.own (.int .u64)] (a0, a1) = novationref1_subSizes N a0 a1 := by
  obtain ⟨κL, q_l4, _⟩ := tabs' nox0 [(4, novationref1_subSizes.e_l4 N N)] (rfl : _ = [4]) (by decide)
  have hr := novationref1_subSizes.r_top N nox κL
  have h := (at_eq (novationref1_subSizes.E N) Try.f46 [.v (.slice (.int .u64)), .v (.slice (.int .u64))] [.own (.int .u64)] hr ⟨q_l4, trivial⟩ (entry ([.v (.slice (.int .u64)), .v (.slice (.int .u64))] : List AM) (a0, a1) 0 S0)).trans (novationref1_subSizes.h_top N nox κL a0 a1)
  have e_l4 : (fun x0 x1 x5 x6 x7 => novationref1_subSizes.e_l4 N N (novationref1_subSizes.s_l4 x0 x1 x5 x6 x7)) = novationref1_subSizes.l4 N N := funext fun x0 => funext fun x1 => funext fun x5 => funext fun x6 => funext fun x7 => novationref1_subSizes.l4_ok N N x0 x1 x5 x6 x7
  rw [q_l4, e_l4] at h; exact (evF_at (by kernel_rfl) _).trans h
theorem novationref1_subSizes.env (N : Nat) : EnvOk Try.prog (novationref1_subSizes.E N) := mkE_ok tabok ⟨⟨novationref1_digit.sum N, trivial⟩, trivial⟩ (by kernel_rfl)
theorem novationref1_subSizes.sum (N : Nat) : SumOk Try.prog 46 (novationref1_subSizes.S N) := sum_mk (novationref1_subSizes.env N) (novationref1_subSizes.S N) Try.func46 (by kernel_rfl) (fun x => novationref1_subSizes.ok N x.1 x.2)

noncomputable def novationref1_Plus.S (N : Nat) : Summ := { args := [.v tBig, .v tBig], res := [.v tBig], quiet := false, run := fun x => novationref1_Plus N x.1 x.2 }
noncomputable def novationref1_Plus.E (N : Nat) : Env := mkE 40 tab [(44, [novationref1_addSizes.S N]), (40, [novationref1_made.S N]), (45, [novationref1_cmpSizes.S N]), (46, [novationref1_subSizes.S N])] [] [] [] N
theorem novationref1_Plus.ok (N : Nat) (a0 : Ty.den tBig) (a1 : Ty.den tBig) : evF (novationref1_Plus.E N) Try.f28 [.v tBig, .v tBig] [.v tBig] (a0, a1) = novationref1_Plus N a0 a1 := by kernel_rfl
theorem novationref1_Plus.env (N : Nat) : EnvOk Try.prog (novationref1_Plus.E N) := mkE_ok tabok ⟨⟨novationref1_addSizes.sum N, trivial⟩, ⟨⟨novationref1_made.sum N, trivial⟩, ⟨⟨novationref1_cmpSizes.sum N, trivial⟩, ⟨⟨novationref1_subSizes.sum N, trivial⟩, trivial⟩⟩⟩⟩ (by kernel_rfl)
theorem novationref1_Plus.sum (N : Nat) : SumOk Try.prog 28 (novationref1_Plus.S N) := sum_mk (novationref1_Plus.env N) (novationref1_Plus.S N) Try.func28 (by kernel_rfl) (fun x => novationref1_Plus.ok N x.1 x.2)

noncomputable def novationref1_SumInts.S (N : Nat) : Summ := { args := [.v (.slice (.int .i64))], res := [.v tBig], quiet := false, run := fun x => novationref1_SumInts N x }
noncomputable def novationref1_SumInts.c_l3 : List (Nat × CM) := [(0, .v (.slice (.int .i64))), (2, .obj tBig), (3, .obj tBig), (4, .v (.int .i64))]
noncomputable def novationref1_SumInts.E (N : Nat) : Env := mkE 19 tab [(24, [novationref1_Whole.S N]), (28, [novationref1_Plus.S N])] [(3, novationref1_SumInts.c_l3)] [] [] N
abbrev novationref1_SumInts.R := Option ((Ty.den tBig))
noncomputable def novationref1_SumInts.s_l3 (x0 : List (Int)) (x2 : Ty.den tBig) (x3 : Ty.den tBig) (x4 : Int) : St := ((((((S0.put 0 (.val (.slice (.int .i64)) x0)).put 2 (.adr 46 [])).putH 46 (some (.obj tBig x2))).put 3 (.adr 62 [])).putH 62 (some (.obj tBig x3))).put 4 (.val (.int .i64) x4))
noncomputable def novationref1_SumInts.e_l3 (N : Nat) (n : Nat) : St → novationref1_SumInts.R := lpF (novationref1_SumInts.E N) Try.f21 [.v (.slice (.int .i64))] [.v tBig] novationref1_SumInts.c_l3 [1, 1, 0, 1, 0, 0] [] n
theorem novationref1_SumInts.h_l3 (N : Nat) (κJ κL : Nat → St → novationref1_SumInts.R) (κ_l3 : St → novationref1_SumInts.R) (x0 : List (Int)) (x2 : Ty.den tBig) (x3 : Ty.den tBig) (x4 : Int) : atQ (novationref1_SumInts.E N) Try.f21 [.v (.slice (.int .i64))] [.v tBig] κJ κL [1, 1, 0, 1, 0, 0] [fun σ => cutK (some novationref1_SumInts.c_l3) σ κ_l3] (novationref1_SumInts.s_l3 x0 x2 x3 x4) = novationref1_SumInts.l3b N (fun x0 x2 x3 x4 => κ_l3 (novationref1_SumInts.s_l3 x0 x2 x3 x4)) x0 x2 x3 x4 := by kernel_rfl
theorem novationref1_SumInts.r_l3 (N : Nat) (κJ κL : Nat → St → novationref1_SumInts.R) (κ_l3 : St → novationref1_SumInts.R) : selT (novationref1_SumInts.E N) κJ κL (tlsF (novationref1_SumInts.E N) Try.f21 [.v (.slice (.int .i64))] [.v tBig] [1, 1, 0, 1, 0, 0] [fun σ => cutK (some novationref1_SumInts.c_l3) σ κ_l3]) = [] := by kernel_rfl
theorem novationref1_SumInts.l3_ok (N : Nat) (n : Nat) : ∀ (x0 : List (Int)) (x2 : Ty.den tBig) (x3 : Ty.den tBig) (x4 : Int), novationref1_SumInts.e_l3 N n (novationref1_SumInts.s_l3 x0 x2 x3 x4) = novationref1_SumInts.l3 N n x0 x2 x3 x4 := by
  induction n with
  | zero => intros; rfl
  | succ n ih =>
    intro x0 x2 x3 x4
    have hr := novationref1_SumInts.r_l3 N nox nox (novationref1_SumInts.e_l3 N n)
    have h := (at_eq (novationref1_SumInts.E N) Try.f21 [.v (.slice (.int .i64))] [.v tBig] hr trivial (novationref1_SumInts.s_l3 x0 x2 x3 x4)).trans (novationref1_SumInts.h_l3 N nox nox (novationref1_SumInts.e_l3 N n) x0 x2 x3 x4)
    have e_me : (fun x0 x2 x3 x4 => (novationref1_SumInts.e_l3 N n) (novationref1_SumInts.s_l3 x0 x2 x3 x4)) = novationref1_SumInts.l3 N n := funext fun x0 => funext fun x2 => funext fun x3 => funext fun x4 => ih x0 x2 x3 x4
    rw [e_me] at h; exact h
theorem novationref1_SumInts.h_top (N : Nat) (κJ κL : Nat → St → novationref1_SumInts.R) (a0 : List (Int)) : atQ (novationref1_SumInts.E N) Try.f21 [.v (.slice (.int .i64))] [.v tBig] κJ κL [] [] (entry ([.v (.slice (.int .i64))] : List AM) (a0) 0 S0) = novationref1_SumInts.b N (fun x0 x2 x3 x4 => κL 3 (novationref1_SumInts.s_l3 x0 x2 x3 x4)) a0 := by kernel_rfl
theorem novationref1_SumInts.r_top (N : Nat) (κJ κL : Nat → St → novationref1_SumInts.R) : selT (novationref1_SumInts.E N) κJ κL (tlsF (novationref1_SumInts.E N) Try.f21 [.v (.slice (.int .i64))] [.v tBig] [] []) = [(κL 3, novationref1_SumInts.e_l3 N N)] := by kernel_rfl
theorem novationref1_SumInts.ok (N : Nat) (a0 : List (Int)) : evF (novationref1_SumInts.E N) Try.f21 [.v (.slice (.int .i64))] [.v tBig] (a0) = novationref1_SumInts N a0 := by
  obtain ⟨κL, q_l3, _⟩ := tabs' nox0 [(3, novationref1_SumInts.e_l3 N N)] (rfl : _ = [3]) (by decide)
  have hr := novationref1_SumInts.r_top N nox κL
  have h := (at_eq (novationref1_SumInts.E N) Try.f21 [.v (.slice (.int .i64))] [.v tBig] hr ⟨q_l3, trivial⟩ (entry ([.v (.slice (.int .i64))] : List AM) (a0) 0 S0)).trans (novationref1_SumInts.h_top N nox κL a0)
  have e_l3 : (fun x0 x2 x3 x4 => novationref1_SumInts.e_l3 N N (novationref1_SumInts.s_l3 x0 x2 x3 x4)) = novationref1_SumInts.l3 N N := funext fun x0 => funext fun x2 => funext fun x3 => funext fun x4 => novationref1_SumInts.l3_ok N N x0 x2 x3 x4
  rw [q_l3, e_l3] at h; exact (evF_at (by kernel_rfl) _).trans h
theorem novationref1_SumInts.env (N : Nat) : EnvOk Try.prog (novationref1_SumInts.E N) := mkE_ok tabok ⟨⟨novationref1_Whole.sum N, trivial⟩, ⟨⟨novationref1_Plus.sum N, trivial⟩, trivial⟩⟩ (by kernel_rfl)
theorem novationref1_SumInts.sum (N : Nat) : SumOk Try.prog 21 (novationref1_SumInts.S N) := sum_mk (novationref1_SumInts.env N) (novationref1_SumInts.S N) Try.func21 (by kernel_rfl) (fun x => novationref1_SumInts.ok N x)

noncomputable def novationref1_Sign.S (N : Nat) : Summ := { args := [.v tBig], res := [.v (.int .i64)], quiet := true, run := fun x => novationref1_Sign N x }
noncomputable def novationref1_Sign.E (N : Nat) : Env := mkE 9 tab [] [] [] [] N
theorem novationref1_Sign.ok (N : Nat) (a0 : Ty.den tBig) : evF (novationref1_Sign.E N) Try.f22 [.v tBig] [.v (.int .i64)] (a0) = novationref1_Sign N a0 := by kernel_rfl
theorem novationref1_Sign.env (N : Nat) : EnvOk Try.prog (novationref1_Sign.E N) := mkE_ok tabok trivial (by kernel_rfl)
theorem novationref1_Sign.sum (N : Nat) : SumOk Try.prog 22 (novationref1_Sign.S N) := sum_mk (novationref1_Sign.env N) (novationref1_Sign.S N) Try.func22 (by kernel_rfl) (fun x => novationref1_Sign.ok N x)

noncomputable def novationref1_Int.S (N : Nat) : Summ := { args := [.v tBig], res := [.v (.int .i64), .v .bool], quiet := true, run := fun x => novationref1_Int N x }
noncomputable def novationref1_Int.E (N : Nat) : Env := mkE 28 tab [(43, [novationref1_digit.S N])] [] [] [] N
theorem novationref1_Int.ok (N : Nat) (a0 : Ty.den tBig) : evF (novationref1_Int.E N) Try.f35 [.v tBig] [.v (.int .i64), .v .bool] (a0) = novationref1_Int N a0 := by kernel_rfl
theorem novationref1_Int.env (N : Nat) : EnvOk Try.prog (novationref1_Int.E N) := mkE_ok tabok ⟨⟨novationref1_digit.sum N, trivial⟩, trivial⟩ (by kernel_rfl)
theorem novationref1_Int.sum (N : Nat) : SumOk Try.prog 35 (novationref1_Int.S N) := sum_mk (novationref1_Int.env N) (novationref1_Int.S N) Try.func35 (by kernel_rfl) (fun x => novationref1_Int.ok N x)

noncomputable def novationref1_Times.S (N : Nat) : Summ := { args := [.v tBig, .v tBig], res := [.v tBig], quiet := false, run := fun x => novationref1_Times N x.1 x.2 }
noncomputable def novationref1_Times.c_j9 : List (Nat × CM) := [(2, .obj tBig), (3, .obj tBig), (4, .obj tBig), (5, .own (.int .u64)), (6, .v (.int .i64)), (7, .v (.int .u64)), (8, .v (.int .i64))]
noncomputable def novationref1_Times.c_l7 : List (Nat × CM) := [(2, .obj tBig), (3, .obj tBig), (4, .obj tBig), (5, .own (.int .u64)), (6, .v (.int .i64)), (7, .v (.int .u64)), (8, .v (.int .i64))]
noncomputable def novationref1_Times.c_l3 : List (Nat × CM) := [(2, .obj tBig), (3, .obj tBig), (4, .obj tBig), (5, .own (.int .u64)), (6, .v (.int .i64))]
noncomputable def novationref1_Times.E (N : Nat) : Env := mkE 71 tab [(43, [novationref1_digit.S N]), (40, [novationref1_made.S N])] [(7, novationref1_Times.c_l7), (3, novationref1_Times.c_l3)] [(9, novationref1_Times.c_j9)] [] N
abbrev novationref1_Times.R := Option ((Ty.den tBig))
noncomputable def novationref1_Times.s_j9 (x2 : Ty.den tBig) (x3 : Ty.den tBig) (x4 : Ty.den tBig) (x5 : List (Int)) (x6 : Int) (x7 : Int) (x8 : Int) : St := (((((((((((S0.put 2 (.adr 46 [])).putH 46 (some (.obj tBig x2))).put 3 (.adr 62 [])).putH 62 (some (.obj tBig x3))).put 4 (.adr 78 [])).putH 78 (some (.obj tBig x4))).put 5 (.ref 94)).putH 94 (some (.own (.int .u64) x5))).put 6 (.val (.int .i64) x6)).put 7 (.val (.int .u64) x7)).put 8 (.val (.int .i64) x8))
noncomputable def novationref1_Times.s_l7 (x2 : Ty.den tBig) (x3 : Ty.den tBig) (x4 : Ty.den tBig) (x5 : List (Int)) (x6 : Int) (x7 : Int) (x8 : Int) : St := (((((((((((S0.put 2 (.adr 46 [])).putH 46 (some (.obj tBig x2))).put 3 (.adr 62 [])).putH 62 (some (.obj tBig x3))).put 4 (.adr 78 [])).putH 78 (some (.obj tBig x4))).put 5 (.ref 94)).putH 94 (some (.own (.int .u64) x5))).put 6 (.val (.int .i64) x6)).put 7 (.val (.int .u64) x7)).put 8 (.val (.int .i64) x8))
noncomputable def novationref1_Times.s_l3 (x2 : Ty.den tBig) (x3 : Ty.den tBig) (x4 : Ty.den tBig) (x5 : List (Int)) (x6 : Int) : St := (((((((((S0.put 2 (.adr 46 [])).putH 46 (some (.obj tBig x2))).put 3 (.adr 62 [])).putH 62 (some (.obj tBig x3))).put 4 (.adr 78 [])).putH 78 (some (.obj tBig x4))).put 5 (.ref 94)).putH 94 (some (.own (.int .u64) x5))).put 6 (.val (.int .i64) x6))
noncomputable def novationref1_Times.e_j9 (N : Nat) (κ_l3 : St → novationref1_Times.R) (κ_l7 : St → novationref1_Times.R) : St → novationref1_Times.R := atF (novationref1_Times.E N) Try.f27 [.v tBig, .v tBig] [.v tBig] [1, 1, 0, 1, 0, 0, 1, 0, 0, 1, 1, 0, 0, 1] [fun σ => cutK (some novationref1_Times.c_l3) σ κ_l3, fun σ => cutK (some novationref1_Times.c_l7) σ κ_l7]
noncomputable def novationref1_Times.e_l7 (N : Nat) (κ_l3 : St → novationref1_Times.R) (n : Nat) : St → novationref1_Times.R := lpF (novationref1_Times.E N) Try.f27 [.v tBig, .v tBig] [.v tBig] novationref1_Times.c_l7 [1, 1, 0, 1, 0, 0, 1, 0, 0, 1, 1, 0, 0] [fun σ => cutK (some novationref1_Times.c_l3) σ κ_l3] n
noncomputable def novationref1_Times.e_l3 (N : Nat) (n : Nat) : St → novationref1_Times.R := lpF (novationref1_Times.E N) Try.f27 [.v tBig, .v tBig] [.v tBig] novationref1_Times.c_l3 [1, 1, 0, 1, 0, 0] [] n
theorem novationref1_Times.h_j9 (N : Nat) (κJ κL : Nat → St → novationref1_Times.R) (κ_l3 : St → novationref1_Times.R) (κ_l7 : St → novationref1_Times.R) (x2 : Ty.den tBig) (x3 : Ty.den tBig) (x4 : Ty.den tBig) (x5 : List (Int)) (x6 : Int) (x7 : Int) (x8 : Int) : atQ (novationref1_Times.E N) Try.f27 [.v tBig, .v tBig] [.v tBig] κJ κL [1, 1, 0, 1, 0, 0, 1, 0, 0, 1, 1, 0, 0, 1] [fun σ => cutK (some novationref1_Times.c_l3) σ κ_l3, fun σ => cutK (some novationref1_Times.c_l7) σ κ_l7] (novationref1_Times.s_j9 x2 x3 x4 x5 x6 x7 x8) = novationref1_Times.j9b N (fun x2 x3 x4 x5 x6 => κ_l3 (novationref1_Times.s_l3 x2 x3 x4 x5 x6)) (fun x2 x3 x4 x5 x6 x7 x8 => κ_l7 (novationref1_Times.s_l7 x2 x3 x4 x5 x6 x7 x8)) x2 x3 x4 x5 x6 x7 x8 := by kernel_rfl
theorem novationref1_Times.r_j9 (N : Nat) (κJ κL : Nat → St → novationref1_Times.R) (κ_l3 : St → novationref1_Times.R) (κ_l7 : St → novationref1_Times.R) : selT (novationref1_Times.E N) κJ κL (tlsF (novationref1_Times.E N) Try.f27 [.v tBig, .v tBig] [.v tBig] [1, 1, 0, 1, 0, 0, 1, 0, 0, 1, 1, 0, 0, 1] [fun σ => cutK (some novationref1_Times.c_l3) σ κ_l3, fun σ => cutK (some novationref1_Times.c_l7) σ κ_l7]) = [] := by kernel_rfl
theorem novationref1_Times.j9_ok (N : Nat) (κ_l3 : St → novationref1_Times.R) (κ_l7 : St → novationref1_Times.R) (x2 : Ty.den tBig) (x3 : Ty.den tBig) (x4 : Ty.den tBig) (x5 : List (Int)) (x6 : Int) (x7 : Int) (x8 : Int) : novationref1_Times.e_j9 N κ_l3 κ_l7 (novationref1_Times.s_j9 x2 x3 x4 x5 x6 x7 x8) = novationref1_Times.j9 N (fun x2 x3 x4 x5 x6 => κ_l3 (novationref1_Times.s_l3 x2 x3 x4 x5 x6)) (fun x2 x3 x4 x5 x6 x7 x8 => κ_l7 (novationref1_Times.s_l7 x2 x3 x4 x5 x6 x7 x8)) x2 x3 x4 x5 x6 x7 x8 := by
  have hr := novationref1_Times.r_j9 N nox nox κ_l3 κ_l7
  have h := (at_eq (novationref1_Times.E N) Try.f27 [.v tBig, .v tBig] [.v tBig] hr trivial (novationref1_Times.s_j9 x2 x3 x4 x5 x6 x7 x8)).trans (novationref1_Times.h_j9 N nox nox κ_l3 κ_l7 x2 x3 x4 x5 x6 x7 x8)
  exact h
theorem novationref1_Times.h_l7 (N : Nat) (κJ κL : Nat → St → novationref1_Times.R) (κ_l3 : St → novationref1_Times.R) (κ_l7 : St → novationref1_Times.R) (x2 : Ty.den tBig) (x3 : Ty.den tBig) (x4 : Ty.den tBig) (x5 : List (Int)) (x6 : Int) (x7 : Int) (x8 : Int) : atQ (novationref1_Times.E N) Try.f27 [.v tBig, .v tBig] [.v tBig] κJ κL [1, 1, 0, 1, 0, 0, 1, 0, 0, 1, 1, 0, 0] [fun σ => cutK (some novationref1_Times.c_l3) σ κ_l3, fun σ => cutK (some novationref1_Times.c_l7) σ κ_l7] (novationref1_Times.s_l7 x2 x3 x4 x5 x6 x7 x8) = novationref1_Times.l7b N (fun x2 x3 x4 x5 x6 x7 x8 => κJ 9 (novationref1_Times.s_j9 x2 x3 x4 x5 x6 x7 x8)) (fun x2 x3 x4 x5 x6 => κ_l3 (novationref1_Times.s_l3 x2 x3 x4 x5 x6)) (fun x2 x3 x4 x5 x6 x7 x8 => κ_l7 (novationref1_Times.s_l7 x2 x3 x4 x5 x6 x7 x8)) x2 x3 x4 x5 x6 x7 x8 := by kernel_rfl
theorem novationref1_Times.r_l7 (N : Nat) (κJ κL : Nat → St → novationref1_Times.R) (κ_l3 : St → novationref1_Times.R) (κ_l7 : St → novationref1_Times.R) : selT (novationref1_Times.E N) κJ κL (tlsF (novationref1_Times.E N) Try.f27 [.v tBig, .v tBig] [.v tBig] [1, 1, 0, 1, 0, 0, 1, 0, 0, 1, 1, 0, 0] [fun σ => cutK (some novationref1_Times.c_l3) σ κ_l3, fun σ => cutK (some novationref1_Times.c_l7) σ κ_l7]) = [(κJ 9, novationref1_Times.e_j9 N κ_l3 κ_l7)] := by kernel_rfl
theorem novationref1_Times.l7_ok (N : Nat) (κ_l3 : St → novationref1_Times.R) (n : Nat) : ∀ (x2 : Ty.den tBig) (x3 : Ty.den tBig) (x4 : Ty.den tBig) (x5 : List (Int)) (x6 : Int) (x7 : Int) (x8 : Int), novationref1_Times.e_l7 N κ_l3 n (novationref1_Times.s_l7 x2 x3 x4 x5 x6 x7 x8) = novationref1_Times.l7 N (fun x2 x3 x4 x5 x6 => κ_l3 (novationref1_Times.s_l3 x2 x3 x4 x5 x6)) n x2 x3 x4 x5 x6 x7 x8 := by
  induction n with
  | zero => intros; rfl
  | succ n ih =>
    intro x2 x3 x4 x5 x6 x7 x8
    obtain ⟨κJ, q_j9, _⟩ := tabs' nox0 [(9, novationref1_Times.e_j9 N κ_l3 (novationref1_Times.e_l7 N κ_l3 n))] (rfl : _ = [9]) (by decide)
    have hr := novationref1_Times.r_l7 N κJ nox κ_l3 (novationref1_Times.e_l7 N κ_l3 n)
    have h := (at_eq (novationref1_Times.E N) Try.f27 [.v tBig, .v tBig] [.v tBig] hr ⟨q_j9, trivial⟩ (novationref1_Times.s_l7 x2 x3 x4 x5 x6 x7 x8)).trans (novationref1_Times.h_l7 N κJ nox κ_l3 (novationref1_Times.e_l7 N κ_l3 n) x2 x3 x4 x5 x6 x7 x8)
    have e_j9 : (fun x2 x3 x4 x5 x6 x7 x8 => novationref1_Times.e_j9 N κ_l3 (novationref1_Times.e_l7 N κ_l3 n) (novationref1_Times.s_j9 x2 x3 x4 x5 x6 x7 x8)) = novationref1_Times.j9 N (fun x2 x3 x4 x5 x6 => κ_l3 (novationref1_Times.s_l3 x2 x3 x4 x5 x6)) (fun x2 x3 x4 x5 x6 x7 x8 => (novationref1_Times.e_l7 N κ_l3 n) (novationref1_Times.s_l7 x2 x3 x4 x5 x6 x7 x8)) := funext fun x2 => funext fun x3 => funext fun x4 => funext fun x5 => funext fun x6 => funext fun x7 => funext fun x8 => novationref1_Times.j9_ok N κ_l3 (novationref1_Times.e_l7 N κ_l3 n) x2 x3 x4 x5 x6 x7 x8
    have e_me : (fun x2 x3 x4 x5 x6 x7 x8 => (novationref1_Times.e_l7 N κ_l3 n) (novationref1_Times.s_l7 x2 x3 x4 x5 x6 x7 x8)) = novationref1_Times.l7 N (fun x2 x3 x4 x5 x6 => κ_l3 (novationref1_Times.s_l3 x2 x3 x4 x5 x6)) n := funext fun x2 => funext fun x3 => funext fun x4 => funext fun x5 => funext fun x6 => funext fun x7 => funext fun x8 => ih x2 x3 x4 x5 x6 x7 x8
    rw [q_j9, e_j9, e_me] at h; exact h
theorem novationref1_Times.h_l3 (N : Nat) (κJ κL : Nat → St → novationref1_Times.R) (κ_l3 : St → novationref1_Times.R) (x2 : Ty.den tBig) (x3 : Ty.den tBig) (x4 : Ty.den tBig) (x5 : List (Int)) (x6 : Int) : atQ (novationref1_Times.E N) Try.f27 [.v tBig, .v tBig] [.v tBig] κJ κL [1, 1, 0, 1, 0, 0] [fun σ => cutK (some novationref1_Times.c_l3) σ κ_l3] (novationref1_Times.s_l3 x2 x3 x4 x5 x6) = novationref1_Times.l3b N (fun x2 x3 x4 x5 x6 x7 x8 => κL 7 (novationref1_Times.s_l7 x2 x3 x4 x5 x6 x7 x8)) (fun x2 x3 x4 x5 x6 => κ_l3 (novationref1_Times.s_l3 x2 x3 x4 x5 x6)) x2 x3 x4 x5 x6 := by kernel_rfl
theorem novationref1_Times.r_l3 (N : Nat) (κJ κL : Nat → St → novationref1_Times.R) (κ_l3 : St → novationref1_Times.R) : selT (novationref1_Times.E N) κJ κL (tlsF (novationref1_Times.E N) Try.f27 [.v tBig, .v tBig] [.v tBig] [1, 1, 0, 1, 0, 0] [fun σ => cutK (some novationref1_Times.c_l3) σ κ_l3]) = [(κL 7, novationref1_Times.e_l7 N κ_l3 N)] := by kernel_rfl
theorem novationref1_Times.l3_ok (N : Nat) (n : Nat) : ∀ (x2 : Ty.den tBig) (x3 : Ty.den tBig) (x4 : Ty.den tBig) (x5 : List (Int)) (x6 : Int), novationref1_Times.e_l3 N n (novationref1_Times.s_l3 x2 x3 x4 x5 x6) = novationref1_Times.l3 N n x2 x3 x4 x5 x6 := by
  induction n with
  | zero => intros; rfl
  | succ n ih =>
    intro x2 x3 x4 x5 x6
    obtain ⟨κL, q_l7, _⟩ := tabs' nox0 [(7, novationref1_Times.e_l7 N (novationref1_Times.e_l3 N n) N)] (rfl : _ = [7]) (by decide)
    have hr := novationref1_Times.r_l3 N nox κL (novationref1_Times.e_l3 N n)
    have h := (at_eq (novationref1_Times.E N) Try.f27 [.v tBig, .v tBig] [.v tBig] hr ⟨q_l7, trivial⟩ (novationref1_Times.s_l3 x2 x3 x4 x5 x6)).trans (novationref1_Times.h_l3 N nox κL (novationref1_Times.e_l3 N n) x2 x3 x4 x5 x6)
    have e_l7 : (fun x2 x3 x4 x5 x6 x7 x8 => novationref1_Times.e_l7 N (novationref1_Times.e_l3 N n) N (novationref1_Times.s_l7 x2 x3 x4 x5 x6 x7 x8)) = novationref1_Times.l7 N (fun x2 x3 x4 x5 x6 => (novationref1_Times.e_l3 N n) (novationref1_Times.s_l3 x2 x3 x4 x5 x6)) N := funext fun x2 => funext fun x3 => funext fun x4 => funext fun x5 => funext fun x6 => funext fun x7 => funext fun x8 => novationref1_Times.l7_ok N (novationref1_Times.e_l3 N n) N x2 x3 x4 x5 x6 x7 x8
    have e_me : (fun x2 x3 x4 x5 x6 => (novationref1_Times.e_l3 N n) (novationref1_Times.s_l3 x2 x3 x4 x5 x6)) = novationref1_Times.l3 N n := funext fun x2 => funext fun x3 => funext fun x4 => funext fun x5 => funext fun x6 => ih x2 x3 x4 x5 x6
    rw [q_l7, e_l7, e_me] at h; exact h
theorem novationref1_Times.h_top (N : Nat) (κJ κL : Nat → St → novationref1_Times.R) (a0 : Ty.den tBig) (a1 : Ty.den tBig) : atQ (novationref1_Times.E N) Try.f27 [.v tBig, .v tBig] [.v tBig] κJ κL [] [] (entry ([.v tBig, .v tBig] : List AM) (a0, a1) 0 S0) = novationref1_Times.b N (fun x2 x3 x4 x5 x6 => κL 3 (novationref1_Times.s_l3 x2 x3 x4 x5 x6)) a0 a1 := by kernel_rfl
theorem novationref1_Times.r_top (N : Nat) (κJ κL : Nat → St → novationref1_Times.R) : selT (novationref1_Times.E N) κJ κL (tlsF (novationref1_Times.E N) Try.f27 [.v tBig, .v tBig] [.v tBig] [] []) = [(κL 3, novationref1_Times.e_l3 N N)] := by kernel_rfl
theorem novationref1_Times.ok (N : Nat) (a0 : Ty.den tBig) (a1 : Ty.den tBig) : evF (novationref1_Times.E N) Try.f27 [.v tBig, .v tBig] [.v tBig] (a0, a1) = novationref1_Times N a0 a1 := by
  obtain ⟨κL, q_l3, _⟩ := tabs' nox0 [(3, novationref1_Times.e_l3 N N)] (rfl : _ = [3]) (by decide)
  have hr := novationref1_Times.r_top N nox κL
  have h := (at_eq (novationref1_Times.E N) Try.f27 [.v tBig, .v tBig] [.v tBig] hr ⟨q_l3, trivial⟩ (entry ([.v tBig, .v tBig] : List AM) (a0, a1) 0 S0)).trans (novationref1_Times.h_top N nox κL a0 a1)
  have e_l3 : (fun x2 x3 x4 x5 x6 => novationref1_Times.e_l3 N N (novationref1_Times.s_l3 x2 x3 x4 x5 x6)) = novationref1_Times.l3 N N := funext fun x2 => funext fun x3 => funext fun x4 => funext fun x5 => funext fun x6 => novationref1_Times.l3_ok N N x2 x3 x4 x5 x6
  rw [q_l3, e_l3] at h; exact (evF_at (by kernel_rfl) _).trans h
theorem novationref1_Times.env (N : Nat) : EnvOk Try.prog (novationref1_Times.E N) := mkE_ok tabok ⟨⟨novationref1_digit.sum N, trivial⟩, ⟨⟨novationref1_made.sum N, trivial⟩, trivial⟩⟩ (by kernel_rfl)
theorem novationref1_Times.sum (N : Nat) : SumOk Try.prog 27 (novationref1_Times.S N) := sum_mk (novationref1_Times.env N) (novationref1_Times.S N) Try.func27 (by kernel_rfl) (fun x => novationref1_Times.ok N x.1 x.2)

noncomputable def novationref1_half.S (N : Nat) : Summ := { args := [.v (.slice (.int .u64))], res := [.v (.slice (.int .u64)), .v (.int .u64)], quiet := false, run := fun x => novationref1_half N x }
noncomputable def novationref1_half.c_l4 : List (Nat × CM) := [(0, .v (.slice (.int .u64))), (4, .own (.int .u64)), (5, .v (.int .u64)), (6, .v (.int .i64))]
noncomputable def novationref1_half.E (N : Nat) : Env := mkE 35 tab [(59, [novationref1_trim.S N])] [(4, novationref1_half.c_l4)] [] [] N
abbrev novationref1_half.R := Option ((List (Int)) × (Int))
noncomputable def novationref1_half.s_l4 (x0 : List (Int)) (x4 : List (Int)) (x5 : Int) (x6 : Int) : St := (((((S0.put 0 (.val (.slice (.int .u64)) x0)).put 4 (.ref 78)).putH 78 (some (.own (.int .u64) x4))).put 5 (.val (.int .u64) x5)).put 6 (.val (.int .i64) x6))
noncomputable def novationref1_half.e_l4 (N : Nat) (n : Nat) : St → novationref1_half.R := lpF (novationref1_half.E N) Try.f55 [.v (.slice (.int .u64))] [.v (.slice (.int .u64)), .v (.int .u64)] novationref1_half.c_l4 [1, 1, 1, 0, 1, 0, 0] [] n
theorem novationref1_half.h_l4 (N : Nat) (κJ κL : Nat → St → novationref1_half.R) (κ_l4 : St → novationref1_half.R) (x0 : List (Int)) (x4 : List (Int)) (x5 : Int) (x6 : Int) : atQ (novationref1_half.E N) Try.f55 [.v (.slice (.int .u64))] [.v (.slice (.int .u64)), .v (.int .u64)] κJ κL [1, 1, 1, 0, 1, 0, 0] [fun σ => cutK (some novationref1_half.c_l4) σ κ_l4] (novationref1_half.s_l4 x0 x4 x5 x6) = novationref1_half.l4b N (fun x0 x4 x5 x6 => κ_l4 (novationref1_half.s_l4 x0 x4 x5 x6)) x0 x4 x5 x6 := by kernel_rfl
theorem novationref1_half.r_l4 (N : Nat) (κJ κL : Nat → St → novationref1_half.R) (κ_l4 : St → novationref1_half.R) : selT (novationref1_half.E N) κJ κL (tlsF (novationref1_half.E N) Try.f55 [.v (.slice (.int .u64))] [.v (.slice (.int .u64)), .v (.int .u64)] [1, 1, 1, 0, 1, 0, 0] [fun σ => cutK (some novationref1_half.c_l4) σ κ_l4]) = [] := by kernel_rfl
theorem novationref1_half.l4_ok (N : Nat) (n : Nat) : ∀ (x0 : List (Int)) (x4 : List (Int)) (x5 : Int) (x6 : Int), novationref1_half.e_l4 N n (novationref1_half.s_l4 x0 x4 x5 x6) = novationref1_half.l4 N n x0 x4 x5 x6 := by
  induction n with
  | zero => intros; rfl
  | succ n ih =>
    intro x0 x4 x5 x6
    have hr := novationref1_half.r_l4 N nox nox (novationref1_half.e_l4 N n)
    have h := (at_eq (novationref1_half.E N) Try.f55 [.v (.slice (.int .u64))] [.v (.slice (.int .u64)), .v (.int .u64)] hr trivial (novationref1_half.s_l4 x0 x4 x5 x6)).trans (novationref1_half.h_l4 N nox nox (novationref1_half.e_l4 N n) x0 x4 x5 x6)
    have e_me : (fun x0 x4 x5 x6 => (novationref1_half.e_l4 N n) (novationref1_half.s_l4 x0 x4 x5 x6)) = novationref1_half.l4 N n := funext fun x0 => funext fun x4 => funext fun x5 => funext fun x6 => ih x0 x4 x5 x6
    rw [e_me] at h; exact h
theorem novationref1_half.h_top (N : Nat) (κJ κL : Nat → St → novationref1_half.R) (a0 : List (Int)) : atQ (novationref1_half.E N) Try.f55 [.v (.slice (.int .u64))] [.v (.slice (.int .u64)), .v (.int .u64)] κJ κL [] [] (entry ([.v (.slice (.int .u64))] : List AM) (a0) 0 S0) = novationref1_half.b N (fun x0 x4 x5 x6 => κL 4 (novationref1_half.s_l4 x0 x4 x5 x6)) a0 := by kernel_rfl
theorem novationref1_half.r_top (N : Nat) (κJ κL : Nat → St → novationref1_half.R) : selT (novationref1_half.E N) κJ κL (tlsF (novationref1_half.E N) Try.f55 [.v (.slice (.int .u64))] [.v (.slice (.int .u64)), .v (.int .u64)] [] []) = [(κL 4, novationref1_half.e_l4 N N)] := by kernel_rfl
theorem novationref1_half.ok (N : Nat) (a0 : List (Int)) : evF (novationref1_half.E N) Try.f55 [.v (.slice (.int .u64))] [.v (.slice (.int .u64)), .v (.int .u64)] (a0) = novationref1_half N a0 := by
  obtain ⟨κL, q_l4, _⟩ := tabs' nox0 [(4, novationref1_half.e_l4 N N)] (rfl : _ = [4]) (by decide)
  have hr := novationref1_half.r_top N nox κL
  have h := (at_eq (novationref1_half.E N) Try.f55 [.v (.slice (.int .u64))] [.v (.slice (.int .u64)), .v (.int .u64)] hr ⟨q_l4, trivial⟩ (entry ([.v (.slice (.int .u64))] : List AM) (a0) 0 S0)).trans (novationref1_half.h_top N nox κL a0)
  have e_l4 : (fun x0 x4 x5 x6 => novationref1_half.e_l4 N N (novationref1_half.s_l4 x0 x4 x5 x6)) = novationref1_half.l4 N N := funext fun x0 => funext fun x4 => funext fun x5 => funext fun x6 => novationref1_half.l4_ok N N x0 x4 x5 x6
  rw [q_l4, e_l4] at h; exact (evF_at (by kernel_rfl) _).trans h
theorem novationref1_half.env (N : Nat) : EnvOk Try.prog (novationref1_half.E N) := mkE_ok tabok ⟨⟨novationref1_trim.sum N, trivial⟩, trivial⟩ (by kernel_rfl)
theorem novationref1_half.sum (N : Nat) : SumOk Try.prog 55 (novationref1_half.S N) := sum_mk (novationref1_half.env N) (novationref1_half.S N) Try.func55 (by kernel_rfl) (fun x => novationref1_half.ok N x)

noncomputable def novationref1_Turned.S (N : Nat) : Summ := { args := [.v tBig], res := [.v tBig], quiet := false, run := fun x => novationref1_Turned N x }
noncomputable def novationref1_Turned.E (N : Nat) : Env := mkE 9 tab [(40, [novationref1_made.S N])] [] [] [] N
theorem novationref1_Turned.ok (N : Nat) (a0 : Ty.den tBig) : evF (novationref1_Turned.E N) Try.f42 [.v tBig] [.v tBig] (a0) = novationref1_Turned N a0 := by kernel_rfl
theorem novationref1_Turned.env (N : Nat) : EnvOk Try.prog (novationref1_Turned.E N) := mkE_ok tabok ⟨⟨novationref1_made.sum N, trivial⟩, trivial⟩ (by kernel_rfl)
theorem novationref1_Turned.sum (N : Nat) : SumOk Try.prog 42 (novationref1_Turned.S N) := sum_mk (novationref1_Turned.env N) (novationref1_Turned.S N) Try.func42 (by kernel_rfl) (fun x => novationref1_Turned.ok N x)

noncomputable def novationref1_Less.S (N : Nat) : Summ := { args := [.v tBig, .v tBig], res := [.v tBig], quiet := false, run := fun x => novationref1_Less N x.1 x.2 }
noncomputable def novationref1_Less.E (N : Nat) : Env := mkE 9 tab [(42, [novationref1_Turned.S N]), (28, [novationref1_Plus.S N])] [] [] [] N
theorem novationref1_Less.ok (N : Nat) (a0 : Ty.den tBig) (a1 : Ty.den tBig) : evF (novationref1_Less.E N) Try.f26 [.v tBig, .v tBig] [.v tBig] (a0, a1) = novationref1_Less N a0 a1 := by kernel_rfl
theorem novationref1_Less.env (N : Nat) : EnvOk Try.prog (novationref1_Less.E N) := mkE_ok tabok ⟨⟨novationref1_Turned.sum N, trivial⟩, ⟨⟨novationref1_Plus.sum N, trivial⟩, trivial⟩⟩ (by kernel_rfl)
theorem novationref1_Less.sum (N : Nat) : SumOk Try.prog 26 (novationref1_Less.S N) := sum_mk (novationref1_Less.env N) (novationref1_Less.S N) Try.func26 (by kernel_rfl) (fun x => novationref1_Less.ok N x.1 x.2)

noncomputable def novationref1_Cmp.S (N : Nat) : Summ := { args := [.v tBig, .v tBig], res := [.v (.int .i64)], quiet := true, run := fun x => novationref1_Cmp N x.1 x.2 }
noncomputable def novationref1_Cmp.E (N : Nat) : Env := mkE 9 tab [(26, [novationref1_Less.S N]), (22, [novationref1_Sign.S N])] [] [] [] N
theorem novationref1_Cmp.ok (N : Nat) (a0 : Ty.den tBig) (a1 : Ty.den tBig) : evF (novationref1_Cmp.E N) Try.f23 [.v tBig, .v tBig] [.v (.int .i64)] (a0, a1) = novationref1_Cmp N a0 a1 := by kernel_rfl
theorem novationref1_Cmp.env (N : Nat) : EnvOk Try.prog (novationref1_Cmp.E N) := mkE_ok tabok ⟨⟨novationref1_Less.sum N, trivial⟩, ⟨⟨novationref1_Sign.sum N, trivial⟩, trivial⟩⟩ (by kernel_rfl)
theorem novationref1_Cmp.sum (N : Nat) : SumOk Try.prog 23 (novationref1_Cmp.S N) := sum_mk (novationref1_Cmp.env N) (novationref1_Cmp.S N) Try.func23 (by kernel_rfl) (fun x => novationref1_Cmp.ok N x.1 x.2)

noncomputable def novationref1_Over.S (N : Nat) : Summ := { args := [.v tBig, .v tBig], res := [.v tBig, .v tBig], quiet := false, run := fun x => novationref1_Over N x.1 x.2 }
noncomputable def novationref1_Over.c_l9 : List (Nat × CM) := [(2, .obj tBig), (3, .obj tBig), (4, .obj tBig), (5, .obj tBig), (6, .own (.int .u64)), (10, .obj tBig), (11, .obj tBig), (12, .v (.int .i64))]
noncomputable def novationref1_Over.c_l3 : List (Nat × CM) := [(2, .obj tBig), (3, .obj tBig), (4, .obj tBig), (5, .obj tBig), (6, .own (.int .u64)), (7, .v (.slice (.int .u64)))]
noncomputable def novationref1_Over.E (N : Nat) : Env := mkE 77 tab [(55, [novationref1_half.S N]), (28, [novationref1_Plus.S N]), (24, [novationref1_Whole.S N]), (23, [novationref1_Cmp.S N]), (26, [novationref1_Less.S N]), (22, [novationref1_Sign.S N]), (42, [novationref1_Turned.S N])] [(9, novationref1_Over.c_l9), (3, novationref1_Over.c_l3)] [] [] N
abbrev novationref1_Over.R := Option ((Ty.den tBig) × (Ty.den tBig))
noncomputable def novationref1_Over.s_l9 (x2 : Ty.den tBig) (x3 : Ty.den tBig) (x4 : Ty.den tBig) (x5 : Ty.den tBig) (x6 : List (Int)) (x10 : Ty.den tBig) (x11 : Ty.den tBig) (x12 : Int) : St := (((((((((((((((S0.put 2 (.adr 46 [])).putH 46 (some (.obj tBig x2))).put 3 (.adr 62 [])).putH 62 (some (.obj tBig x3))).put 4 (.adr 78 [])).putH 78 (some (.obj tBig x4))).put 5 (.adr 94 [])).putH 94 (some (.obj tBig x5))).put 6 (.ref 110)).putH 110 (some (.own (.int .u64) x6))).put 10 (.adr 174 [])).putH 174 (some (.obj tBig x10))).put 11 (.adr 190 [])).putH 190 (some (.obj tBig x11))).put 12 (.val (.int .i64) x12))
noncomputable def novationref1_Over.s_l3 (x2 : Ty.den tBig) (x3 : Ty.den tBig) (x4 : Ty.den tBig) (x5 : Ty.den tBig) (x6 : List (Int)) (x7 : List (Int)) : St := (((((((((((S0.put 2 (.adr 46 [])).putH 46 (some (.obj tBig x2))).put 3 (.adr 62 [])).putH 62 (some (.obj tBig x3))).put 4 (.adr 78 [])).putH 78 (some (.obj tBig x4))).put 5 (.adr 94 [])).putH 94 (some (.obj tBig x5))).put 6 (.ref 110)).putH 110 (some (.own (.int .u64) x6))).put 7 (.val (.slice (.int .u64)) x7))
noncomputable def novationref1_Over.e_l9 (N : Nat) (n : Nat) : St → novationref1_Over.R := lpF (novationref1_Over.E N) Try.f36 [.v tBig, .v tBig] [.v tBig, .v tBig] novationref1_Over.c_l9 [1, 1, 1, 1, 0, 1, 0, 0] [] n
noncomputable def novationref1_Over.e_l3 (N : Nat) (n : Nat) : St → novationref1_Over.R := lpF (novationref1_Over.E N) Try.f36 [.v tBig, .v tBig] [.v tBig, .v tBig] novationref1_Over.c_l3 [1, 1, 0, 1, 0, 0] [] n
theorem novationref1_Over.h_l9 (N : Nat) (κJ κL : Nat → St → novationref1_Over.R) (κ_l9 : St → novationref1_Over.R) (x2 : Ty.den tBig) (x3 : Ty.den tBig) (x4 : Ty.den tBig) (x5 : Ty.den tBig) (x6 : List (Int)) (x10 : Ty.den tBig) (x11 : Ty.den tBig) (x12 : Int) : atQ (novationref1_Over.E N) Try.f36 [.v tBig, .v tBig] [.v tBig, .v tBig] κJ κL [1, 1, 1, 1, 0, 1, 0, 0] [fun σ => cutK (some novationref1_Over.c_l9) σ κ_l9] (novationref1_Over.s_l9 x2 x3 x4 x5 x6 x10 x11 x12) = novationref1_Over.l9b N (fun x2 x3 x4 x5 x6 x10 x11 x12 => κ_l9 (novationref1_Over.s_l9 x2 x3 x4 x5 x6 x10 x11 x12)) x2 x3 x4 x5 x6 x10 x11 x12 := by kernel_rfl
theorem novationref1_Over.r_l9 (N : Nat) (κJ κL : Nat → St → novationref1_Over.R) (κ_l9 : St → novationref1_Over.R) : selT (novationref1_Over.E N) κJ κL (tlsF (novationref1_Over.E N) Try.f36 [.v tBig, .v tBig] [.v tBig, .v tBig] [1, 1, 1, 1, 0, 1, 0, 0] [fun σ => cutK (some novationref1_Over.c_l9) σ κ_l9]) = [] := by kernel_rfl
theorem novationref1_Over.l9_ok (N : Nat) (n : Nat) : ∀ (x2 : Ty.den tBig) (x3 : Ty.den tBig) (x4 : Ty.den tBig) (x5 : Ty.den tBig) (x6 : List (Int)) (x10 : Ty.den tBig) (x11 : Ty.den tBig) (x12 : Int), novationref1_Over.e_l9 N n (novationref1_Over.s_l9 x2 x3 x4 x5 x6 x10 x11 x12) = novationref1_Over.l9 N n x2 x3 x4 x5 x6 x10 x11 x12 := by
  induction n with
  | zero => intros; rfl
  | succ n ih =>
    intro x2 x3 x4 x5 x6 x10 x11 x12
    have hr := novationref1_Over.r_l9 N nox nox (novationref1_Over.e_l9 N n)
    have h := (at_eq (novationref1_Over.E N) Try.f36 [.v tBig, .v tBig] [.v tBig, .v tBig] hr trivial (novationref1_Over.s_l9 x2 x3 x4 x5 x6 x10 x11 x12)).trans (novationref1_Over.h_l9 N nox nox (novationref1_Over.e_l9 N n) x2 x3 x4 x5 x6 x10 x11 x12)
    have e_me : (fun x2 x3 x4 x5 x6 x10 x11 x12 => (novationref1_Over.e_l9 N n) (novationref1_Over.s_l9 x2 x3 x4 x5 x6 x10 x11 x12)) = novationref1_Over.l9 N n := funext fun x2 => funext fun x3 => funext fun x4 => funext fun x5 => funext fun x6 => funext fun x10 => funext fun x11 => funext fun x12 => ih x2 x3 x4 x5 x6 x10 x11 x12
    rw [e_me] at h; exact h
theorem novationref1_Over.h_l3 (N : Nat) (κJ κL : Nat → St → novationref1_Over.R) (κ_l3 : St → novationref1_Over.R) (x2 : Ty.den tBig) (x3 : Ty.den tBig) (x4 : Ty.den tBig) (x5 : Ty.den tBig) (x6 : List (Int)) (x7 : List (Int)) : atQ (novationref1_Over.E N) Try.f36 [.v tBig, .v tBig] [.v tBig, .v tBig] κJ κL [1, 1, 0, 1, 0, 0] [fun σ => cutK (some novationref1_Over.c_l3) σ κ_l3] (novationref1_Over.s_l3 x2 x3 x4 x5 x6 x7) = novationref1_Over.l3b N (fun x2 x3 x4 x5 x6 x10 x11 x12 => κL 9 (novationref1_Over.s_l9 x2 x3 x4 x5 x6 x10 x11 x12)) (fun x2 x3 x4 x5 x6 x7 => κ_l3 (novationref1_Over.s_l3 x2 x3 x4 x5 x6 x7)) x2 x3 x4 x5 x6 x7 := by kernel_rfl
theorem novationref1_Over.r_l3 (N : Nat) (κJ κL : Nat → St → novationref1_Over.R) (κ_l3 : St → novationref1_Over.R) : selT (novationref1_Over.E N) κJ κL (tlsF (novationref1_Over.E N) Try.f36 [.v tBig, .v tBig] [.v tBig, .v tBig] [1, 1, 0, 1, 0, 0] [fun σ => cutK (some novationref1_Over.c_l3) σ κ_l3]) = [(κL 9, novationref1_Over.e_l9 N N)] := by kernel_rfl
theorem novationref1_Over.l3_ok (N : Nat) (n : Nat) : ∀ (x2 : Ty.den tBig) (x3 : Ty.den tBig) (x4 : Ty.den tBig) (x5 : Ty.den tBig) (x6 : List (Int)) (x7 : List (Int)), novationref1_Over.e_l3 N n (novationref1_Over.s_l3 x2 x3 x4 x5 x6 x7) = novationref1_Over.l3 N n x2 x3 x4 x5 x6 x7 := by
  induction n with
  | zero => intros; rfl
  | succ n ih =>
    intro x2 x3 x4 x5 x6 x7
    obtain ⟨κL, q_l9, _⟩ := tabs' nox0 [(9, novationref1_Over.e_l9 N N)] (rfl : _ = [9]) (by decide)
    have hr := novationref1_Over.r_l3 N nox κL (novationref1_Over.e_l3 N n)
    have h := (at_eq (novationref1_Over.E N) Try.f36 [.v tBig, .v tBig] [.v tBig, .v tBig] hr ⟨q_l9, trivial⟩ (novationref1_Over.s_l3 x2 x3 x4 x5 x6 x7)).trans (novationref1_Over.h_l3 N nox κL (novationref1_Over.e_l3 N n) x2 x3 x4 x5 x6 x7)
    have e_l9 : (fun x2 x3 x4 x5 x6 x10 x11 x12 => novationref1_Over.e_l9 N N (novationref1_Over.s_l9 x2 x3 x4 x5 x6 x10 x11 x12)) = novationref1_Over.l9 N N := funext fun x2 => funext fun x3 => funext fun x4 => funext fun x5 => funext fun x6 => funext fun x10 => funext fun x11 => funext fun x12 => novationref1_Over.l9_ok N N x2 x3 x4 x5 x6 x10 x11 x12
    have e_me : (fun x2 x3 x4 x5 x6 x7 => (novationref1_Over.e_l3 N n) (novationref1_Over.s_l3 x2 x3 x4 x5 x6 x7)) = novationref1_Over.l3 N n := funext fun x2 => funext fun x3 => funext fun x4 => funext fun x5 => funext fun x6 => funext fun x7 => ih x2 x3 x4 x5 x6 x7
    rw [q_l9, e_l9, e_me] at h; exact h
theorem novationref1_Over.h_top (N : Nat) (κJ κL : Nat → St → novationref1_Over.R) (a0 : Ty.den tBig) (a1 : Ty.den tBig) : atQ (novationref1_Over.E N) Try.f36 [.v tBig, .v tBig] [.v tBig, .v tBig] κJ κL [] [] (entry ([.v tBig, .v tBig] : List AM) (a0, a1) 0 S0) = novationref1_Over.b N (fun x2 x3 x4 x5 x6 x7 => κL 3 (novationref1_Over.s_l3 x2 x3 x4 x5 x6 x7)) a0 a1 := by kernel_rfl
theorem novationref1_Over.r_top (N : Nat) (κJ κL : Nat → St → novationref1_Over.R) : selT (novationref1_Over.E N) κJ κL (tlsF (novationref1_Over.E N) Try.f36 [.v tBig, .v tBig] [.v tBig, .v tBig] [] []) = [(κL 3, novationref1_Over.e_l3 N N), (κL 9, novationref1_Over.e_l9 N N)] := by kernel_rfl
theorem novationref1_Over.ok (N : Nat) (a0 : Ty.den tBig) (a1 : Ty.den tBig) : evF (novationref1_Over.E N) Try.f36 [.v tBig, .v tBig] [.v tBig, .v tBig] (a0, a1) = novationref1_Over N a0 a1 := by
  obtain ⟨κL, q_l3, q_l9, _⟩ := tabs' nox0 [(3, novationref1_Over.e_l3 N N), (9, novationref1_Over.e_l9 N N)] (rfl : _ = [3, 9]) (by decide)
  have hr := novationref1_Over.r_top N nox κL
  have h := (at_eq (novationref1_Over.E N) Try.f36 [.v tBig, .v tBig] [.v tBig, .v tBig] hr ⟨q_l3, q_l9, trivial⟩ (entry ([.v tBig, .v tBig] : List AM) (a0, a1) 0 S0)).trans (novationref1_Over.h_top N nox κL a0 a1)
  have e_l3 : (fun x2 x3 x4 x5 x6 x7 => novationref1_Over.e_l3 N N (novationref1_Over.s_l3 x2 x3 x4 x5 x6 x7)) = novationref1_Over.l3 N N := funext fun x2 => funext fun x3 => funext fun x4 => funext fun x5 => funext fun x6 => funext fun x7 => novationref1_Over.l3_ok N N x2 x3 x4 x5 x6 x7
  rw [q_l3, e_l3] at h; exact (evF_at (by kernel_rfl) _).trans h
theorem novationref1_Over.env (N : Nat) : EnvOk Try.prog (novationref1_Over.E N) := mkE_ok tabok ⟨⟨novationref1_half.sum N, trivial⟩, ⟨⟨novationref1_Plus.sum N, trivial⟩, ⟨⟨novationref1_Whole.sum N, trivial⟩, ⟨⟨novationref1_Cmp.sum N, trivial⟩, ⟨⟨novationref1_Less.sum N, trivial⟩, ⟨⟨novationref1_Sign.sum N, trivial⟩, ⟨⟨novationref1_Turned.sum N, trivial⟩, trivial⟩⟩⟩⟩⟩⟩⟩ (by kernel_rfl)
theorem novationref1_Over.sum (N : Nat) : SumOk Try.prog 36 (novationref1_Over.S N) := sum_mk (novationref1_Over.env N) (novationref1_Over.S N) Try.func36 (by kernel_rfl) (fun x => novationref1_Over.ok N x.1 x.2)

noncomputable def novationref1_Order.S (N : Nat) : Summ := { args := [.v (.slice (.int .i64))], res := [.own (.int .i64)], quiet := false, run := fun x => novationref1_Order N x }
noncomputable def novationref1_Order.c_j8 : List (Nat × CM) := [(0, .v (.slice (.int .i64))), (3, .own (.int .i64)), (4, .v (.int .i64)), (5, .v (.int .i64))]
noncomputable def novationref1_Order.c_l6 : List (Nat × CM) := [(0, .v (.slice (.int .i64))), (3, .own (.int .i64)), (4, .v (.int .i64)), (5, .v (.int .i64))]
noncomputable def novationref1_Order.c_l3 : List (Nat × CM) := [(0, .v (.slice (.int .i64))), (3, .own (.int .i64)), (4, .v (.int .i64))]
noncomputable def novationref1_Order.E (N : Nat) : Env := mkE 48 tab [] [(6, novationref1_Order.c_l6), (3, novationref1_Order.c_l3)] [(8, novationref1_Order.c_j8)] [] N
abbrev novationref1_Order.R := Option ((List (Int)))
noncomputable def novationref1_Order.s_j8 (x0 : List (Int)) (x3 : List (Int)) (x4 : Int) (x5 : Int) : St := (((((S0.put 0 (.val (.slice (.int .i64)) x0)).put 3 (.ref 62)).putH 62 (some (.own (.int .i64) x3))).put 4 (.val (.int .i64) x4)).put 5 (.val (.int .i64) x5))
noncomputable def novationref1_Order.s_l6 (x0 : List (Int)) (x3 : List (Int)) (x4 : Int) (x5 : Int) : St := (((((S0.put 0 (.val (.slice (.int .i64)) x0)).put 3 (.ref 62)).putH 62 (some (.own (.int .i64) x3))).put 4 (.val (.int .i64) x4)).put 5 (.val (.int .i64) x5))
noncomputable def novationref1_Order.s_l3 (x0 : List (Int)) (x3 : List (Int)) (x4 : Int) : St := ((((S0.put 0 (.val (.slice (.int .i64)) x0)).put 3 (.ref 62)).putH 62 (some (.own (.int .i64) x3))).put 4 (.val (.int .i64) x4))
noncomputable def novationref1_Order.e_j8 (N : Nat) (κ_l3 : St → novationref1_Order.R) : St → novationref1_Order.R := atF (novationref1_Order.E N) Try.f17 [.v (.slice (.int .i64))] [.own (.int .i64)] [1, 1, 0, 1, 0, 0, 1, 0, 0, 1, 1] [fun σ => cutK (some novationref1_Order.c_l3) σ κ_l3]
noncomputable def novationref1_Order.e_l6 (N : Nat) (κ_l3 : St → novationref1_Order.R) (n : Nat) : St → novationref1_Order.R := lpF (novationref1_Order.E N) Try.f17 [.v (.slice (.int .i64))] [.own (.int .i64)] novationref1_Order.c_l6 [1, 1, 0, 1, 0, 0, 1, 0, 0, 1, 0, 0, 0] [fun σ => cutK (some novationref1_Order.c_l3) σ κ_l3] n
noncomputable def novationref1_Order.e_l3 (N : Nat) (n : Nat) : St → novationref1_Order.R := lpF (novationref1_Order.E N) Try.f17 [.v (.slice (.int .i64))] [.own (.int .i64)] novationref1_Order.c_l3 [1, 1, 0, 1, 0, 0] [] n
theorem novationref1_Order.h_j8 (N : Nat) (κJ κL : Nat → St → novationref1_Order.R) (κ_l3 : St → novationref1_Order.R) (x0 : List (Int)) (x3 : List (Int)) (x4 : Int) (x5 : Int) : atQ (novationref1_Order.E N) Try.f17 [.v (.slice (.int .i64))] [.own (.int .i64)] κJ κL [1, 1, 0, 1, 0, 0, 1, 0, 0, 1, 1] [fun σ => cutK (some novationref1_Order.c_l3) σ κ_l3] (novationref1_Order.s_j8 x0 x3 x4 x5) = novationref1_Order.j8b N (fun x0 x3 x4 => κ_l3 (novationref1_Order.s_l3 x0 x3 x4)) x0 x3 x4 x5 := by kernel_rfl
theorem novationref1_Order.r_j8 (N : Nat) (κJ κL : Nat → St → novationref1_Order.R) (κ_l3 : St → novationref1_Order.R) : selT (novationref1_Order.E N) κJ κL (tlsF (novationref1_Order.E N) Try.f17 [.v (.slice (.int .i64))] [.own (.int .i64)] [1, 1, 0, 1, 0, 0, 1, 0, 0, 1, 1] [fun σ => cutK (some novationref1_Order.c_l3) σ κ_l3]) = [] := by kernel_rfl
theorem novationref1_Order.j8_ok (N : Nat) (κ_l3 : St → novationref1_Order.R) (x0 : List (Int)) (x3 : List (Int)) (x4 : Int) (x5 : Int) : novationref1_Order.e_j8 N κ_l3 (novationref1_Order.s_j8 x0 x3 x4 x5) = novationref1_Order.j8 N (fun x0 x3 x4 => κ_l3 (novationref1_Order.s_l3 x0 x3 x4)) x0 x3 x4 x5 := by
  have hr := novationref1_Order.r_j8 N nox nox κ_l3
  have h := (at_eq (novationref1_Order.E N) Try.f17 [.v (.slice (.int .i64))] [.own (.int .i64)] hr trivial (novationref1_Order.s_j8 x0 x3 x4 x5)).trans (novationref1_Order.h_j8 N nox nox κ_l3 x0 x3 x4 x5)
  exact h
theorem novationref1_Order.h_l6 (N : Nat) (κJ κL : Nat → St → novationref1_Order.R) (κ_l3 : St → novationref1_Order.R) (κ_l6 : St → novationref1_Order.R) (x0 : List (Int)) (x3 : List (Int)) (x4 : Int) (x5 : Int) : atQ (novationref1_Order.E N) Try.f17 [.v (.slice (.int .i64))] [.own (.int .i64)] κJ κL [1, 1, 0, 1, 0, 0, 1, 0, 0, 1, 0, 0, 0] [fun σ => cutK (some novationref1_Order.c_l3) σ κ_l3, fun σ => cutK (some novationref1_Order.c_l6) σ κ_l6] (novationref1_Order.s_l6 x0 x3 x4 x5) = novationref1_Order.l6b N (fun x0 x3 x4 x5 => κJ 8 (novationref1_Order.s_j8 x0 x3 x4 x5)) (fun x0 x3 x4 => κ_l3 (novationref1_Order.s_l3 x0 x3 x4)) (fun x0 x3 x4 x5 => κ_l6 (novationref1_Order.s_l6 x0 x3 x4 x5)) x0 x3 x4 x5 := by kernel_rfl
theorem novationref1_Order.r_l6 (N : Nat) (κJ κL : Nat → St → novationref1_Order.R) (κ_l3 : St → novationref1_Order.R) (κ_l6 : St → novationref1_Order.R) : selT (novationref1_Order.E N) κJ κL (tlsF (novationref1_Order.E N) Try.f17 [.v (.slice (.int .i64))] [.own (.int .i64)] [1, 1, 0, 1, 0, 0, 1, 0, 0, 1, 0, 0, 0] [fun σ => cutK (some novationref1_Order.c_l3) σ κ_l3, fun σ => cutK (some novationref1_Order.c_l6) σ κ_l6]) = [(κJ 8, novationref1_Order.e_j8 N κ_l3)] := by kernel_rfl
theorem novationref1_Order.l6_ok (N : Nat) (κ_l3 : St → novationref1_Order.R) (n : Nat) : ∀ (x0 : List (Int)) (x3 : List (Int)) (x4 : Int) (x5 : Int), novationref1_Order.e_l6 N κ_l3 n (novationref1_Order.s_l6 x0 x3 x4 x5) = novationref1_Order.l6 N (fun x0 x3 x4 => κ_l3 (novationref1_Order.s_l3 x0 x3 x4)) n x0 x3 x4 x5 := by
  induction n with
  | zero => intros; rfl
  | succ n ih =>
    intro x0 x3 x4 x5
    obtain ⟨κJ, q_j8, _⟩ := tabs' nox0 [(8, novationref1_Order.e_j8 N κ_l3)] (rfl : _ = [8]) (by decide)
    have hr := novationref1_Order.r_l6 N κJ nox κ_l3 (novationref1_Order.e_l6 N κ_l3 n)
    have h := (at_eq (novationref1_Order.E N) Try.f17 [.v (.slice (.int .i64))] [.own (.int .i64)] hr ⟨q_j8, trivial⟩ (novationref1_Order.s_l6 x0 x3 x4 x5)).trans (novationref1_Order.h_l6 N κJ nox κ_l3 (novationref1_Order.e_l6 N κ_l3 n) x0 x3 x4 x5)
    have e_j8 : (fun x0 x3 x4 x5 => novationref1_Order.e_j8 N κ_l3 (novationref1_Order.s_j8 x0 x3 x4 x5)) = novationref1_Order.j8 N (fun x0 x3 x4 => κ_l3 (novationref1_Order.s_l3 x0 x3 x4)) := funext fun x0 => funext fun x3 => funext fun x4 => funext fun x5 => novationref1_Order.j8_ok N κ_l3 x0 x3 x4 x5
    have e_me : (fun x0 x3 x4 x5 => (novationref1_Order.e_l6 N κ_l3 n) (novationref1_Order.s_l6 x0 x3 x4 x5)) = novationref1_Order.l6 N (fun x0 x3 x4 => κ_l3 (novationref1_Order.s_l3 x0 x3 x4)) n := funext fun x0 => funext fun x3 => funext fun x4 => funext fun x5 => ih x0 x3 x4 x5
    rw [q_j8, e_j8, e_me] at h; exact h
theorem novationref1_Order.h_l3 (N : Nat) (κJ κL : Nat → St → novationref1_Order.R) (κ_l3 : St → novationref1_Order.R) (x0 : List (Int)) (x3 : List (Int)) (x4 : Int) : atQ (novationref1_Order.E N) Try.f17 [.v (.slice (.int .i64))] [.own (.int .i64)] κJ κL [1, 1, 0, 1, 0, 0] [fun σ => cutK (some novationref1_Order.c_l3) σ κ_l3] (novationref1_Order.s_l3 x0 x3 x4) = novationref1_Order.l3b N (fun x0 x3 x4 x5 => κL 6 (novationref1_Order.s_l6 x0 x3 x4 x5)) (fun x0 x3 x4 => κ_l3 (novationref1_Order.s_l3 x0 x3 x4)) x0 x3 x4 := by kernel_rfl
theorem novationref1_Order.r_l3 (N : Nat) (κJ κL : Nat → St → novationref1_Order.R) (κ_l3 : St → novationref1_Order.R) : selT (novationref1_Order.E N) κJ κL (tlsF (novationref1_Order.E N) Try.f17 [.v (.slice (.int .i64))] [.own (.int .i64)] [1, 1, 0, 1, 0, 0] [fun σ => cutK (some novationref1_Order.c_l3) σ κ_l3]) = [(κL 6, novationref1_Order.e_l6 N κ_l3 N), (κJ 8, novationref1_Order.e_j8 N κ_l3)] := by kernel_rfl
theorem novationref1_Order.l3_ok (N : Nat) (n : Nat) : ∀ (x0 : List (Int)) (x3 : List (Int)) (x4 : Int), novationref1_Order.e_l3 N n (novationref1_Order.s_l3 x0 x3 x4) = novationref1_Order.l3 N n x0 x3 x4 := by
  induction n with
  | zero => intros; rfl
  | succ n ih =>
    intro x0 x3 x4
    obtain ⟨κJ, q_j8, _⟩ := tabs' nox0 [(8, novationref1_Order.e_j8 N (novationref1_Order.e_l3 N n))] (rfl : _ = [8]) (by decide)
    obtain ⟨κL, q_l6, _⟩ := tabs' nox0 [(6, novationref1_Order.e_l6 N (novationref1_Order.e_l3 N n) N)] (rfl : _ = [6]) (by decide)
    have hr := novationref1_Order.r_l3 N κJ κL (novationref1_Order.e_l3 N n)
    have h := (at_eq (novationref1_Order.E N) Try.f17 [.v (.slice (.int .i64))] [.own (.int .i64)] hr ⟨q_l6, q_j8, trivial⟩ (novationref1_Order.s_l3 x0 x3 x4)).trans (novationref1_Order.h_l3 N κJ κL (novationref1_Order.e_l3 N n) x0 x3 x4)
    have e_l6 : (fun x0 x3 x4 x5 => novationref1_Order.e_l6 N (novationref1_Order.e_l3 N n) N (novationref1_Order.s_l6 x0 x3 x4 x5)) = novationref1_Order.l6 N (fun x0 x3 x4 => (novationref1_Order.e_l3 N n) (novationref1_Order.s_l3 x0 x3 x4)) N := funext fun x0 => funext fun x3 => funext fun x4 => funext fun x5 => novationref1_Order.l6_ok N (novationref1_Order.e_l3 N n) N x0 x3 x4 x5
    have e_me : (fun x0 x3 x4 => (novationref1_Order.e_l3 N n) (novationref1_Order.s_l3 x0 x3 x4)) = novationref1_Order.l3 N n := funext fun x0 => funext fun x3 => funext fun x4 => ih x0 x3 x4
    rw [q_l6, e_l6, e_me] at h; exact h
theorem novationref1_Order.h_top (N : Nat) (κJ κL : Nat → St → novationref1_Order.R) (a0 : List (Int)) : atQ (novationref1_Order.E N) Try.f17 [.v (.slice (.int .i64))] [.own (.int .i64)] κJ κL [] [] (entry ([.v (.slice (.int .i64))] : List AM) (a0) 0 S0) = novationref1_Order.b N (fun x0 x3 x4 => κL 3 (novationref1_Order.s_l3 x0 x3 x4)) a0 := by kernel_rfl
theorem novationref1_Order.r_top (N : Nat) (κJ κL : Nat → St → novationref1_Order.R) : selT (novationref1_Order.E N) κJ κL (tlsF (novationref1_Order.E N) Try.f17 [.v (.slice (.int .i64))] [.own (.int .i64)] [] []) = [(κL 3, novationref1_Order.e_l3 N N)] := by kernel_rfl
theorem novationref1_Order.ok (N : Nat) (a0 : List (Int)) : evF (novationref1_Order.E N) Try.f17 [.v (.slice (.int .i64))] [.own (.int .i64)] (a0) = novationref1_Order N a0 := by
  obtain ⟨κL, q_l3, _⟩ := tabs' nox0 [(3, novationref1_Order.e_l3 N N)] (rfl : _ = [3]) (by decide)
  have hr := novationref1_Order.r_top N nox κL
  have h := (at_eq (novationref1_Order.E N) Try.f17 [.v (.slice (.int .i64))] [.own (.int .i64)] hr ⟨q_l3, trivial⟩ (entry ([.v (.slice (.int .i64))] : List AM) (a0) 0 S0)).trans (novationref1_Order.h_top N nox κL a0)
  have e_l3 : (fun x0 x3 x4 => novationref1_Order.e_l3 N N (novationref1_Order.s_l3 x0 x3 x4)) = novationref1_Order.l3 N N := funext fun x0 => funext fun x3 => funext fun x4 => novationref1_Order.l3_ok N N x0 x3 x4
  rw [q_l3, e_l3] at h; exact (evF_at (by kernel_rfl) _).trans h
theorem novationref1_Order.env (N : Nat) : EnvOk Try.prog (novationref1_Order.E N) := mkE_ok tabok trivial (by kernel_rfl)
theorem novationref1_Order.sum (N : Nat) : SumOk Try.prog 17 (novationref1_Order.S N) := sum_mk (novationref1_Order.env N) (novationref1_Order.S N) Try.func17 (by kernel_rfl) (fun x => novationref1_Order.ok N x)

noncomputable def novationref1_Split.S (N : Nat) : Summ := { args := [.v (.int .i64), .v (.slice (.int .i64))], res := [.own (.int .i64), .v (.int .i64)], quiet := false, run := fun x => novationref1_Split N x.1 x.2 }
noncomputable def novationref1_Split.c_l22 : List (Nat × CM) := [(9, .own (.int .i64)), (11, .v (.int .i64)), (15, .own (.int .i64)), (16, .v (.int .i64))]
noncomputable def novationref1_Split.c_l14 : List (Nat × CM) := [(0, .v (.int .i64)), (1, .v (.slice (.int .i64))), (6, .obj tBig), (9, .own (.int .i64)), (10, .own (.int .i64)), (11, .v (.int .i64)), (12, .v (.int .i64))]
noncomputable def novationref1_Split.c_j6 : List (Nat × CM) := [(0, .v (.int .i64)), (1, .v (.slice (.int .i64))), (6, .obj tBig)]
noncomputable def novationref1_Split.E (N : Nat) : Env := mkE 112 tab [(34, [novationref1_wrong.S N]), (21, [novationref1_SumInts.S N]), (22, [novationref1_Sign.S N]), (35, [novationref1_Int.S N]), (24, [novationref1_Whole.S N]), (27, [novationref1_Times.S N]), (36, [novationref1_Over.S N]), (17, [novationref1_Order.S N])] [(22, novationref1_Split.c_l22), (14, novationref1_Split.c_l14)] [(6, novationref1_Split.c_j6)] [] N
abbrev novationref1_Split.R := Option ((List (Int)) × (Int))
noncomputable def novationref1_Split.s_l22 (x9 : List (Int)) (x11 : Int) (x15 : List (Int)) (x16 : Int) : St := ((((((S0.put 9 (.ref 158)).putH 158 (some (.own (.int .i64) x9))).put 11 (.val (.int .i64) x11)).put 15 (.ref 254)).putH 254 (some (.own (.int .i64) x15))).put 16 (.val (.int .i64) x16))
noncomputable def novationref1_Split.s_l14 (x0 : Int) (x1 : List (Int)) (x6 : Ty.den tBig) (x9 : List (Int)) (x10 : List (Int)) (x11 : Int) (x12 : Int) : St := ((((((((((S0.put 0 (.val (.int .i64) x0)).put 1 (.val (.slice (.int .i64)) x1)).put 6 (.adr 110 [])).putH 110 (some (.obj tBig x6))).put 9 (.ref 158)).putH 158 (some (.own (.int .i64) x9))).put 10 (.ref 174)).putH 174 (some (.own (.int .i64) x10))).put 11 (.val (.int .i64) x11)).put 12 (.val (.int .i64) x12))
noncomputable def novationref1_Split.s_j6 (x0 : Int) (x1 : List (Int)) (x6 : Ty.den tBig) : St := ((((S0.put 0 (.val (.int .i64) x0)).put 1 (.val (.slice (.int .i64)) x1)).put 6 (.adr 110 [])).putH 110 (some (.obj tBig x6)))
noncomputable def novationref1_Split.e_l22 (N : Nat) (n : Nat) : St → novationref1_Split.R := lpF (novationref1_Split.E N) Try.f11 [.v (.int .i64), .v (.slice (.int .i64))] [.own (.int .i64), .v (.int .i64)] novationref1_Split.c_l22 [1, 1, 1, 1, 1, 1, 1, 1, 1, 1, 0, 1, 0, 0] [] n
noncomputable def novationref1_Split.e_l14 (N : Nat) (n : Nat) : St → novationref1_Split.R := lpF (novationref1_Split.E N) Try.f11 [.v (.int .i64), .v (.slice (.int .i64))] [.own (.int .i64), .v (.int .i64)] novationref1_Split.c_l14 [1, 1, 1, 1, 1, 1, 1, 1, 0, 1, 0, 0] [] n
noncomputable def novationref1_Split.e_j6 (N : Nat) : St → novationref1_Split.R := atF (novationref1_Split.E N) Try.f11 [.v (.int .i64), .v (.slice (.int .i64))] [.own (.int .i64), .v (.int .i64)] [1, 1, 1, 1] []
theorem novationref1_Split.h_l22 (N : Nat) (κJ κL : Nat → St → novationref1_Split.R) (κ_l22 : St → novationref1_Split.R) (x9 : List (Int)) (x11 : Int) (x15 : List (Int)) (x16 : Int) : atQ (novationref1_Split.E N) Try.f11 [.v (.int .i64), .v (.slice (.int .i64))] [.own (.int .i64), .v (.int .i64)] κJ κL [1, 1, 1, 1, 1, 1, 1, 1, 1, 1, 0, 1, 0, 0] [fun σ => cutK (some novationref1_Split.c_l22) σ κ_l22] (novationref1_Split.s_l22 x9 x11 x15 x16) = novationref1_Split.l22b N (fun x9 x11 x15 x16 => κ_l22 (novationref1_Split.s_l22 x9 x11 x15 x16)) x9 x11 x15 x16 := by kernel_rfl
theorem novationref1_Split.r_l22 (N : Nat) (κJ κL : Nat → St → novationref1_Split.R) (κ_l22 : St → novationref1_Split.R) : selT (novationref1_Split.E N) κJ κL (tlsF (novationref1_Split.E N) Try.f11 [.v (.int .i64), .v (.slice (.int .i64))] [.own (.int .i64), .v (.int .i64)] [1, 1, 1, 1, 1, 1, 1, 1, 1, 1, 0, 1, 0, 0] [fun σ => cutK (some novationref1_Split.c_l22) σ κ_l22]) = [] := by kernel_rfl
theorem novationref1_Split.l22_ok (N : Nat) (n : Nat) : ∀ (x9 : List (Int)) (x11 : Int) (x15 : List (Int)) (x16 : Int), novationref1_Split.e_l22 N n (novationref1_Split.s_l22 x9 x11 x15 x16) = novationref1_Split.l22 N n x9 x11 x15 x16 := by
  induction n with
  | zero => intros; rfl
  | succ n ih =>
    intro x9 x11 x15 x16
    have hr := novationref1_Split.r_l22 N nox nox (novationref1_Split.e_l22 N n)
    have h := (at_eq (novationref1_Split.E N) Try.f11 [.v (.int .i64), .v (.slice (.int .i64))] [.own (.int .i64), .v (.int .i64)] hr trivial (novationref1_Split.s_l22 x9 x11 x15 x16)).trans (novationref1_Split.h_l22 N nox nox (novationref1_Split.e_l22 N n) x9 x11 x15 x16)
    have e_me : (fun x9 x11 x15 x16 => (novationref1_Split.e_l22 N n) (novationref1_Split.s_l22 x9 x11 x15 x16)) = novationref1_Split.l22 N n := funext fun x9 => funext fun x11 => funext fun x15 => funext fun x16 => ih x9 x11 x15 x16
    rw [e_me] at h; exact h
theorem novationref1_Split.h_l14 (N : Nat) (κJ κL : Nat → St → novationref1_Split.R) (κ_l14 : St → novationref1_Split.R) (x0 : Int) (x1 : List (Int)) (x6 : Ty.den tBig) (x9 : List (Int)) (x10 : List (Int)) (x11 : Int) (x12 : Int) : atQ (novationref1_Split.E N) Try.f11 [.v (.int .i64), .v (.slice (.int .i64))] [.own (.int .i64), .v (.int .i64)] κJ κL [1, 1, 1, 1, 1, 1, 1, 1, 0, 1, 0, 0] [fun σ => cutK (some novationref1_Split.c_l14) σ κ_l14] (novationref1_Split.s_l14 x0 x1 x6 x9 x10 x11 x12) = novationref1_Split.l14b N (fun x9 x11 x15 x16 => κL 22 (novationref1_Split.s_l22 x9 x11 x15 x16)) (fun x0 x1 x6 x9 x10 x11 x12 => κ_l14 (novationref1_Split.s_l14 x0 x1 x6 x9 x10 x11 x12)) x0 x1 x6 x9 x10 x11 x12 := by kernel_rfl
theorem novationref1_Split.r_l14 (N : Nat) (κJ κL : Nat → St → novationref1_Split.R) (κ_l14 : St → novationref1_Split.R) : selT (novationref1_Split.E N) κJ κL (tlsF (novationref1_Split.E N) Try.f11 [.v (.int .i64), .v (.slice (.int .i64))] [.own (.int .i64), .v (.int .i64)] [1, 1, 1, 1, 1, 1, 1, 1, 0, 1, 0, 0] [fun σ => cutK (some novationref1_Split.c_l14) σ κ_l14]) = [(κL 22, novationref1_Split.e_l22 N N)] := by kernel_rfl
theorem novationref1_Split.l14_ok (N : Nat) (n : Nat) : ∀ (x0 : Int) (x1 : List (Int)) (x6 : Ty.den tBig) (x9 : List (Int)) (x10 : List (Int)) (x11 : Int) (x12 : Int), novationref1_Split.e_l14 N n (novationref1_Split.s_l14 x0 x1 x6 x9 x10 x11 x12) = novationref1_Split.l14 N n x0 x1 x6 x9 x10 x11 x12 := by
  induction n with
  | zero => intros; rfl
  | succ n ih =>
    intro x0 x1 x6 x9 x10 x11 x12
    obtain ⟨κL, q_l22, _⟩ := tabs' nox0 [(22, novationref1_Split.e_l22 N N)] (rfl : _ = [22]) (by decide)
    have hr := novationref1_Split.r_l14 N nox κL (novationref1_Split.e_l14 N n)
    have h := (at_eq (novationref1_Split.E N) Try.f11 [.v (.int .i64), .v (.slice (.int .i64))] [.own (.int .i64), .v (.int .i64)] hr ⟨q_l22, trivial⟩ (novationref1_Split.s_l14 x0 x1 x6 x9 x10 x11 x12)).trans (novationref1_Split.h_l14 N nox κL (novationref1_Split.e_l14 N n) x0 x1 x6 x9 x10 x11 x12)
    have e_l22 : (fun x9 x11 x15 x16 => novationref1_Split.e_l22 N N (novationref1_Split.s_l22 x9 x11 x15 x16)) = novationref1_Split.l22 N N := funext fun x9 => funext fun x11 => funext fun x15 => funext fun x16 => novationref1_Split.l22_ok N N x9 x11 x15 x16
    have e_me : (fun x0 x1 x6 x9 x10 x11 x12 => (novationref1_Split.e_l14 N n) (novationref1_Split.s_l14 x0 x1 x6 x9 x10 x11 x12)) = novationref1_Split.l14 N n := funext fun x0 => funext fun x1 => funext fun x6 => funext fun x9 => funext fun x10 => funext fun x11 => funext fun x12 => ih x0 x1 x6 x9 x10 x11 x12
    rw [q_l22, e_l22, e_me] at h; exact h
theorem novationref1_Split.h_j6 (N : Nat) (κJ κL : Nat → St → novationref1_Split.R) (x0 : Int) (x1 : List (Int)) (x6 : Ty.den tBig) : atQ (novationref1_Split.E N) Try.f11 [.v (.int .i64), .v (.slice (.int .i64))] [.own (.int .i64), .v (.int .i64)] κJ κL [1, 1, 1, 1] [] (novationref1_Split.s_j6 x0 x1 x6) = novationref1_Split.j6b N (fun x0 x1 x6 x9 x10 x11 x12 => κL 14 (novationref1_Split.s_l14 x0 x1 x6 x9 x10 x11 x12)) x0 x1 x6 := by kernel_rfl
theorem novationref1_Split.r_j6 (N : Nat) (κJ κL : Nat → St → novationref1_Split.R) : selT (novationref1_Split.E N) κJ κL (tlsF (novationref1_Split.E N) Try.f11 [.v (.int .i64), .v (.slice (.int .i64))] [.own (.int .i64), .v (.int .i64)] [1, 1, 1, 1] []) = [(κL 14, novationref1_Split.e_l14 N N), (κL 22, novationref1_Split.e_l22 N N)] := by kernel_rfl
theorem novationref1_Split.j6_ok (N : Nat) (x0 : Int) (x1 : List (Int)) (x6 : Ty.den tBig) : novationref1_Split.e_j6 N (novationref1_Split.s_j6 x0 x1 x6) = novationref1_Split.j6 N x0 x1 x6 := by
  obtain ⟨κL, q_l14, q_l22, _⟩ := tabs' nox0 [(14, novationref1_Split.e_l14 N N), (22, novationref1_Split.e_l22 N N)] (rfl : _ = [14, 22]) (by decide)
  have hr := novationref1_Split.r_j6 N nox κL
  have h := (at_eq (novationref1_Split.E N) Try.f11 [.v (.int .i64), .v (.slice (.int .i64))] [.own (.int .i64), .v (.int .i64)] hr ⟨q_l14, q_l22, trivial⟩ (novationref1_Split.s_j6 x0 x1 x6)).trans (novationref1_Split.h_j6 N nox κL x0 x1 x6)
  have e_l14 : (fun x0 x1 x6 x9 x10 x11 x12 => novationref1_Split.e_l14 N N (novationref1_Split.s_l14 x0 x1 x6 x9 x10 x11 x12)) = novationref1_Split.l14 N N := funext fun x0 => funext fun x1 => funext fun x6 => funext fun x9 => funext fun x10 => funext fun x11 => funext fun x12 => novationref1_Split.l14_ok N N x0 x1 x6 x9 x10 x11 x12
  rw [q_l14, e_l14] at h; exact h
theorem novationref1_Split.h_top (N : Nat) (κJ κL : Nat → St → novationref1_Split.R) (a0 : Int) (a1 : List (Int)) : atQ (novationref1_Split.E N) Try.f11 [.v (.int .i64), .v (.slice (.int .i64))] [.own (.int .i64), .v (.int .i64)] κJ κL [] [] (entry ([.v (.int .i64), .v (.slice (.int .i64))] : List AM) (a0, a1) 0 S0) = novationref1_Split.b N (fun x0 x1 x6 => κJ 6 (novationref1_Split.s_j6 x0 x1 x6)) a0 a1 := by kernel_rfl
theorem novationref1_Split.r_top (N : Nat) (κJ κL : Nat → St → novationref1_Split.R) : selT (novationref1_Split.E N) κJ κL (tlsF (novationref1_Split.E N) Try.f11 [.v (.int .i64), .v (.slice (.int .i64))] [.own (.int .i64), .v (.int .i64)] [] []) = [(κJ 6, novationref1_Split.e_j6 N), (κL 14, novationref1_Split.e_l14 N N), (κL 22, novationref1_Split.e_l22 N N)] := by kernel_rfl
theorem novationref1_Split.ok (N : Nat) (a0 : Int) (a1 : List (Int)) : evF (novationref1_Split.E N) Try.f11 [.v (.int .i64), .v (.slice (.int .i64))] [.own (.int .i64), .v (.int .i64)] (a0, a1) = novationref1_Split N a0 a1 := by
  obtain ⟨κJ, q_j6, _⟩ := tabs' nox0 [(6, novationref1_Split.e_j6 N)] (rfl : _ = [6]) (by decide)
  obtain ⟨κL, q_l14, q_l22, _⟩ := tabs' nox0 [(14, novationref1_Split.e_l14 N N), (22, novationref1_Split.e_l22 N N)] (rfl : _ = [14, 22]) (by decide)
  have hr := novationref1_Split.r_top N κJ κL
  have h := (at_eq (novationref1_Split.E N) Try.f11 [.v (.int .i64), .v (.slice (.int .i64))] [.own (.int .i64), .v (.int .i64)] hr ⟨q_j6, q_l14, q_l22, trivial⟩ (entry ([.v (.int .i64), .v (.slice (.int .i64))] : List AM) (a0, a1) 0 S0)).trans (novationref1_Split.h_top N κJ κL a0 a1)
  have e_j6 : (fun x0 x1 x6 => novationref1_Split.e_j6 N (novationref1_Split.s_j6 x0 x1 x6)) = novationref1_Split.j6 N := funext fun x0 => funext fun x1 => funext fun x6 => novationref1_Split.j6_ok N x0 x1 x6
  rw [q_j6, e_j6] at h; exact (evF_at (by kernel_rfl) _).trans h
theorem novationref1_Split.env (N : Nat) : EnvOk Try.prog (novationref1_Split.E N) := mkE_ok tabok ⟨⟨novationref1_wrong.sum N, trivial⟩, ⟨⟨novationref1_SumInts.sum N, trivial⟩, ⟨⟨novationref1_Sign.sum N, trivial⟩, ⟨⟨novationref1_Int.sum N, trivial⟩, ⟨⟨novationref1_Whole.sum N, trivial⟩, ⟨⟨novationref1_Times.sum N, trivial⟩, ⟨⟨novationref1_Over.sum N, trivial⟩, ⟨⟨novationref1_Order.sum N, trivial⟩, trivial⟩⟩⟩⟩⟩⟩⟩⟩ (by kernel_rfl)
theorem novationref1_Split.sum (N : Nat) : SumOk Try.prog 11 (novationref1_Split.S N) := sum_mk (novationref1_Split.env N) (novationref1_Split.S N) Try.func11 (by kernel_rfl) (fun x => novationref1_Split.ok N x.1 x.2)

noncomputable def novationref1_Even.S (N : Nat) : Summ := { args := [.v (.int .i64), .v (.int .i64)], res := [.own (.int .i64), .v (.int .i64)], quiet := false, run := fun x => novationref1_Even N x.1 x.2 }
noncomputable def novationref1_Even.c_l5 : List (Nat × CM) := [(0, .v (.int .i64)), (1, .v (.int .i64)), (6, .own (.int .i64)), (7, .v (.int .i64))]
noncomputable def novationref1_Even.E (N : Nat) : Env := mkE 33 tab [(11, [novationref1_Split.S N])] [(5, novationref1_Even.c_l5)] [] [] N
abbrev novationref1_Even.R := Option ((List (Int)) × (Int))
noncomputable def novationref1_Even.s_l5 (x0 : Int) (x1 : Int) (x6 : List (Int)) (x7 : Int) : St := (((((S0.put 0 (.val (.int .i64) x0)).put 1 (.val (.int .i64) x1)).put 6 (.ref 110)).putH 110 (some (.own (.int .i64) x6))).put 7 (.val (.int .i64) x7))
noncomputable def novationref1_Even.e_l5 (N : Nat) (n : Nat) : St → novationref1_Even.R := lpF (novationref1_Even.E N) Try.f13 [.v (.int .i64), .v (.int .i64)] [.own (.int .i64), .v (.int .i64)] novationref1_Even.c_l5 [1, 1, 1, 0, 1, 0, 0] [] n
theorem novationref1_Even.h_l5 (N : Nat) (κJ κL : Nat → St → novationref1_Even.R) (κ_l5 : St → novationref1_Even.R) (x0 : Int) (x1 : Int) (x6 : List (Int)) (x7 : Int) : atQ (novationref1_Even.E N) Try.f13 [.v (.int .i64), .v (.int .i64)] [.own (.int .i64), .v (.int .i64)] κJ κL [1, 1, 1, 0, 1, 0, 0] [fun σ => cutK (some novationref1_Even.c_l5) σ κ_l5] (novationref1_Even.s_l5 x0 x1 x6 x7) = novationref1_Even.l5b N (fun x0 x1 x6 x7 => κ_l5 (novationref1_Even.s_l5 x0 x1 x6 x7)) x0 x1 x6 x7 := by kernel_rfl
theorem novationref1_Even.r_l5 (N : Nat) (κJ κL : Nat → St → novationref1_Even.R) (κ_l5 : St → novationref1_Even.R) : selT (novationref1_Even.E N) κJ κL (tlsF (novationref1_Even.E N) Try.f13 [.v (.int .i64), .v (.int .i64)] [.own (.int .i64), .v (.int .i64)] [1, 1, 1, 0, 1, 0, 0] [fun σ => cutK (some novationref1_Even.c_l5) σ κ_l5]) = [] := by kernel_rfl
theorem novationref1_Even.l5_ok (N : Nat) (n : Nat) : ∀ (x0 : Int) (x1 : Int) (x6 : List (Int)) (x7 : Int), novationref1_Even.e_l5 N n (novationref1_Even.s_l5 x0 x1 x6 x7) = novationref1_Even.l5 N n x0 x1 x6 x7 := by
  induction n with
  | zero => intros; rfl
  | succ n ih =>
    intro x0 x1 x6 x7
    have hr := novationref1_Even.r_l5 N nox nox (novationref1_Even.e_l5 N n)
    have h := (at_eq (novationref1_Even.E N) Try.f13 [.v (.int .i64), .v (.int .i64)] [.own (.int .i64), .v (.int .i64)] hr trivial (novationref1_Even.s_l5 x0 x1 x6 x7)).trans (novationref1_Even.h_l5 N nox nox (novationref1_Even.e_l5 N n) x0 x1 x6 x7)
    have e_me : (fun x0 x1 x6 x7 => (novationref1_Even.e_l5 N n) (novationref1_Even.s_l5 x0 x1 x6 x7)) = novationref1_Even.l5 N n := funext fun x0 => funext fun x1 => funext fun x6 => funext fun x7 => ih x0 x1 x6 x7
    rw [e_me] at h; exact h
theorem novationref1_Even.h_top (N : Nat) (κJ κL : Nat → St → novationref1_Even.R) (a0 : Int) (a1 : Int) : atQ (novationref1_Even.E N) Try.f13 [.v (.int .i64), .v (.int .i64)] [.own (.int .i64), .v (.int .i64)] κJ κL [] [] (entry ([.v (.int .i64), .v (.int .i64)] : List AM) (a0, a1) 0 S0) = novationref1_Even.b N (fun x0 x1 x6 x7 => κL 5 (novationref1_Even.s_l5 x0 x1 x6 x7)) a0 a1 := by kernel_rfl
theorem novationref1_Even.r_top (N : Nat) (κJ κL : Nat → St → novationref1_Even.R) : selT (novationref1_Even.E N) κJ κL (tlsF (novationref1_Even.E N) Try.f13 [.v (.int .i64), .v (.int .i64)] [.own (.int .i64), .v (.int .i64)] [] []) = [(κL 5, novationref1_Even.e_l5 N N)] := by kernel_rfl
theorem novationref1_Even.ok (N : Nat) (a0 : Int) (a1 : Int) : evF (novationref1_Even.E N) Try.f13 [.v (.int .i64), .v (.int .i64)] [.own (.int .i64), .v (.int .i64)] (a0, a1) = novationref1_Even N a0 a1 := by
  obtain ⟨κL, q_l5, _⟩ := tabs' nox0 [(5, novationref1_Even.e_l5 N N)] (rfl : _ = [5]) (by decide)
  have hr := novationref1_Even.r_top N nox κL
  have h := (at_eq (novationref1_Even.E N) Try.f13 [.v (.int .i64), .v (.int .i64)] [.own (.int .i64), .v (.int .i64)] hr ⟨q_l5, trivial⟩ (entry ([.v (.int .i64), .v (.int .i64)] : List AM) (a0, a1) 0 S0)).trans (novationref1_Even.h_top N nox κL a0 a1)
  have e_l5 : (fun x0 x1 x6 x7 => novationref1_Even.e_l5 N N (novationref1_Even.s_l5 x0 x1 x6 x7)) = novationref1_Even.l5 N N := funext fun x0 => funext fun x1 => funext fun x6 => funext fun x7 => novationref1_Even.l5_ok N N x0 x1 x6 x7
  rw [q_l5, e_l5] at h; exact (evF_at (by kernel_rfl) _).trans h
theorem novationref1_Even.env (N : Nat) : EnvOk Try.prog (novationref1_Even.E N) := mkE_ok tabok ⟨⟨novationref1_Split.sum N, trivial⟩, trivial⟩ (by kernel_rfl)
theorem novationref1_Even.sum (N : Nat) : SumOk Try.prog 13 (novationref1_Even.S N) := sum_mk (novationref1_Even.env N) (novationref1_Even.S N) Try.func13 (by kernel_rfl) (fun x => novationref1_Even.ok N x.1 x.2)

noncomputable def novationlaw3_ShareSplits.S (N : Nat) : Summ := { args := [.v (.int .i64), .v (.slice (.int .i64)), .v (.int .i64)], res := [.v .bool], quiet := true, run := fun x => novationlaw3_ShareSplits N x.1 x.2.1 x.2.2 }
noncomputable def novationlaw3_ShareSplits.E (N : Nat) : Env := mkE 69 tab [(9, [novationlaw3_known.S N]), (10, [share_Split.S N]), (11, [novationref1_Split.S N]), (12, [share_Even.S N]), (13, [novationref1_Even.S N]), (14, [novationhelp_Ints.S N]), (16, [share_Order.S N]), (17, [novationref1_Order.S N]), (15, [novationhelp_Nums.S N])] [] [] [] N
theorem novationlaw3_ShareSplits.ok (N : Nat) (a0 : Int) (a1 : List (Int)) (a2 : Int) : evF (novationlaw3_ShareSplits.E N) Try.f3 [.v (.int .i64), .v (.slice (.int .i64)), .v (.int .i64)] [.v .bool] (a0, a1, a2) = novationlaw3_ShareSplits N a0 a1 a2 := by kernel_rfl
theorem novationlaw3_ShareSplits.env (N : Nat) : EnvOk Try.prog (novationlaw3_ShareSplits.E N) := mkE_ok tabok ⟨⟨novationlaw3_known.sum N, trivial⟩, ⟨⟨share_Split.sum N, trivial⟩, ⟨⟨novationref1_Split.sum N, trivial⟩, ⟨⟨share_Even.sum N, trivial⟩, ⟨⟨novationref1_Even.sum N, trivial⟩, ⟨⟨novationhelp_Ints.sum N, trivial⟩, ⟨⟨share_Order.sum N, trivial⟩, ⟨⟨novationref1_Order.sum N, trivial⟩, ⟨⟨novationhelp_Nums.sum N, trivial⟩, trivial⟩⟩⟩⟩⟩⟩⟩⟩⟩ (by kernel_rfl)
theorem novationlaw3_ShareSplits.sum (N : Nat) : SumOk Try.prog 3 (novationlaw3_ShareSplits.S N) := sum_mk (novationlaw3_ShareSplits.env N) (novationlaw3_ShareSplits.S N) Try.func3 (by kernel_rfl) (fun x => novationlaw3_ShareSplits.ok N x.1 x.2.1 x.2.2)

noncomputable def novationref1_Capped.S (N : Nat) : Summ := { args := [.v (.int .i64), .v (.slice (.int .i64)), .v (.slice (.int .i64))], res := [.own (.int .i64), .v (.int .i64), .v (.int .i64)], quiet := false, run := fun x => novationref1_Capped N x.1 x.2.1 x.2.2 }
noncomputable def novationref1_Capped.c_l19 : List (Nat × CM) := [(1, .v (.slice (.int .i64))), (2, .v (.slice (.int .i64))), (11, .own (.int .i64)), (12, .v (.int .i64)), (13, .v (.int .i64)), (17, .own (.int .i64)), (19, .v (.int .i64))]
noncomputable def novationref1_Capped.c_l12 : List (Nat × CM) := [(1, .v (.slice (.int .i64))), (2, .v (.slice (.int .i64))), (11, .own (.int .i64)), (12, .v (.int .i64)), (13, .v (.int .i64)), (14, .own (.int .i64)), (15, .v .bool), (16, .v (.int .i64))]
noncomputable def novationref1_Capped.c_l8 : List (Nat × CM) := [(1, .v (.slice (.int .i64))), (2, .v (.slice (.int .i64))), (11, .own (.int .i64)), (12, .v (.int .i64)), (13, .v (.int .i64))]
noncomputable def novationref1_Capped.E (N : Nat) : Env := mkE 129 tab [(34, [novationref1_wrong.S N]), (21, [novationref1_SumInts.S N]), (35, [novationref1_Int.S N]), (11, [novationref1_Split.S N])] [(19, novationref1_Capped.c_l19), (12, novationref1_Capped.c_l12), (8, novationref1_Capped.c_l8)] [] [] N
abbrev novationref1_Capped.R := Option ((List (Int)) × (Int) × (Int))
noncomputable def novationref1_Capped.s_l19 (x1 : List (Int)) (x2 : List (Int)) (x11 : List (Int)) (x12 : Int) (x13 : Int) (x17 : List (Int)) (x19 : Int) : St := (((((((((S0.put 1 (.val (.slice (.int .i64)) x1)).put 2 (.val (.slice (.int .i64)) x2)).put 11 (.ref 190)).putH 190 (some (.own (.int .i64) x11))).put 12 (.val (.int .i64) x12)).put 13 (.val (.int .i64) x13)).put 17 (.ref 286)).putH 286 (some (.own (.int .i64) x17))).put 19 (.val (.int .i64) x19))
noncomputable def novationref1_Capped.s_l12 (x1 : List (Int)) (x2 : List (Int)) (x11 : List (Int)) (x12 : Int) (x13 : Int) (x14 : List (Int)) (x15 : Bool) (x16 : Int) : St := ((((((((((S0.put 1 (.val (.slice (.int .i64)) x1)).put 2 (.val (.slice (.int .i64)) x2)).put 11 (.ref 190)).putH 190 (some (.own (.int .i64) x11))).put 12 (.val (.int .i64) x12)).put 13 (.val (.int .i64) x13)).put 14 (.ref 238)).putH 238 (some (.own (.int .i64) x14))).put 15 (.val .bool x15)).put 16 (.val (.int .i64) x16))
noncomputable def novationref1_Capped.s_l8 (x1 : List (Int)) (x2 : List (Int)) (x11 : List (Int)) (x12 : Int) (x13 : Int) : St := ((((((S0.put 1 (.val (.slice (.int .i64)) x1)).put 2 (.val (.slice (.int .i64)) x2)).put 11 (.ref 190)).putH 190 (some (.own (.int .i64) x11))).put 12 (.val (.int .i64) x12)).put 13 (.val (.int .i64) x13))
noncomputable def novationref1_Capped.e_l19 (N : Nat) (κ_l8 : St → novationref1_Capped.R) (n : Nat) : St → novationref1_Capped.R := lpF (novationref1_Capped.E N) Try.f19 [.v (.int .i64), .v (.slice (.int .i64)), .v (.slice (.int .i64))] [.own (.int .i64), .v (.int .i64), .v (.int .i64)] novationref1_Capped.c_l19 [1, 1, 1, 1, 0, 1, 0, 0, 1, 0, 0, 1, 1, 1, 1, 1, 0, 0] [fun σ => cutK (some novationref1_Capped.c_l8) σ κ_l8] n
noncomputable def novationref1_Capped.e_l12 (N : Nat) (κ_l8 : St → novationref1_Capped.R) (n : Nat) : St → novationref1_Capped.R := lpF (novationref1_Capped.E N) Try.f19 [.v (.int .i64), .v (.slice (.int .i64)), .v (.slice (.int .i64))] [.own (.int .i64), .v (.int .i64), .v (.int .i64)] novationref1_Capped.c_l12 [1, 1, 1, 1, 0, 1, 0, 0, 1, 0, 0, 1, 0, 1, 0, 0] [fun σ => cutK (some novationref1_Capped.c_l8) σ κ_l8] n
noncomputable def novationref1_Capped.e_l8 (N : Nat) (n : Nat) : St → novationref1_Capped.R := lpF (novationref1_Capped.E N) Try.f19 [.v (.int .i64), .v (.slice (.int .i64)), .v (.slice (.int .i64))] [.own (.int .i64), .v (.int .i64), .v (.int .i64)] novationref1_Capped.c_l8 [1, 1, 1, 1, 0, 1, 0, 0] [] n
theorem novationref1_Capped.h_l19 (N : Nat) (κJ κL : Nat → St → novationref1_Capped.R) (κ_l8 : St → novationref1_Capped.R) (κ_l19 : St → novationref1_Capped.R) (x1 : List (Int)) (x2 : List (Int)) (x11 : List (Int)) (x12 : Int) (x13 : Int) (x17 : List (Int)) (x19 : Int) : atQ (novationref1_Capped.E N) Try.f19 [.v (.int .i64), .v (.slice (.int .i64)), .v (.slice (.int .i64))] [.own (.int .i64), .v (.int .i64), .v (.int .i64)] κJ κL [1, 1, 1, 1, 0, 1, 0, 0, 1, 0, 0, 1, 1, 1, 1, 1, 0, 0] [fun σ => cutK (some novationref1_Capped.c_l8) σ κ_l8, fun σ => cutK (some novationref1_Capped.c_l19) σ κ_l19] (novationref1_Capped.s_l19 x1 x2 x11 x12 x13 x17 x19) = novationref1_Capped.l19b N (fun x1 x2 x11 x12 x13 => κ_l8 (novationref1_Capped.s_l8 x1 x2 x11 x12 x13)) (fun x1 x2 x11 x12 x13 x17 x19 => κ_l19 (novationref1_Capped.s_l19 x1 x2 x11 x12 x13 x17 x19)) x1 x2 x11 x12 x13 x17 x19 := by kernel_rfl
theorem novationref1_Capped.r_l19 (N : Nat) (κJ κL : Nat → St → novationref1_Capped.R) (κ_l8 : St → novationref1_Capped.R) (κ_l19 : St → novationref1_Capped.R) : selT (novationref1_Capped.E N) κJ κL (tlsF (novationref1_Capped.E N) Try.f19 [.v (.int .i64), .v (.slice (.int .i64)), .v (.slice (.int .i64))] [.own (.int .i64), .v (.int .i64), .v (.int .i64)] [1, 1, 1, 1, 0, 1, 0, 0, 1, 0, 0, 1, 1, 1, 1, 1, 0, 0] [fun σ => cutK (some novationref1_Capped.c_l8) σ κ_l8, fun σ => cutK (some novationref1_Capped.c_l19) σ κ_l19]) = [] := by kernel_rfl
theorem novationref1_Capped.l19_ok (N : Nat) (κ_l8 : St → novationref1_Capped.R) (n : Nat) : ∀ (x1 : List (Int)) (x2 : List (Int)) (x11 : List (Int)) (x12 : Int) (x13 : Int) (x17 : List (Int)) (x19 : Int), novationref1_Capped.e_l19 N κ_l8 n (novationref1_Capped.s_l19 x1 x2 x11 x12 x13 x17 x19) = novationref1_Capped.l19 N (fun x1 x2 x11 x12 x13 => κ_l8 (novationref1_Capped.s_l8 x1 x2 x11 x12 x13)) n x1 x2 x11 x12 x13 x17 x19 := by
  induction n with
  | zero => intros; rfl
  | succ n ih =>
    intro x1 x2 x11 x12 x13 x17 x19
    have hr := novationref1_Capped.r_l19 N nox nox κ_l8 (novationref1_Capped.e_l19 N κ_l8 n)
    have h := (at_eq (novationref1_Capped.E N) Try.f19 [.v (.int .i64), .v (.slice (.int .i64)), .v (.slice (.int .i64))] [.own (.int .i64), .v (.int .i64), .v (.int .i64)] hr trivial (novationref1_Capped.s_l19 x1 x2 x11 x12 x13 x17 x19)).trans (novationref1_Capped.h_l19 N nox nox κ_l8 (novationref1_Capped.e_l19 N κ_l8 n) x1 x2 x11 x12 x13 x17 x19)
    have e_me : (fun x1 x2 x11 x12 x13 x17 x19 => (novationref1_Capped.e_l19 N κ_l8 n) (novationref1_Capped.s_l19 x1 x2 x11 x12 x13 x17 x19)) = novationref1_Capped.l19 N (fun x1 x2 x11 x12 x13 => κ_l8 (novationref1_Capped.s_l8 x1 x2 x11 x12 x13)) n := funext fun x1 => funext fun x2 => funext fun x11 => funext fun x12 => funext fun x13 => funext fun x17 => funext fun x19 => ih x1 x2 x11 x12 x13 x17 x19
    rw [e_me] at h; exact h
theorem novationref1_Capped.h_l12 (N : Nat) (κJ κL : Nat → St → novationref1_Capped.R) (κ_l8 : St → novationref1_Capped.R) (κ_l12 : St → novationref1_Capped.R) (x1 : List (Int)) (x2 : List (Int)) (x11 : List (Int)) (x12 : Int) (x13 : Int) (x14 : List (Int)) (x15 : Bool) (x16 : Int) : atQ (novationref1_Capped.E N) Try.f19 [.v (.int .i64), .v (.slice (.int .i64)), .v (.slice (.int .i64))] [.own (.int .i64), .v (.int .i64), .v (.int .i64)] κJ κL [1, 1, 1, 1, 0, 1, 0, 0, 1, 0, 0, 1, 0, 1, 0, 0] [fun σ => cutK (some novationref1_Capped.c_l8) σ κ_l8, fun σ => cutK (some novationref1_Capped.c_l12) σ κ_l12] (novationref1_Capped.s_l12 x1 x2 x11 x12 x13 x14 x15 x16) = novationref1_Capped.l12b N (fun x1 x2 x11 x12 x13 x17 x19 => κL 19 (novationref1_Capped.s_l19 x1 x2 x11 x12 x13 x17 x19)) (fun x1 x2 x11 x12 x13 => κ_l8 (novationref1_Capped.s_l8 x1 x2 x11 x12 x13)) (fun x1 x2 x11 x12 x13 x14 x15 x16 => κ_l12 (novationref1_Capped.s_l12 x1 x2 x11 x12 x13 x14 x15 x16)) x1 x2 x11 x12 x13 x14 x15 x16 := by kernel_rfl
theorem novationref1_Capped.r_l12 (N : Nat) (κJ κL : Nat → St → novationref1_Capped.R) (κ_l8 : St → novationref1_Capped.R) (κ_l12 : St → novationref1_Capped.R) : selT (novationref1_Capped.E N) κJ κL (tlsF (novationref1_Capped.E N) Try.f19 [.v (.int .i64), .v (.slice (.int .i64)), .v (.slice (.int .i64))] [.own (.int .i64), .v (.int .i64), .v (.int .i64)] [1, 1, 1, 1, 0, 1, 0, 0, 1, 0, 0, 1, 0, 1, 0, 0] [fun σ => cutK (some novationref1_Capped.c_l8) σ κ_l8, fun σ => cutK (some novationref1_Capped.c_l12) σ κ_l12]) = [(κL 19, novationref1_Capped.e_l19 N κ_l8 N)] := by kernel_rfl
theorem novationref1_Capped.l12_ok (N : Nat) (κ_l8 : St → novationref1_Capped.R) (n : Nat) : ∀ (x1 : List (Int)) (x2 : List (Int)) (x11 : List (Int)) (x12 : Int) (x13 : Int) (x14 : List (Int)) (x15 : Bool) (x16 : Int), novationref1_Capped.e_l12 N κ_l8 n (novationref1_Capped.s_l12 x1 x2 x11 x12 x13 x14 x15 x16) = novationref1_Capped.l12 N (fun x1 x2 x11 x12 x13 => κ_l8 (novationref1_Capped.s_l8 x1 x2 x11 x12 x13)) n x1 x2 x11 x12 x13 x14 x15 x16 := by
  induction n with
  | zero => intros; rfl
  | succ n ih =>
    intro x1 x2 x11 x12 x13 x14 x15 x16
    obtain ⟨κL, q_l19, _⟩ := tabs' nox0 [(19, novationref1_Capped.e_l19 N κ_l8 N)] (rfl : _ = [19]) (by decide)
    have hr := novationref1_Capped.r_l12 N nox κL κ_l8 (novationref1_Capped.e_l12 N κ_l8 n)
    have h := (at_eq (novationref1_Capped.E N) Try.f19 [.v (.int .i64), .v (.slice (.int .i64)), .v (.slice (.int .i64))] [.own (.int .i64), .v (.int .i64), .v (.int .i64)] hr ⟨q_l19, trivial⟩ (novationref1_Capped.s_l12 x1 x2 x11 x12 x13 x14 x15 x16)).trans (novationref1_Capped.h_l12 N nox κL κ_l8 (novationref1_Capped.e_l12 N κ_l8 n) x1 x2 x11 x12 x13 x14 x15 x16)
    have e_l19 : (fun x1 x2 x11 x12 x13 x17 x19 => novationref1_Capped.e_l19 N κ_l8 N (novationref1_Capped.s_l19 x1 x2 x11 x12 x13 x17 x19)) = novationref1_Capped.l19 N (fun x1 x2 x11 x12 x13 => κ_l8 (novationref1_Capped.s_l8 x1 x2 x11 x12 x13)) N := funext fun x1 => funext fun x2 => funext fun x11 => funext fun x12 => funext fun x13 => funext fun x17 => funext fun x19 => novationref1_Capped.l19_ok N κ_l8 N x1 x2 x11 x12 x13 x17 x19
    have e_me : (fun x1 x2 x11 x12 x13 x14 x15 x16 => (novationref1_Capped.e_l12 N κ_l8 n) (novationref1_Capped.s_l12 x1 x2 x11 x12 x13 x14 x15 x16)) = novationref1_Capped.l12 N (fun x1 x2 x11 x12 x13 => κ_l8 (novationref1_Capped.s_l8 x1 x2 x11 x12 x13)) n := funext fun x1 => funext fun x2 => funext fun x11 => funext fun x12 => funext fun x13 => funext fun x14 => funext fun x15 => funext fun x16 => ih x1 x2 x11 x12 x13 x14 x15 x16
    rw [q_l19, e_l19, e_me] at h; exact h
theorem novationref1_Capped.h_l8 (N : Nat) (κJ κL : Nat → St → novationref1_Capped.R) (κ_l8 : St → novationref1_Capped.R) (x1 : List (Int)) (x2 : List (Int)) (x11 : List (Int)) (x12 : Int) (x13 : Int) : atQ (novationref1_Capped.E N) Try.f19 [.v (.int .i64), .v (.slice (.int .i64)), .v (.slice (.int .i64))] [.own (.int .i64), .v (.int .i64), .v (.int .i64)] κJ κL [1, 1, 1, 1, 0, 1, 0, 0] [fun σ => cutK (some novationref1_Capped.c_l8) σ κ_l8] (novationref1_Capped.s_l8 x1 x2 x11 x12 x13) = novationref1_Capped.l8b N (fun x1 x2 x11 x12 x13 x14 x15 x16 => κL 12 (novationref1_Capped.s_l12 x1 x2 x11 x12 x13 x14 x15 x16)) (fun x1 x2 x11 x12 x13 => κ_l8 (novationref1_Capped.s_l8 x1 x2 x11 x12 x13)) x1 x2 x11 x12 x13 := by kernel_rfl
theorem novationref1_Capped.r_l8 (N : Nat) (κJ κL : Nat → St → novationref1_Capped.R) (κ_l8 : St → novationref1_Capped.R) : selT (novationref1_Capped.E N) κJ κL (tlsF (novationref1_Capped.E N) Try.f19 [.v (.int .i64), .v (.slice (.int .i64)), .v (.slice (.int .i64))] [.own (.int .i64), .v (.int .i64), .v (.int .i64)] [1, 1, 1, 1, 0, 1, 0, 0] [fun σ => cutK (some novationref1_Capped.c_l8) σ κ_l8]) = [(κL 12, novationref1_Capped.e_l12 N κ_l8 N), (κL 19, novationref1_Capped.e_l19 N κ_l8 N)] := by kernel_rfl
theorem novationref1_Capped.l8_ok (N : Nat) (n : Nat) : ∀ (x1 : List (Int)) (x2 : List (Int)) (x11 : List (Int)) (x12 : Int) (x13 : Int), novationref1_Capped.e_l8 N n (novationref1_Capped.s_l8 x1 x2 x11 x12 x13) = novationref1_Capped.l8 N n x1 x2 x11 x12 x13 := by
  induction n with
  | zero => intros; rfl
  | succ n ih =>
    intro x1 x2 x11 x12 x13
    obtain ⟨κL, q_l12, q_l19, _⟩ := tabs' nox0 [(12, novationref1_Capped.e_l12 N (novationref1_Capped.e_l8 N n) N), (19, novationref1_Capped.e_l19 N (novationref1_Capped.e_l8 N n) N)] (rfl : _ = [12, 19]) (by decide)
    have hr := novationref1_Capped.r_l8 N nox κL (novationref1_Capped.e_l8 N n)
    have h := (at_eq (novationref1_Capped.E N) Try.f19 [.v (.int .i64), .v (.slice (.int .i64)), .v (.slice (.int .i64))] [.own (.int .i64), .v (.int .i64), .v (.int .i64)] hr ⟨q_l12, q_l19, trivial⟩ (novationref1_Capped.s_l8 x1 x2 x11 x12 x13)).trans (novationref1_Capped.h_l8 N nox κL (novationref1_Capped.e_l8 N n) x1 x2 x11 x12 x13)
    have e_l12 : (fun x1 x2 x11 x12 x13 x14 x15 x16 => novationref1_Capped.e_l12 N (novationref1_Capped.e_l8 N n) N (novationref1_Capped.s_l12 x1 x2 x11 x12 x13 x14 x15 x16)) = novationref1_Capped.l12 N (fun x1 x2 x11 x12 x13 => (novationref1_Capped.e_l8 N n) (novationref1_Capped.s_l8 x1 x2 x11 x12 x13)) N := funext fun x1 => funext fun x2 => funext fun x11 => funext fun x12 => funext fun x13 => funext fun x14 => funext fun x15 => funext fun x16 => novationref1_Capped.l12_ok N (novationref1_Capped.e_l8 N n) N x1 x2 x11 x12 x13 x14 x15 x16
    have e_me : (fun x1 x2 x11 x12 x13 => (novationref1_Capped.e_l8 N n) (novationref1_Capped.s_l8 x1 x2 x11 x12 x13)) = novationref1_Capped.l8 N n := funext fun x1 => funext fun x2 => funext fun x11 => funext fun x12 => funext fun x13 => ih x1 x2 x11 x12 x13
    rw [q_l12, e_l12, e_me] at h; exact h
theorem novationref1_Capped.h_top (N : Nat) (κJ κL : Nat → St → novationref1_Capped.R) (a0 : Int) (a1 : List (Int)) (a2 : List (Int)) : atQ (novationref1_Capped.E N) Try.f19 [.v (.int .i64), .v (.slice (.int .i64)), .v (.slice (.int .i64))] [.own (.int .i64), .v (.int .i64), .v (.int .i64)] κJ κL [] [] (entry ([.v (.int .i64), .v (.slice (.int .i64)), .v (.slice (.int .i64))] : List AM) (a0, a1, a2) 0 S0) = novationref1_Capped.b N (fun x1 x2 x11 x12 x13 => κL 8 (novationref1_Capped.s_l8 x1 x2 x11 x12 x13)) a0 a1 a2 := by kernel_rfl
theorem novationref1_Capped.r_top (N : Nat) (κJ κL : Nat → St → novationref1_Capped.R) : selT (novationref1_Capped.E N) κJ κL (tlsF (novationref1_Capped.E N) Try.f19 [.v (.int .i64), .v (.slice (.int .i64)), .v (.slice (.int .i64))] [.own (.int .i64), .v (.int .i64), .v (.int .i64)] [] []) = [(κL 8, novationref1_Capped.e_l8 N N)] := by kernel_rfl
theorem novationref1_Capped.ok (N : Nat) (a0 : Int) (a1 : List (Int)) (a2 : List (Int)) : evF (novationref1_Capped.E N) Try.f19 [.v (.int .i64), .v (.slice (.int .i64)), .v (.slice (.int .i64))] [.own (.int .i64), .v (.int .i64), .v (.int .i64)] (a0, a1, a2) = novationref1_Capped N a0 a1 a2 := by
  obtain ⟨κL, q_l8, _⟩ := tabs' nox0 [(8, novationref1_Capped.e_l8 N N)] (rfl : _ = [8]) (by decide)
  have hr := novationref1_Capped.r_top N nox κL
  have h := (at_eq (novationref1_Capped.E N) Try.f19 [.v (.int .i64), .v (.slice (.int .i64)), .v (.slice (.int .i64))] [.own (.int .i64), .v (.int .i64), .v (.int .i64)] hr ⟨q_l8, trivial⟩ (entry ([.v (.int .i64), .v (.slice (.int .i64)), .v (.slice (.int .i64))] : List AM) (a0, a1, a2) 0 S0)).trans (novationref1_Capped.h_top N nox κL a0 a1 a2)
  have e_l8 : (fun x1 x2 x11 x12 x13 => novationref1_Capped.e_l8 N N (novationref1_Capped.s_l8 x1 x2 x11 x12 x13)) = novationref1_Capped.l8 N N := funext fun x1 => funext fun x2 => funext fun x11 => funext fun x12 => funext fun x13 => novationref1_Capped.l8_ok N N x1 x2 x11 x12 x13
  rw [q_l8, e_l8] at h; exact (evF_at (by kernel_rfl) _).trans h
theorem novationref1_Capped.env (N : Nat) : EnvOk Try.prog (novationref1_Capped.E N) := mkE_ok tabok ⟨⟨novationref1_wrong.sum N, trivial⟩, ⟨⟨novationref1_SumInts.sum N, trivial⟩, ⟨⟨novationref1_Int.sum N, trivial⟩, ⟨⟨novationref1_Split.sum N, trivial⟩, trivial⟩⟩⟩⟩ (by kernel_rfl)
theorem novationref1_Capped.sum (N : Nat) : SumOk Try.prog 19 (novationref1_Capped.S N) := sum_mk (novationref1_Capped.env N) (novationref1_Capped.S N) Try.func19 (by kernel_rfl) (fun x => novationref1_Capped.ok N x.1 x.2.1 x.2.2)

noncomputable def novationlaw3_ShareCaps.S (N : Nat) : Summ := { args := [.v (.int .i64), .v (.slice (.int .i64)), .v (.slice (.int .i64))], res := [.v .bool], quiet := true, run := fun x => novationlaw3_ShareCaps N x.1 x.2.1 x.2.2 }
noncomputable def novationlaw3_ShareCaps.E (N : Nat) : Env := mkE 52 tab [(9, [novationlaw3_known.S N]), (18, [share_Capped.S N]), (19, [novationref1_Capped.S N]), (14, [novationhelp_Ints.S N])] [] [] [] N
theorem novationlaw3_ShareCaps.ok (N : Nat) (a0 : Int) (a1 : List (Int)) (a2 : List (Int)) : evF (novationlaw3_ShareCaps.E N) Try.f4 [.v (.int .i64), .v (.slice (.int .i64)), .v (.slice (.int .i64))] [.v .bool] (a0, a1, a2) = novationlaw3_ShareCaps N a0 a1 a2 := by kernel_rfl
theorem novationlaw3_ShareCaps.env (N : Nat) : EnvOk Try.prog (novationlaw3_ShareCaps.E N) := mkE_ok tabok ⟨⟨novationlaw3_known.sum N, trivial⟩, ⟨⟨share_Capped.sum N, trivial⟩, ⟨⟨novationref1_Capped.sum N, trivial⟩, ⟨⟨novationhelp_Ints.sum N, trivial⟩, trivial⟩⟩⟩⟩ (by kernel_rfl)
theorem novationlaw3_ShareCaps.sum (N : Nat) : SumOk Try.prog 4 (novationlaw3_ShareCaps.S N) := sum_mk (novationlaw3_ShareCaps.env N) (novationlaw3_ShareCaps.S N) Try.func4 (by kernel_rfl) (fun x => novationlaw3_ShareCaps.ok N x.1 x.2.1 x.2.2)

noncomputable def novationlaw3_weights.S (N : Nat) : Summ := { args := [.v (.slice (.int .u32))], res := [.own (.int .i64)], quiet := false, run := fun x => novationlaw3_weights N x }
noncomputable def novationlaw3_weights.c_l3 : List (Nat × CM) := [(0, .v (.slice (.int .u32))), (3, .own (.int .i64)), (4, .v (.int .i64))]
noncomputable def novationlaw3_weights.E (N : Nat) : Env := mkE 32 tab [] [(3, novationlaw3_weights.c_l3)] [] [] N
abbrev novationlaw3_weights.R := Option ((List (Int)))
noncomputable def novationlaw3_weights.s_l3 (x0 : List (Int)) (x3 : List (Int)) (x4 : Int) : St := ((((S0.put 0 (.val (.slice (.int .u32)) x0)).put 3 (.ref 62)).putH 62 (some (.own (.int .i64) x3))).put 4 (.val (.int .i64) x4))
noncomputable def novationlaw3_weights.e_l3 (N : Nat) (n : Nat) : St → novationlaw3_weights.R := lpF (novationlaw3_weights.E N) Try.f20 [.v (.slice (.int .u32))] [.own (.int .i64)] novationlaw3_weights.c_l3 [1, 1, 0, 1, 0, 0] [] n
theorem novationlaw3_weights.h_l3 (N : Nat) (κJ κL : Nat → St → novationlaw3_weights.R) (κ_l3 : St → novationlaw3_weights.R) (x0 : List (Int)) (x3 : List (Int)) (x4 : Int) : atQ (novationlaw3_weights.E N) Try.f20 [.v (.slice (.int .u32))] [.own (.int .i64)] κJ κL [1, 1, 0, 1, 0, 0] [fun σ => cutK (some novationlaw3_weights.c_l3) σ κ_l3] (novationlaw3_weights.s_l3 x0 x3 x4) = novationlaw3_weights.l3b N (fun x0 x3 x4 => κ_l3 (novationlaw3_weights.s_l3 x0 x3 x4)) x0 x3 x4 := by kernel_rfl
theorem novationlaw3_weights.r_l3 (N : Nat) (κJ κL : Nat → St → novationlaw3_weights.R) (κ_l3 : St → novationlaw3_weights.R) : selT (novationlaw3_weights.E N) κJ κL (tlsF (novationlaw3_weights.E N) Try.f20 [.v (.slice (.int .u32))] [.own (.int .i64)] [1, 1, 0, 1, 0, 0] [fun σ => cutK (some novationlaw3_weights.c_l3) σ κ_l3]) = [] := by kernel_rfl
theorem novationlaw3_weights.l3_ok (N : Nat) (n : Nat) : ∀ (x0 : List (Int)) (x3 : List (Int)) (x4 : Int), novationlaw3_weights.e_l3 N n (novationlaw3_weights.s_l3 x0 x3 x4) = novationlaw3_weights.l3 N n x0 x3 x4 := by
  induction n with
  | zero => intros; rfl
  | succ n ih =>
    intro x0 x3 x4
    have hr := novationlaw3_weights.r_l3 N nox nox (novationlaw3_weights.e_l3 N n)
    have h := (at_eq (novationlaw3_weights.E N) Try.f20 [.v (.slice (.int .u32))] [.own (.int .i64)] hr trivial (novationlaw3_weights.s_l3 x0 x3 x4)).trans (novationlaw3_weights.h_l3 N nox nox (novationlaw3_weights.e_l3 N n) x0 x3 x4)
    have e_me : (fun x0 x3 x4 => (novationlaw3_weights.e_l3 N n) (novationlaw3_weights.s_l3 x0 x3 x4)) = novationlaw3_weights.l3 N n := funext fun x0 => funext fun x3 => funext fun x4 => ih x0 x3 x4
    rw [e_me] at h; exact h
theorem novationlaw3_weights.h_top (N : Nat) (κJ κL : Nat → St → novationlaw3_weights.R) (a0 : List (Int)) : atQ (novationlaw3_weights.E N) Try.f20 [.v (.slice (.int .u32))] [.own (.int .i64)] κJ κL [] [] (entry ([.v (.slice (.int .u32))] : List AM) (a0) 0 S0) = novationlaw3_weights.b N (fun x0 x3 x4 => κL 3 (novationlaw3_weights.s_l3 x0 x3 x4)) a0 := by kernel_rfl
theorem novationlaw3_weights.r_top (N : Nat) (κJ κL : Nat → St → novationlaw3_weights.R) : selT (novationlaw3_weights.E N) κJ κL (tlsF (novationlaw3_weights.E N) Try.f20 [.v (.slice (.int .u32))] [.own (.int .i64)] [] []) = [(κL 3, novationlaw3_weights.e_l3 N N)] := by kernel_rfl
theorem novationlaw3_weights.ok (N : Nat) (a0 : List (Int)) : evF (novationlaw3_weights.E N) Try.f20 [.v (.slice (.int .u32))] [.own (.int .i64)] (a0) = novationlaw3_weights N a0 := by
  obtain ⟨κL, q_l3, _⟩ := tabs' nox0 [(3, novationlaw3_weights.e_l3 N N)] (rfl : _ = [3]) (by decide)
  have hr := novationlaw3_weights.r_top N nox κL
  have h := (at_eq (novationlaw3_weights.E N) Try.f20 [.v (.slice (.int .u32))] [.own (.int .i64)] hr ⟨q_l3, trivial⟩ (entry ([.v (.slice (.int .u32))] : List AM) (a0) 0 S0)).trans (novationlaw3_weights.h_top N nox κL a0)
  have e_l3 : (fun x0 x3 x4 => novationlaw3_weights.e_l3 N N (novationlaw3_weights.s_l3 x0 x3 x4)) = novationlaw3_weights.l3 N N := funext fun x0 => funext fun x3 => funext fun x4 => novationlaw3_weights.l3_ok N N x0 x3 x4
  rw [q_l3, e_l3] at h; exact (evF_at (by kernel_rfl) _).trans h
theorem novationlaw3_weights.env (N : Nat) : EnvOk Try.prog (novationlaw3_weights.E N) := mkE_ok tabok trivial (by kernel_rfl)
theorem novationlaw3_weights.sum (N : Nat) : SumOk Try.prog 20 (novationlaw3_weights.S N) := sum_mk (novationlaw3_weights.env N) (novationlaw3_weights.S N) Try.func20 (by kernel_rfl) (fun x => novationlaw3_weights.ok N x)

noncomputable def novationref1_Sized.S (N : Nat) : Summ := { args := [.v tBig], res := [.v tBig], quiet := false, run := fun x => novationref1_Sized N x }
noncomputable def novationref1_Sized.E (N : Nat) : Env := mkE 6 tab [(40, [novationref1_made.S N])] [] [] [] N
theorem novationref1_Sized.ok (N : Nat) (a0 : Ty.den tBig) : evF (novationref1_Sized.E N) Try.f25 [.v tBig] [.v tBig] (a0) = novationref1_Sized N a0 := by kernel_rfl
theorem novationref1_Sized.env (N : Nat) : EnvOk Try.prog (novationref1_Sized.E N) := mkE_ok tabok ⟨⟨novationref1_made.sum N, trivial⟩, trivial⟩ (by kernel_rfl)
theorem novationref1_Sized.sum (N : Nat) : SumOk Try.prog 25 (novationref1_Sized.S N) := sum_mk (novationref1_Sized.env N) (novationref1_Sized.S N) Try.func25 (by kernel_rfl) (fun x => novationref1_Sized.ok N x)

noncomputable def novationlaw3_ShareTotal.S (N : Nat) : Summ := { args := [.v (.int .u64), .v (.slice (.int .u32))], res := [.v .bool], quiet := true, run := fun x => novationlaw3_ShareTotal N x.1 x.2 }
noncomputable def novationlaw3_ShareTotal.c_l17 : List (Nat × CM) := [(5, .v (.slice (.int .i64))), (6, .v (.int .i64)), (7, .obj tBig), (8, .v (.slice (.int .i64))), (10, .v (.int .i64)), (12, .v (.int .i64))]
noncomputable def novationlaw3_ShareTotal.c_l11 : List (Nat × CM) := [(5, .v (.slice (.int .i64))), (6, .v (.int .i64)), (7, .obj tBig), (8, .v (.slice (.int .i64))), (10, .v (.int .i64))]
noncomputable def novationlaw3_ShareTotal.E (N : Nat) : Env := mkE 162 tab [(9, [novationlaw3_known.S N]), (20, [novationlaw3_weights.S N]), (21, [novationref1_SumInts.S N]), (10, [share_Split.S N]), (22, [novationref1_Sign.S N]), (24, [novationref1_Whole.S N]), (23, [novationref1_Cmp.S N]), (27, [novationref1_Times.S N]), (26, [novationref1_Less.S N]), (25, [novationref1_Sized.S N])] [(17, novationlaw3_ShareTotal.c_l17), (11, novationlaw3_ShareTotal.c_l11)] [] [] N
abbrev novationlaw3_ShareTotal.R := Option ((Bool))
noncomputable def novationlaw3_ShareTotal.s_l17 (x5 : List (Int)) (x6 : Int) (x7 : Ty.den tBig) (x8 : List (Int)) (x10 : Int) (x12 : Int) : St := (((((((S0.put 5 (.val (.slice (.int .i64)) x5)).put 6 (.val (.int .i64) x6)).put 7 (.adr 126 [])).putH 126 (some (.obj tBig x7))).put 8 (.val (.slice (.int .i64)) x8)).put 10 (.val (.int .i64) x10)).put 12 (.val (.int .i64) x12))
noncomputable def novationlaw3_ShareTotal.s_l11 (x5 : List (Int)) (x6 : Int) (x7 : Ty.den tBig) (x8 : List (Int)) (x10 : Int) : St := ((((((S0.put 5 (.val (.slice (.int .i64)) x5)).put 6 (.val (.int .i64) x6)).put 7 (.adr 126 [])).putH 126 (some (.obj tBig x7))).put 8 (.val (.slice (.int .i64)) x8)).put 10 (.val (.int .i64) x10))
noncomputable def novationlaw3_ShareTotal.e_l17 (N : Nat) (κ_l11 : St → novationlaw3_ShareTotal.R) (n : Nat) : St → novationlaw3_ShareTotal.R := lpF (novationlaw3_ShareTotal.E N) Try.f5 [.v (.int .u64), .v (.slice (.int .u32))] [.v .bool] novationlaw3_ShareTotal.c_l17 [1, 1, 1, 1, 1, 1, 1, 0, 1, 0, 0, 1, 0, 0, 1, 1, 1, 0, 0] [fun σ => cutK (some novationlaw3_ShareTotal.c_l11) σ κ_l11] n
noncomputable def novationlaw3_ShareTotal.e_l11 (N : Nat) (n : Nat) : St → novationlaw3_ShareTotal.R := lpF (novationlaw3_ShareTotal.E N) Try.f5 [.v (.int .u64), .v (.slice (.int .u32))] [.v .bool] novationlaw3_ShareTotal.c_l11 [1, 1, 1, 1, 1, 1, 1, 0, 1, 0, 0] [] n
theorem novationlaw3_ShareTotal.h_l17 (N : Nat) (κJ κL : Nat → St → novationlaw3_ShareTotal.R) (κ_l11 : St → novationlaw3_ShareTotal.R) (κ_l17 : St → novationlaw3_ShareTotal.R) (x5 : List (Int)) (x6 : Int) (x7 : Ty.den tBig) (x8 : List (Int)) (x10 : Int) (x12 : Int) : atQ (novationlaw3_ShareTotal.E N) Try.f5 [.v (.int .u64), .v (.slice (.int .u32))] [.v .bool] κJ κL [1, 1, 1, 1, 1, 1, 1, 0, 1, 0, 0, 1, 0, 0, 1, 1, 1, 0, 0] [fun σ => cutK (some novationlaw3_ShareTotal.c_l11) σ κ_l11, fun σ => cutK (some novationlaw3_ShareTotal.c_l17) σ κ_l17] (novationlaw3_ShareTotal.s_l17 x5 x6 x7 x8 x10 x12) = novationlaw3_ShareTotal.l17b N (fun x5 x6 x7 x8 x10 => κ_l11 (novationlaw3_ShareTotal.s_l11 x5 x6 x7 x8 x10)) (fun x5 x6 x7 x8 x10 x12 => κ_l17 (novationlaw3_ShareTotal.s_l17 x5 x6 x7 x8 x10 x12)) x5 x6 x7 x8 x10 x12 := by kernel_rfl
theorem novationlaw3_ShareTotal.r_l17 (N : Nat) (κJ κL : Nat → St → novationlaw3_ShareTotal.R) (κ_l11 : St → novationlaw3_ShareTotal.R) (κ_l17 : St → novationlaw3_ShareTotal.R) : selT (novationlaw3_ShareTotal.E N) κJ κL (tlsF (novationlaw3_ShareTotal.E N) Try.f5 [.v (.int .u64), .v (.slice (.int .u32))] [.v .bool] [1, 1, 1, 1, 1, 1, 1, 0, 1, 0, 0, 1, 0, 0, 1, 1, 1, 0, 0] [fun σ => cutK (some novationlaw3_ShareTotal.c_l11) σ κ_l11, fun σ => cutK (some novationlaw3_ShareTotal.c_l17) σ κ_l17]) = [] := by kernel_rfl
theorem novationlaw3_ShareTotal.l17_ok (N : Nat) (κ_l11 : St → novationlaw3_ShareTotal.R) (n : Nat) : ∀ (x5 : List (Int)) (x6 : Int) (x7 : Ty.den tBig) (x8 : List (Int)) (x10 : Int) (x12 : Int), novationlaw3_ShareTotal.e_l17 N κ_l11 n (novationlaw3_ShareTotal.s_l17 x5 x6 x7 x8 x10 x12) = novationlaw3_ShareTotal.l17 N (fun x5 x6 x7 x8 x10 => κ_l11 (novationlaw3_ShareTotal.s_l11 x5 x6 x7 x8 x10)) n x5 x6 x7 x8 x10 x12 := by
  induction n with
  | zero => intros; rfl
  | succ n ih =>
    intro x5 x6 x7 x8 x10 x12
    have hr := novationlaw3_ShareTotal.r_l17 N nox nox κ_l11 (novationlaw3_ShareTotal.e_l17 N κ_l11 n)
    have h := (at_eq (novationlaw3_ShareTotal.E N) Try.f5 [.v (.int .u64), .v (.slice (.int .u32))] [.v .bool] hr trivial (novationlaw3_ShareTotal.s_l17 x5 x6 x7 x8 x10 x12)).trans (novationlaw3_ShareTotal.h_l17 N nox nox κ_l11 (novationlaw3_ShareTotal.e_l17 N κ_l11 n) x5 x6 x7 x8 x10 x12)
    have e_me : (fun x5 x6 x7 x8 x10 x12 => (novationlaw3_ShareTotal.e_l17 N κ_l11 n) (novationlaw3_ShareTotal.s_l17 x5 x6 x7 x8 x10 x12)) = novationlaw3_ShareTotal.l17 N (fun x5 x6 x7 x8 x10 => κ_l11 (novationlaw3_ShareTotal.s_l11 x5 x6 x7 x8 x10)) n := funext fun x5 => funext fun x6 => funext fun x7 => funext fun x8 => funext fun x10 => funext fun x12 => ih x5 x6 x7 x8 x10 x12
    rw [e_me] at h; exact h
theorem novationlaw3_ShareTotal.h_l11 (N : Nat) (κJ κL : Nat → St → novationlaw3_ShareTotal.R) (κ_l11 : St → novationlaw3_ShareTotal.R) (x5 : List (Int)) (x6 : Int) (x7 : Ty.den tBig) (x8 : List (Int)) (x10 : Int) : atQ (novationlaw3_ShareTotal.E N) Try.f5 [.v (.int .u64), .v (.slice (.int .u32))] [.v .bool] κJ κL [1, 1, 1, 1, 1, 1, 1, 0, 1, 0, 0] [fun σ => cutK (some novationlaw3_ShareTotal.c_l11) σ κ_l11] (novationlaw3_ShareTotal.s_l11 x5 x6 x7 x8 x10) = novationlaw3_ShareTotal.l11b N (fun x5 x6 x7 x8 x10 x12 => κL 17 (novationlaw3_ShareTotal.s_l17 x5 x6 x7 x8 x10 x12)) (fun x5 x6 x7 x8 x10 => κ_l11 (novationlaw3_ShareTotal.s_l11 x5 x6 x7 x8 x10)) x5 x6 x7 x8 x10 := by kernel_rfl
theorem novationlaw3_ShareTotal.r_l11 (N : Nat) (κJ κL : Nat → St → novationlaw3_ShareTotal.R) (κ_l11 : St → novationlaw3_ShareTotal.R) : selT (novationlaw3_ShareTotal.E N) κJ κL (tlsF (novationlaw3_ShareTotal.E N) Try.f5 [.v (.int .u64), .v (.slice (.int .u32))] [.v .bool] [1, 1, 1, 1, 1, 1, 1, 0, 1, 0, 0] [fun σ => cutK (some novationlaw3_ShareTotal.c_l11) σ κ_l11]) = [(κL 17, novationlaw3_ShareTotal.e_l17 N κ_l11 N)] := by kernel_rfl
theorem novationlaw3_ShareTotal.l11_ok (N : Nat) (n : Nat) : ∀ (x5 : List (Int)) (x6 : Int) (x7 : Ty.den tBig) (x8 : List (Int)) (x10 : Int), novationlaw3_ShareTotal.e_l11 N n (novationlaw3_ShareTotal.s_l11 x5 x6 x7 x8 x10) = novationlaw3_ShareTotal.l11 N n x5 x6 x7 x8 x10 := by
  induction n with
  | zero => intros; rfl
  | succ n ih =>
    intro x5 x6 x7 x8 x10
    obtain ⟨κL, q_l17, _⟩ := tabs' nox0 [(17, novationlaw3_ShareTotal.e_l17 N (novationlaw3_ShareTotal.e_l11 N n) N)] (rfl : _ = [17]) (by decide)
    have hr := novationlaw3_ShareTotal.r_l11 N nox κL (novationlaw3_ShareTotal.e_l11 N n)
    have h := (at_eq (novationlaw3_ShareTotal.E N) Try.f5 [.v (.int .u64), .v (.slice (.int .u32))] [.v .bool] hr ⟨q_l17, trivial⟩ (novationlaw3_ShareTotal.s_l11 x5 x6 x7 x8 x10)).trans (novationlaw3_ShareTotal.h_l11 N nox κL (novationlaw3_ShareTotal.e_l11 N n) x5 x6 x7 x8 x10)
    have e_l17 : (fun x5 x6 x7 x8 x10 x12 => novationlaw3_ShareTotal.e_l17 N (novationlaw3_ShareTotal.e_l11 N n) N (novationlaw3_ShareTotal.s_l17 x5 x6 x7 x8 x10 x12)) = novationlaw3_ShareTotal.l17 N (fun x5 x6 x7 x8 x10 => (novationlaw3_ShareTotal.e_l11 N n) (novationlaw3_ShareTotal.s_l11 x5 x6 x7 x8 x10)) N := funext fun x5 => funext fun x6 => funext fun x7 => funext fun x8 => funext fun x10 => funext fun x12 => novationlaw3_ShareTotal.l17_ok N (novationlaw3_ShareTotal.e_l11 N n) N x5 x6 x7 x8 x10 x12
    have e_me : (fun x5 x6 x7 x8 x10 => (novationlaw3_ShareTotal.e_l11 N n) (novationlaw3_ShareTotal.s_l11 x5 x6 x7 x8 x10)) = novationlaw3_ShareTotal.l11 N n := funext fun x5 => funext fun x6 => funext fun x7 => funext fun x8 => funext fun x10 => ih x5 x6 x7 x8 x10
    rw [q_l17, e_l17, e_me] at h; exact h
theorem novationlaw3_ShareTotal.h_top (N : Nat) (κJ κL : Nat → St → novationlaw3_ShareTotal.R) (a0 : Int) (a1 : List (Int)) : atQ (novationlaw3_ShareTotal.E N) Try.f5 [.v (.int .u64), .v (.slice (.int .u32))] [.v .bool] κJ κL [] [] (entry ([.v (.int .u64), .v (.slice (.int .u32))] : List AM) (a0, a1) 0 S0) = novationlaw3_ShareTotal.b N (fun x5 x6 x7 x8 x10 => κL 11 (novationlaw3_ShareTotal.s_l11 x5 x6 x7 x8 x10)) a0 a1 := by kernel_rfl
theorem novationlaw3_ShareTotal.r_top (N : Nat) (κJ κL : Nat → St → novationlaw3_ShareTotal.R) : selT (novationlaw3_ShareTotal.E N) κJ κL (tlsF (novationlaw3_ShareTotal.E N) Try.f5 [.v (.int .u64), .v (.slice (.int .u32))] [.v .bool] [] []) = [(κL 11, novationlaw3_ShareTotal.e_l11 N N)] := by kernel_rfl
theorem novationlaw3_ShareTotal.ok (N : Nat) (a0 : Int) (a1 : List (Int)) : evF (novationlaw3_ShareTotal.E N) Try.f5 [.v (.int .u64), .v (.slice (.int .u32))] [.v .bool] (a0, a1) = novationlaw3_ShareTotal N a0 a1 := by
  obtain ⟨κL, q_l11, _⟩ := tabs' nox0 [(11, novationlaw3_ShareTotal.e_l11 N N)] (rfl : _ = [11]) (by decide)
  have hr := novationlaw3_ShareTotal.r_top N nox κL
  have h := (at_eq (novationlaw3_ShareTotal.E N) Try.f5 [.v (.int .u64), .v (.slice (.int .u32))] [.v .bool] hr ⟨q_l11, trivial⟩ (entry ([.v (.int .u64), .v (.slice (.int .u32))] : List AM) (a0, a1) 0 S0)).trans (novationlaw3_ShareTotal.h_top N nox κL a0 a1)
  have e_l11 : (fun x5 x6 x7 x8 x10 => novationlaw3_ShareTotal.e_l11 N N (novationlaw3_ShareTotal.s_l11 x5 x6 x7 x8 x10)) = novationlaw3_ShareTotal.l11 N N := funext fun x5 => funext fun x6 => funext fun x7 => funext fun x8 => funext fun x10 => novationlaw3_ShareTotal.l11_ok N N x5 x6 x7 x8 x10
  rw [q_l11, e_l11] at h; exact (evF_at (by kernel_rfl) _).trans h
theorem novationlaw3_ShareTotal.env (N : Nat) : EnvOk Try.prog (novationlaw3_ShareTotal.E N) := mkE_ok tabok ⟨⟨novationlaw3_known.sum N, trivial⟩, ⟨⟨novationlaw3_weights.sum N, trivial⟩, ⟨⟨novationref1_SumInts.sum N, trivial⟩, ⟨⟨share_Split.sum N, trivial⟩, ⟨⟨novationref1_Sign.sum N, trivial⟩, ⟨⟨novationref1_Whole.sum N, trivial⟩, ⟨⟨novationref1_Cmp.sum N, trivial⟩, ⟨⟨novationref1_Times.sum N, trivial⟩, ⟨⟨novationref1_Less.sum N, trivial⟩, ⟨⟨novationref1_Sized.sum N, trivial⟩, trivial⟩⟩⟩⟩⟩⟩⟩⟩⟩⟩ (by kernel_rfl)
theorem novationlaw3_ShareTotal.sum (N : Nat) : SumOk Try.prog 5 (novationlaw3_ShareTotal.S N) := sum_mk (novationlaw3_ShareTotal.env N) (novationlaw3_ShareTotal.S N) Try.func5 (by kernel_rfl) (fun x => novationlaw3_ShareTotal.ok N x.1 x.2)

noncomputable def novationlaw3_ShareFull.S (N : Nat) : Summ := { args := [.v (.int .u64), .v (.slice (.int .u32)), .v (.slice (.int .u32))], res := [.v .bool], quiet := true, run := fun x => novationlaw3_ShareFull N x.1 x.2.1 x.2.2 }
noncomputable def novationlaw3_ShareFull.c_l16 : List (Nat × CM) := [(7, .v (.slice (.int .i64))), (8, .v (.slice (.int .i64))), (9, .v (.int .i64)), (12, .v (.slice (.int .i64))), (13, .v (.int .i64)), (15, .obj tBig), (16, .v (.int .i64))]
noncomputable def novationlaw3_ShareFull.c_l5 : List (Nat × CM) := [(2, .v (.slice (.int .u32))), (7, .own (.int .i64)), (8, .own (.int .i64)), (9, .v (.int .i64)), (10, .v (.int .i64))]
noncomputable def novationlaw3_ShareFull.E (N : Nat) : Env := mkE 132 tab [(9, [novationlaw3_known.S N]), (20, [novationlaw3_weights.S N]), (18, [share_Capped.S N]), (21, [novationref1_SumInts.S N]), (24, [novationref1_Whole.S N]), (28, [novationref1_Plus.S N]), (23, [novationref1_Cmp.S N])] [(16, novationlaw3_ShareFull.c_l16), (5, novationlaw3_ShareFull.c_l5)] [] [] N
abbrev novationlaw3_ShareFull.R := Option ((Bool))
noncomputable def novationlaw3_ShareFull.s_l16 (x7 : List (Int)) (x8 : List (Int)) (x9 : Int) (x12 : List (Int)) (x13 : Int) (x15 : Ty.den tBig) (x16 : Int) : St := ((((((((S0.put 7 (.val (.slice (.int .i64)) x7)).put 8 (.val (.slice (.int .i64)) x8)).put 9 (.val (.int .i64) x9)).put 12 (.val (.slice (.int .i64)) x12)).put 13 (.val (.int .i64) x13)).put 15 (.adr 254 [])).putH 254 (some (.obj tBig x15))).put 16 (.val (.int .i64) x16))
noncomputable def novationlaw3_ShareFull.s_l5 (x2 : List (Int)) (x7 : List (Int)) (x8 : List (Int)) (x9 : Int) (x10 : Int) : St := (((((((S0.put 2 (.val (.slice (.int .u32)) x2)).put 7 (.ref 126)).putH 126 (some (.own (.int .i64) x7))).put 8 (.ref 142)).putH 142 (some (.own (.int .i64) x8))).put 9 (.val (.int .i64) x9)).put 10 (.val (.int .i64) x10))
noncomputable def novationlaw3_ShareFull.e_l16 (N : Nat) (n : Nat) : St → novationlaw3_ShareFull.R := lpF (novationlaw3_ShareFull.E N) Try.f6 [.v (.int .u64), .v (.slice (.int .u32)), .v (.slice (.int .u32))] [.v .bool] novationlaw3_ShareFull.c_l16 [1, 1, 1, 1, 1, 1, 1, 0, 1, 0, 0] [] n
noncomputable def novationlaw3_ShareFull.e_l5 (N : Nat) (n : Nat) : St → novationlaw3_ShareFull.R := lpF (novationlaw3_ShareFull.E N) Try.f6 [.v (.int .u64), .v (.slice (.int .u32)), .v (.slice (.int .u32))] [.v .bool] novationlaw3_ShareFull.c_l5 [1, 1, 1, 0, 1, 0, 0] [] n
theorem novationlaw3_ShareFull.h_l16 (N : Nat) (κJ κL : Nat → St → novationlaw3_ShareFull.R) (κ_l16 : St → novationlaw3_ShareFull.R) (x7 : List (Int)) (x8 : List (Int)) (x9 : Int) (x12 : List (Int)) (x13 : Int) (x15 : Ty.den tBig) (x16 : Int) : atQ (novationlaw3_ShareFull.E N) Try.f6 [.v (.int .u64), .v (.slice (.int .u32)), .v (.slice (.int .u32))] [.v .bool] κJ κL [1, 1, 1, 1, 1, 1, 1, 0, 1, 0, 0] [fun σ => cutK (some novationlaw3_ShareFull.c_l16) σ κ_l16] (novationlaw3_ShareFull.s_l16 x7 x8 x9 x12 x13 x15 x16) = novationlaw3_ShareFull.l16b N (fun x7 x8 x9 x12 x13 x15 x16 => κ_l16 (novationlaw3_ShareFull.s_l16 x7 x8 x9 x12 x13 x15 x16)) x7 x8 x9 x12 x13 x15 x16 := by kernel_rfl
theorem novationlaw3_ShareFull.r_l16 (N : Nat) (κJ κL : Nat → St → novationlaw3_ShareFull.R) (κ_l16 : St → novationlaw3_ShareFull.R) : selT (novationlaw3_ShareFull.E N) κJ κL (tlsF (novationlaw3_ShareFull.E N) Try.f6 [.v (.int .u64), .v (.slice (.int .u32)), .v (.slice (.int .u32))] [.v .bool] [1, 1, 1, 1, 1, 1, 1, 0, 1, 0, 0] [fun σ => cutK (some novationlaw3_ShareFull.c_l16) σ κ_l16]) = [] := by kernel_rfl
theorem novationlaw3_ShareFull.l16_ok (N : Nat) (n : Nat) : ∀ (x7 : List (Int)) (x8 : List (Int)) (x9 : Int) (x12 : List (Int)) (x13 : Int) (x15 : Ty.den tBig) (x16 : Int), novationlaw3_ShareFull.e_l16 N n (novationlaw3_ShareFull.s_l16 x7 x8 x9 x12 x13 x15 x16) = novationlaw3_ShareFull.l16 N n x7 x8 x9 x12 x13 x15 x16 := by
  induction n with
  | zero => intros; rfl
  | succ n ih =>
    intro x7 x8 x9 x12 x13 x15 x16
    have hr := novationlaw3_ShareFull.r_l16 N nox nox (novationlaw3_ShareFull.e_l16 N n)
    have h := (at_eq (novationlaw3_ShareFull.E N) Try.f6 [.v (.int .u64), .v (.slice (.int .u32)), .v (.slice (.int .u32))] [.v .bool] hr trivial (novationlaw3_ShareFull.s_l16 x7 x8 x9 x12 x13 x15 x16)).trans (novationlaw3_ShareFull.h_l16 N nox nox (novationlaw3_ShareFull.e_l16 N n) x7 x8 x9 x12 x13 x15 x16)
    have e_me : (fun x7 x8 x9 x12 x13 x15 x16 => (novationlaw3_ShareFull.e_l16 N n) (novationlaw3_ShareFull.s_l16 x7 x8 x9 x12 x13 x15 x16)) = novationlaw3_ShareFull.l16 N n := funext fun x7 => funext fun x8 => funext fun x9 => funext fun x12 => funext fun x13 => funext fun x15 => funext fun x16 => ih x7 x8 x9 x12 x13 x15 x16
    rw [e_me] at h; exact h
theorem novationlaw3_ShareFull.h_l5 (N : Nat) (κJ κL : Nat → St → novationlaw3_ShareFull.R) (κ_l5 : St → novationlaw3_ShareFull.R) (x2 : List (Int)) (x7 : List (Int)) (x8 : List (Int)) (x9 : Int) (x10 : Int) : atQ (novationlaw3_ShareFull.E N) Try.f6 [.v (.int .u64), .v (.slice (.int .u32)), .v (.slice (.int .u32))] [.v .bool] κJ κL [1, 1, 1, 0, 1, 0, 0] [fun σ => cutK (some novationlaw3_ShareFull.c_l5) σ κ_l5] (novationlaw3_ShareFull.s_l5 x2 x7 x8 x9 x10) = novationlaw3_ShareFull.l5b N (fun x7 x8 x9 x12 x13 x15 x16 => κL 16 (novationlaw3_ShareFull.s_l16 x7 x8 x9 x12 x13 x15 x16)) (fun x2 x7 x8 x9 x10 => κ_l5 (novationlaw3_ShareFull.s_l5 x2 x7 x8 x9 x10)) x2 x7 x8 x9 x10 := by kernel_rfl
theorem novationlaw3_ShareFull.r_l5 (N : Nat) (κJ κL : Nat → St → novationlaw3_ShareFull.R) (κ_l5 : St → novationlaw3_ShareFull.R) : selT (novationlaw3_ShareFull.E N) κJ κL (tlsF (novationlaw3_ShareFull.E N) Try.f6 [.v (.int .u64), .v (.slice (.int .u32)), .v (.slice (.int .u32))] [.v .bool] [1, 1, 1, 0, 1, 0, 0] [fun σ => cutK (some novationlaw3_ShareFull.c_l5) σ κ_l5]) = [(κL 16, novationlaw3_ShareFull.e_l16 N N)] := by kernel_rfl
theorem novationlaw3_ShareFull.l5_ok (N : Nat) (n : Nat) : ∀ (x2 : List (Int)) (x7 : List (Int)) (x8 : List (Int)) (x9 : Int) (x10 : Int), novationlaw3_ShareFull.e_l5 N n (novationlaw3_ShareFull.s_l5 x2 x7 x8 x9 x10) = novationlaw3_ShareFull.l5 N n x2 x7 x8 x9 x10 := by
  induction n with
  | zero => intros; rfl
  | succ n ih =>
    intro x2 x7 x8 x9 x10
    obtain ⟨κL, q_l16, _⟩ := tabs' nox0 [(16, novationlaw3_ShareFull.e_l16 N N)] (rfl : _ = [16]) (by decide)
    have hr := novationlaw3_ShareFull.r_l5 N nox κL (novationlaw3_ShareFull.e_l5 N n)
    have h := (at_eq (novationlaw3_ShareFull.E N) Try.f6 [.v (.int .u64), .v (.slice (.int .u32)), .v (.slice (.int .u32))] [.v .bool] hr ⟨q_l16, trivial⟩ (novationlaw3_ShareFull.s_l5 x2 x7 x8 x9 x10)).trans (novationlaw3_ShareFull.h_l5 N nox κL (novationlaw3_ShareFull.e_l5 N n) x2 x7 x8 x9 x10)
    have e_l16 : (fun x7 x8 x9 x12 x13 x15 x16 => novationlaw3_ShareFull.e_l16 N N (novationlaw3_ShareFull.s_l16 x7 x8 x9 x12 x13 x15 x16)) = novationlaw3_ShareFull.l16 N N := funext fun x7 => funext fun x8 => funext fun x9 => funext fun x12 => funext fun x13 => funext fun x15 => funext fun x16 => novationlaw3_ShareFull.l16_ok N N x7 x8 x9 x12 x13 x15 x16
    have e_me : (fun x2 x7 x8 x9 x10 => (novationlaw3_ShareFull.e_l5 N n) (novationlaw3_ShareFull.s_l5 x2 x7 x8 x9 x10)) = novationlaw3_ShareFull.l5 N n := funext fun x2 => funext fun x7 => funext fun x8 => funext fun x9 => funext fun x10 => ih x2 x7 x8 x9 x10
    rw [q_l16, e_l16, e_me] at h; exact h
theorem novationlaw3_ShareFull.h_top (N : Nat) (κJ κL : Nat → St → novationlaw3_ShareFull.R) (a0 : Int) (a1 : List (Int)) (a2 : List (Int)) : atQ (novationlaw3_ShareFull.E N) Try.f6 [.v (.int .u64), .v (.slice (.int .u32)), .v (.slice (.int .u32))] [.v .bool] κJ κL [] [] (entry ([.v (.int .u64), .v (.slice (.int .u32)), .v (.slice (.int .u32))] : List AM) (a0, a1, a2) 0 S0) = novationlaw3_ShareFull.b N (fun x2 x7 x8 x9 x10 => κL 5 (novationlaw3_ShareFull.s_l5 x2 x7 x8 x9 x10)) a0 a1 a2 := by kernel_rfl
theorem novationlaw3_ShareFull.r_top (N : Nat) (κJ κL : Nat → St → novationlaw3_ShareFull.R) : selT (novationlaw3_ShareFull.E N) κJ κL (tlsF (novationlaw3_ShareFull.E N) Try.f6 [.v (.int .u64), .v (.slice (.int .u32)), .v (.slice (.int .u32))] [.v .bool] [] []) = [(κL 5, novationlaw3_ShareFull.e_l5 N N), (κL 16, novationlaw3_ShareFull.e_l16 N N)] := by kernel_rfl
theorem novationlaw3_ShareFull.ok (N : Nat) (a0 : Int) (a1 : List (Int)) (a2 : List (Int)) : evF (novationlaw3_ShareFull.E N) Try.f6 [.v (.int .u64), .v (.slice (.int .u32)), .v (.slice (.int .u32))] [.v .bool] (a0, a1, a2) = novationlaw3_ShareFull N a0 a1 a2 := by
  obtain ⟨κL, q_l5, q_l16, _⟩ := tabs' nox0 [(5, novationlaw3_ShareFull.e_l5 N N), (16, novationlaw3_ShareFull.e_l16 N N)] (rfl : _ = [5, 16]) (by decide)
  have hr := novationlaw3_ShareFull.r_top N nox κL
  have h := (at_eq (novationlaw3_ShareFull.E N) Try.f6 [.v (.int .u64), .v (.slice (.int .u32)), .v (.slice (.int .u32))] [.v .bool] hr ⟨q_l5, q_l16, trivial⟩ (entry ([.v (.int .u64), .v (.slice (.int .u32)), .v (.slice (.int .u32))] : List AM) (a0, a1, a2) 0 S0)).trans (novationlaw3_ShareFull.h_top N nox κL a0 a1 a2)
  have e_l5 : (fun x2 x7 x8 x9 x10 => novationlaw3_ShareFull.e_l5 N N (novationlaw3_ShareFull.s_l5 x2 x7 x8 x9 x10)) = novationlaw3_ShareFull.l5 N N := funext fun x2 => funext fun x7 => funext fun x8 => funext fun x9 => funext fun x10 => novationlaw3_ShareFull.l5_ok N N x2 x7 x8 x9 x10
  rw [q_l5, e_l5] at h; exact (evF_at (by kernel_rfl) _).trans h
theorem novationlaw3_ShareFull.env (N : Nat) : EnvOk Try.prog (novationlaw3_ShareFull.E N) := mkE_ok tabok ⟨⟨novationlaw3_known.sum N, trivial⟩, ⟨⟨novationlaw3_weights.sum N, trivial⟩, ⟨⟨share_Capped.sum N, trivial⟩, ⟨⟨novationref1_SumInts.sum N, trivial⟩, ⟨⟨novationref1_Whole.sum N, trivial⟩, ⟨⟨novationref1_Plus.sum N, trivial⟩, ⟨⟨novationref1_Cmp.sum N, trivial⟩, trivial⟩⟩⟩⟩⟩⟩⟩ (by kernel_rfl)
theorem novationlaw3_ShareFull.sum (N : Nat) : SumOk Try.prog 6 (novationlaw3_ShareFull.S N) := sum_mk (novationlaw3_ShareFull.env N) (novationlaw3_ShareFull.S N) Try.func6 (by kernel_rfl) (fun x => novationlaw3_ShareFull.ok N x.1 x.2.1 x.2.2)

noncomputable def novationlaw3_ShareEqual.S (N : Nat) : Summ := { args := [.v (.int .u64), .v (.int .u8)], res := [.v .bool], quiet := true, run := fun x => novationlaw3_ShareEqual N x.1 x.2 }
noncomputable def novationlaw3_ShareEqual.c_l8 : List (Nat × CM) := [(6, .v (.int .i64)), (7, .v (.slice (.int .i64))), (9, .v (.int .i64))]
noncomputable def novationlaw3_ShareEqual.E (N : Nat) : Env := mkE 74 tab [(9, [novationlaw3_known.S N]), (12, [share_Even.S N]), (21, [novationref1_SumInts.S N]), (24, [novationref1_Whole.S N]), (23, [novationref1_Cmp.S N])] [(8, novationlaw3_ShareEqual.c_l8)] [] [] N
abbrev novationlaw3_ShareEqual.R := Option ((Bool))
noncomputable def novationlaw3_ShareEqual.s_l8 (x6 : Int) (x7 : List (Int)) (x9 : Int) : St := (((S0.put 6 (.val (.int .i64) x6)).put 7 (.val (.slice (.int .i64)) x7)).put 9 (.val (.int .i64) x9))
noncomputable def novationlaw3_ShareEqual.e_l8 (N : Nat) (n : Nat) : St → novationlaw3_ShareEqual.R := lpF (novationlaw3_ShareEqual.E N) Try.f7 [.v (.int .u64), .v (.int .u8)] [.v .bool] novationlaw3_ShareEqual.c_l8 [1, 1, 1, 1, 1, 0, 1, 0, 0] [] n
theorem novationlaw3_ShareEqual.h_l8 (N : Nat) (κJ κL : Nat → St → novationlaw3_ShareEqual.R) (κ_l8 : St → novationlaw3_ShareEqual.R) (x6 : Int) (x7 : List (Int)) (x9 : Int) : atQ (novationlaw3_ShareEqual.E N) Try.f7 [.v (.int .u64), .v (.int .u8)] [.v .bool] κJ κL [1, 1, 1, 1, 1, 0, 1, 0, 0] [fun σ => cutK (some novationlaw3_ShareEqual.c_l8) σ κ_l8] (novationlaw3_ShareEqual.s_l8 x6 x7 x9) = novationlaw3_ShareEqual.l8b N (fun x6 x7 x9 => κ_l8 (novationlaw3_ShareEqual.s_l8 x6 x7 x9)) x6 x7 x9 := by kernel_rfl
theorem novationlaw3_ShareEqual.r_l8 (N : Nat) (κJ κL : Nat → St → novationlaw3_ShareEqual.R) (κ_l8 : St → novationlaw3_ShareEqual.R) : selT (novationlaw3_ShareEqual.E N) κJ κL (tlsF (novationlaw3_ShareEqual.E N) Try.f7 [.v (.int .u64), .v (.int .u8)] [.v .bool] [1, 1, 1, 1, 1, 0, 1, 0, 0] [fun σ => cutK (some novationlaw3_ShareEqual.c_l8) σ κ_l8]) = [] := by kernel_rfl
theorem novationlaw3_ShareEqual.l8_ok (N : Nat) (n : Nat) : ∀ (x6 : Int) (x7 : List (Int)) (x9 : Int), novationlaw3_ShareEqual.e_l8 N n (novationlaw3_ShareEqual.s_l8 x6 x7 x9) = novationlaw3_ShareEqual.l8 N n x6 x7 x9 := by
  induction n with
  | zero => intros; rfl
  | succ n ih =>
    intro x6 x7 x9
    have hr := novationlaw3_ShareEqual.r_l8 N nox nox (novationlaw3_ShareEqual.e_l8 N n)
    have h := (at_eq (novationlaw3_ShareEqual.E N) Try.f7 [.v (.int .u64), .v (.int .u8)] [.v .bool] hr trivial (novationlaw3_ShareEqual.s_l8 x6 x7 x9)).trans (novationlaw3_ShareEqual.h_l8 N nox nox (novationlaw3_ShareEqual.e_l8 N n) x6 x7 x9)
    have e_me : (fun x6 x7 x9 => (novationlaw3_ShareEqual.e_l8 N n) (novationlaw3_ShareEqual.s_l8 x6 x7 x9)) = novationlaw3_ShareEqual.l8 N n := funext fun x6 => funext fun x7 => funext fun x9 => ih x6 x7 x9
    rw [e_me] at h; exact h
theorem novationlaw3_ShareEqual.h_top (N : Nat) (κJ κL : Nat → St → novationlaw3_ShareEqual.R) (a0 : Int) (a1 : Int) : atQ (novationlaw3_ShareEqual.E N) Try.f7 [.v (.int .u64), .v (.int .u8)] [.v .bool] κJ κL [] [] (entry ([.v (.int .u64), .v (.int .u8)] : List AM) (a0, a1) 0 S0) = novationlaw3_ShareEqual.b N (fun x6 x7 x9 => κL 8 (novationlaw3_ShareEqual.s_l8 x6 x7 x9)) a0 a1 := by kernel_rfl
theorem novationlaw3_ShareEqual.r_top (N : Nat) (κJ κL : Nat → St → novationlaw3_ShareEqual.R) : selT (novationlaw3_ShareEqual.E N) κJ κL (tlsF (novationlaw3_ShareEqual.E N) Try.f7 [.v (.int .u64), .v (.int .u8)] [.v .bool] [] []) = [(κL 8, novationlaw3_ShareEqual.e_l8 N N)] := by kernel_rfl
theorem novationlaw3_ShareEqual.ok (N : Nat) (a0 : Int) (a1 : Int) : evF (novationlaw3_ShareEqual.E N) Try.f7 [.v (.int .u64), .v (.int .u8)] [.v .bool] (a0, a1) = novationlaw3_ShareEqual N a0 a1 := by
  obtain ⟨κL, q_l8, _⟩ := tabs' nox0 [(8, novationlaw3_ShareEqual.e_l8 N N)] (rfl : _ = [8]) (by decide)
  have hr := novationlaw3_ShareEqual.r_top N nox κL
  have h := (at_eq (novationlaw3_ShareEqual.E N) Try.f7 [.v (.int .u64), .v (.int .u8)] [.v .bool] hr ⟨q_l8, trivial⟩ (entry ([.v (.int .u64), .v (.int .u8)] : List AM) (a0, a1) 0 S0)).trans (novationlaw3_ShareEqual.h_top N nox κL a0 a1)
  have e_l8 : (fun x6 x7 x9 => novationlaw3_ShareEqual.e_l8 N N (novationlaw3_ShareEqual.s_l8 x6 x7 x9)) = novationlaw3_ShareEqual.l8 N N := funext fun x6 => funext fun x7 => funext fun x9 => novationlaw3_ShareEqual.l8_ok N N x6 x7 x9
  rw [q_l8, e_l8] at h; exact (evF_at (by kernel_rfl) _).trans h
theorem novationlaw3_ShareEqual.env (N : Nat) : EnvOk Try.prog (novationlaw3_ShareEqual.E N) := mkE_ok tabok ⟨⟨novationlaw3_known.sum N, trivial⟩, ⟨⟨share_Even.sum N, trivial⟩, ⟨⟨novationref1_SumInts.sum N, trivial⟩, ⟨⟨novationref1_Whole.sum N, trivial⟩, ⟨⟨novationref1_Cmp.sum N, trivial⟩, trivial⟩⟩⟩⟩⟩ (by kernel_rfl)
theorem novationlaw3_ShareEqual.sum (N : Nat) : SumOk Try.prog 7 (novationlaw3_ShareEqual.S N) := sum_mk (novationlaw3_ShareEqual.env N) (novationlaw3_ShareEqual.S N) Try.func7 (by kernel_rfl) (fun x => novationlaw3_ShareEqual.ok N x.1 x.2)

noncomputable def novationlaw3_ShareOrders.S (N : Nat) : Summ := { args := [.v (.slice (.int .i64))], res := [.v .bool], quiet := true, run := fun x => novationlaw3_ShareOrders N x }
noncomputable def novationlaw3_ShareOrders.c_l16 : List (Nat × CM) := [(0, .v (.slice (.int .i64))), (3, .v (.slice (.int .i64))), (4, .v (.int .i64)), (5, .v (.int .i64))]
noncomputable def novationlaw3_ShareOrders.c_j15 : List (Nat × CM) := [(0, .v (.slice (.int .i64))), (3, .v (.slice (.int .i64))), (4, .v (.int .i64))]
noncomputable def novationlaw3_ShareOrders.c_l9 : List (Nat × CM) := [(0, .v (.slice (.int .i64))), (3, .v (.slice (.int .i64))), (4, .v (.int .i64))]
noncomputable def novationlaw3_ShareOrders.E (N : Nat) : Env := mkE 102 tab [(9, [novationlaw3_known.S N]), (16, [share_Order.S N])] [(16, novationlaw3_ShareOrders.c_l16), (9, novationlaw3_ShareOrders.c_l9)] [(15, novationlaw3_ShareOrders.c_j15)] [] N
abbrev novationlaw3_ShareOrders.R := Option ((Bool))
noncomputable def novationlaw3_ShareOrders.s_l16 (x0 : List (Int)) (x3 : List (Int)) (x4 : Int) (x5 : Int) : St := ((((S0.put 0 (.val (.slice (.int .i64)) x0)).put 3 (.val (.slice (.int .i64)) x3)).put 4 (.val (.int .i64) x4)).put 5 (.val (.int .i64) x5))
noncomputable def novationlaw3_ShareOrders.s_j15 (x0 : List (Int)) (x3 : List (Int)) (x4 : Int) : St := (((S0.put 0 (.val (.slice (.int .i64)) x0)).put 3 (.val (.slice (.int .i64)) x3)).put 4 (.val (.int .i64) x4))
noncomputable def novationlaw3_ShareOrders.s_l9 (x0 : List (Int)) (x3 : List (Int)) (x4 : Int) : St := (((S0.put 0 (.val (.slice (.int .i64)) x0)).put 3 (.val (.slice (.int .i64)) x3)).put 4 (.val (.int .i64) x4))
noncomputable def novationlaw3_ShareOrders.e_l16 (N : Nat) (κ_l9 : St → novationlaw3_ShareOrders.R) (n : Nat) : St → novationlaw3_ShareOrders.R := lpF (novationlaw3_ShareOrders.E N) Try.f8 [.v (.slice (.int .i64))] [.v .bool] novationlaw3_ShareOrders.c_l16 [1, 1, 1, 1, 1, 0, 1, 0, 0, 1, 0, 0, 1, 1, 1, 0, 0] [fun σ => cutK (some novationlaw3_ShareOrders.c_l9) σ κ_l9] n
noncomputable def novationlaw3_ShareOrders.e_j15 (N : Nat) (κ_l9 : St → novationlaw3_ShareOrders.R) : St → novationlaw3_ShareOrders.R := atF (novationlaw3_ShareOrders.E N) Try.f8 [.v (.slice (.int .i64))] [.v .bool] [1, 1, 1, 1, 1, 0, 1, 0, 0, 1, 0, 0, 1, 1] [fun σ => cutK (some novationlaw3_ShareOrders.c_l9) σ κ_l9]
noncomputable def novationlaw3_ShareOrders.e_l9 (N : Nat) (n : Nat) : St → novationlaw3_ShareOrders.R := lpF (novationlaw3_ShareOrders.E N) Try.f8 [.v (.slice (.int .i64))] [.v .bool] novationlaw3_ShareOrders.c_l9 [1, 1, 1, 1, 1, 0, 1, 0, 0] [] n
theorem novationlaw3_ShareOrders.h_l16 (N : Nat) (κJ κL : Nat → St → novationlaw3_ShareOrders.R) (κ_l9 : St → novationlaw3_ShareOrders.R) (κ_l16 : St → novationlaw3_ShareOrders.R) (x0 : List (Int)) (x3 : List (Int)) (x4 : Int) (x5 : Int) : atQ (novationlaw3_ShareOrders.E N) Try.f8 [.v (.slice (.int .i64))] [.v .bool] κJ κL [1, 1, 1, 1, 1, 0, 1, 0, 0, 1, 0, 0, 1, 1, 1, 0, 0] [fun σ => cutK (some novationlaw3_ShareOrders.c_l9) σ κ_l9, fun σ => cutK (some novationlaw3_ShareOrders.c_l16) σ κ_l16] (novationlaw3_ShareOrders.s_l16 x0 x3 x4 x5) = novationlaw3_ShareOrders.l16b N (fun x0 x3 x4 => κ_l9 (novationlaw3_ShareOrders.s_l9 x0 x3 x4)) (fun x0 x3 x4 x5 => κ_l16 (novationlaw3_ShareOrders.s_l16 x0 x3 x4 x5)) x0 x3 x4 x5 := by kernel_rfl
theorem novationlaw3_ShareOrders.r_l16 (N : Nat) (κJ κL : Nat → St → novationlaw3_ShareOrders.R) (κ_l9 : St → novationlaw3_ShareOrders.R) (κ_l16 : St → novationlaw3_ShareOrders.R) : selT (novationlaw3_ShareOrders.E N) κJ κL (tlsF (novationlaw3_ShareOrders.E N) Try.f8 [.v (.slice (.int .i64))] [.v .bool] [1, 1, 1, 1, 1, 0, 1, 0, 0, 1, 0, 0, 1, 1, 1, 0, 0] [fun σ => cutK (some novationlaw3_ShareOrders.c_l9) σ κ_l9, fun σ => cutK (some novationlaw3_ShareOrders.c_l16) σ κ_l16]) = [] := by kernel_rfl
theorem novationlaw3_ShareOrders.l16_ok (N : Nat) (κ_l9 : St → novationlaw3_ShareOrders.R) (n : Nat) : ∀ (x0 : List (Int)) (x3 : List (Int)) (x4 : Int) (x5 : Int), novationlaw3_ShareOrders.e_l16 N κ_l9 n (novationlaw3_ShareOrders.s_l16 x0 x3 x4 x5) = novationlaw3_ShareOrders.l16 N (fun x0 x3 x4 => κ_l9 (novationlaw3_ShareOrders.s_l9 x0 x3 x4)) n x0 x3 x4 x5 := by
  induction n with
  | zero => intros; rfl
  | succ n ih =>
    intro x0 x3 x4 x5
    have hr := novationlaw3_ShareOrders.r_l16 N nox nox κ_l9 (novationlaw3_ShareOrders.e_l16 N κ_l9 n)
    have h := (at_eq (novationlaw3_ShareOrders.E N) Try.f8 [.v (.slice (.int .i64))] [.v .bool] hr trivial (novationlaw3_ShareOrders.s_l16 x0 x3 x4 x5)).trans (novationlaw3_ShareOrders.h_l16 N nox nox κ_l9 (novationlaw3_ShareOrders.e_l16 N κ_l9 n) x0 x3 x4 x5)
    have e_me : (fun x0 x3 x4 x5 => (novationlaw3_ShareOrders.e_l16 N κ_l9 n) (novationlaw3_ShareOrders.s_l16 x0 x3 x4 x5)) = novationlaw3_ShareOrders.l16 N (fun x0 x3 x4 => κ_l9 (novationlaw3_ShareOrders.s_l9 x0 x3 x4)) n := funext fun x0 => funext fun x3 => funext fun x4 => funext fun x5 => ih x0 x3 x4 x5
    rw [e_me] at h; exact h
theorem novationlaw3_ShareOrders.h_j15 (N : Nat) (κJ κL : Nat → St → novationlaw3_ShareOrders.R) (κ_l9 : St → novationlaw3_ShareOrders.R) (x0 : List (Int)) (x3 : List (Int)) (x4 : Int) : atQ (novationlaw3_ShareOrders.E N) Try.f8 [.v (.slice (.int .i64))] [.v .bool] κJ κL [1, 1, 1, 1, 1, 0, 1, 0, 0, 1, 0, 0, 1, 1] [fun σ => cutK (some novationlaw3_ShareOrders.c_l9) σ κ_l9] (novationlaw3_ShareOrders.s_j15 x0 x3 x4) = novationlaw3_ShareOrders.j15b N (fun x0 x3 x4 x5 => κL 16 (novationlaw3_ShareOrders.s_l16 x0 x3 x4 x5)) (fun x0 x3 x4 => κ_l9 (novationlaw3_ShareOrders.s_l9 x0 x3 x4)) x0 x3 x4 := by kernel_rfl
theorem novationlaw3_ShareOrders.r_j15 (N : Nat) (κJ κL : Nat → St → novationlaw3_ShareOrders.R) (κ_l9 : St → novationlaw3_ShareOrders.R) : selT (novationlaw3_ShareOrders.E N) κJ κL (tlsF (novationlaw3_ShareOrders.E N) Try.f8 [.v (.slice (.int .i64))] [.v .bool] [1, 1, 1, 1, 1, 0, 1, 0, 0, 1, 0, 0, 1, 1] [fun σ => cutK (some novationlaw3_ShareOrders.c_l9) σ κ_l9]) = [(κL 16, novationlaw3_ShareOrders.e_l16 N κ_l9 N)] := by kernel_rfl
theorem novationlaw3_ShareOrders.j15_ok (N : Nat) (κ_l9 : St → novationlaw3_ShareOrders.R) (x0 : List (Int)) (x3 : List (Int)) (x4 : Int) : novationlaw3_ShareOrders.e_j15 N κ_l9 (novationlaw3_ShareOrders.s_j15 x0 x3 x4) = novationlaw3_ShareOrders.j15 N (fun x0 x3 x4 => κ_l9 (novationlaw3_ShareOrders.s_l9 x0 x3 x4)) x0 x3 x4 := by
  obtain ⟨κL, q_l16, _⟩ := tabs' nox0 [(16, novationlaw3_ShareOrders.e_l16 N κ_l9 N)] (rfl : _ = [16]) (by decide)
  have hr := novationlaw3_ShareOrders.r_j15 N nox κL κ_l9
  have h := (at_eq (novationlaw3_ShareOrders.E N) Try.f8 [.v (.slice (.int .i64))] [.v .bool] hr ⟨q_l16, trivial⟩ (novationlaw3_ShareOrders.s_j15 x0 x3 x4)).trans (novationlaw3_ShareOrders.h_j15 N nox κL κ_l9 x0 x3 x4)
  have e_l16 : (fun x0 x3 x4 x5 => novationlaw3_ShareOrders.e_l16 N κ_l9 N (novationlaw3_ShareOrders.s_l16 x0 x3 x4 x5)) = novationlaw3_ShareOrders.l16 N (fun x0 x3 x4 => κ_l9 (novationlaw3_ShareOrders.s_l9 x0 x3 x4)) N := funext fun x0 => funext fun x3 => funext fun x4 => funext fun x5 => novationlaw3_ShareOrders.l16_ok N κ_l9 N x0 x3 x4 x5
  rw [q_l16, e_l16] at h; exact h
theorem novationlaw3_ShareOrders.h_l9 (N : Nat) (κJ κL : Nat → St → novationlaw3_ShareOrders.R) (κ_l9 : St → novationlaw3_ShareOrders.R) (x0 : List (Int)) (x3 : List (Int)) (x4 : Int) : atQ (novationlaw3_ShareOrders.E N) Try.f8 [.v (.slice (.int .i64))] [.v .bool] κJ κL [1, 1, 1, 1, 1, 0, 1, 0, 0] [fun σ => cutK (some novationlaw3_ShareOrders.c_l9) σ κ_l9] (novationlaw3_ShareOrders.s_l9 x0 x3 x4) = novationlaw3_ShareOrders.l9b N (fun x0 x3 x4 => κJ 15 (novationlaw3_ShareOrders.s_j15 x0 x3 x4)) (fun x0 x3 x4 => κ_l9 (novationlaw3_ShareOrders.s_l9 x0 x3 x4)) x0 x3 x4 := by kernel_rfl
theorem novationlaw3_ShareOrders.r_l9 (N : Nat) (κJ κL : Nat → St → novationlaw3_ShareOrders.R) (κ_l9 : St → novationlaw3_ShareOrders.R) : selT (novationlaw3_ShareOrders.E N) κJ κL (tlsF (novationlaw3_ShareOrders.E N) Try.f8 [.v (.slice (.int .i64))] [.v .bool] [1, 1, 1, 1, 1, 0, 1, 0, 0] [fun σ => cutK (some novationlaw3_ShareOrders.c_l9) σ κ_l9]) = [(κJ 15, novationlaw3_ShareOrders.e_j15 N κ_l9), (κL 16, novationlaw3_ShareOrders.e_l16 N κ_l9 N)] := by kernel_rfl
theorem novationlaw3_ShareOrders.l9_ok (N : Nat) (n : Nat) : ∀ (x0 : List (Int)) (x3 : List (Int)) (x4 : Int), novationlaw3_ShareOrders.e_l9 N n (novationlaw3_ShareOrders.s_l9 x0 x3 x4) = novationlaw3_ShareOrders.l9 N n x0 x3 x4 := by
  induction n with
  | zero => intros; rfl
  | succ n ih =>
    intro x0 x3 x4
    obtain ⟨κJ, q_j15, _⟩ := tabs' nox0 [(15, novationlaw3_ShareOrders.e_j15 N (novationlaw3_ShareOrders.e_l9 N n))] (rfl : _ = [15]) (by decide)
    obtain ⟨κL, q_l16, _⟩ := tabs' nox0 [(16, novationlaw3_ShareOrders.e_l16 N (novationlaw3_ShareOrders.e_l9 N n) N)] (rfl : _ = [16]) (by decide)
    have hr := novationlaw3_ShareOrders.r_l9 N κJ κL (novationlaw3_ShareOrders.e_l9 N n)
    have h := (at_eq (novationlaw3_ShareOrders.E N) Try.f8 [.v (.slice (.int .i64))] [.v .bool] hr ⟨q_j15, q_l16, trivial⟩ (novationlaw3_ShareOrders.s_l9 x0 x3 x4)).trans (novationlaw3_ShareOrders.h_l9 N κJ κL (novationlaw3_ShareOrders.e_l9 N n) x0 x3 x4)
    have e_j15 : (fun x0 x3 x4 => novationlaw3_ShareOrders.e_j15 N (novationlaw3_ShareOrders.e_l9 N n) (novationlaw3_ShareOrders.s_j15 x0 x3 x4)) = novationlaw3_ShareOrders.j15 N (fun x0 x3 x4 => (novationlaw3_ShareOrders.e_l9 N n) (novationlaw3_ShareOrders.s_l9 x0 x3 x4)) := funext fun x0 => funext fun x3 => funext fun x4 => novationlaw3_ShareOrders.j15_ok N (novationlaw3_ShareOrders.e_l9 N n) x0 x3 x4
    have e_me : (fun x0 x3 x4 => (novationlaw3_ShareOrders.e_l9 N n) (novationlaw3_ShareOrders.s_l9 x0 x3 x4)) = novationlaw3_ShareOrders.l9 N n := funext fun x0 => funext fun x3 => funext fun x4 => ih x0 x3 x4
    rw [q_j15, e_j15, e_me] at h; exact h
theorem novationlaw3_ShareOrders.h_top (N : Nat) (κJ κL : Nat → St → novationlaw3_ShareOrders.R) (a0 : List (Int)) : atQ (novationlaw3_ShareOrders.E N) Try.f8 [.v (.slice (.int .i64))] [.v .bool] κJ κL [] [] (entry ([.v (.slice (.int .i64))] : List AM) (a0) 0 S0) = novationlaw3_ShareOrders.b N (fun x0 x3 x4 => κL 9 (novationlaw3_ShareOrders.s_l9 x0 x3 x4)) a0 := by kernel_rfl
theorem novationlaw3_ShareOrders.r_top (N : Nat) (κJ κL : Nat → St → novationlaw3_ShareOrders.R) : selT (novationlaw3_ShareOrders.E N) κJ κL (tlsF (novationlaw3_ShareOrders.E N) Try.f8 [.v (.slice (.int .i64))] [.v .bool] [] []) = [(κL 9, novationlaw3_ShareOrders.e_l9 N N)] := by kernel_rfl
theorem novationlaw3_ShareOrders.ok (N : Nat) (a0 : List (Int)) : evF (novationlaw3_ShareOrders.E N) Try.f8 [.v (.slice (.int .i64))] [.v .bool] (a0) = novationlaw3_ShareOrders N a0 := by
  obtain ⟨κL, q_l9, _⟩ := tabs' nox0 [(9, novationlaw3_ShareOrders.e_l9 N N)] (rfl : _ = [9]) (by decide)
  have hr := novationlaw3_ShareOrders.r_top N nox κL
  have h := (at_eq (novationlaw3_ShareOrders.E N) Try.f8 [.v (.slice (.int .i64))] [.v .bool] hr ⟨q_l9, trivial⟩ (entry ([.v (.slice (.int .i64))] : List AM) (a0) 0 S0)).trans (novationlaw3_ShareOrders.h_top N nox κL a0)
  have e_l9 : (fun x0 x3 x4 => novationlaw3_ShareOrders.e_l9 N N (novationlaw3_ShareOrders.s_l9 x0 x3 x4)) = novationlaw3_ShareOrders.l9 N N := funext fun x0 => funext fun x3 => funext fun x4 => novationlaw3_ShareOrders.l9_ok N N x0 x3 x4
  rw [q_l9, e_l9] at h; exact (evF_at (by kernel_rfl) _).trans h
theorem novationlaw3_ShareOrders.env (N : Nat) : EnvOk Try.prog (novationlaw3_ShareOrders.E N) := mkE_ok tabok ⟨⟨novationlaw3_known.sum N, trivial⟩, ⟨⟨share_Order.sum N, trivial⟩, trivial⟩⟩ (by kernel_rfl)
theorem novationlaw3_ShareOrders.sum (N : Nat) : SumOk Try.prog 8 (novationlaw3_ShareOrders.S N) := sum_mk (novationlaw3_ShareOrders.env N) (novationlaw3_ShareOrders.S N) Try.func8 (by kernel_rfl) (fun x => novationlaw3_ShareOrders.ok N x)

end VM.F
