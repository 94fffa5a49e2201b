/- A part of the proof of TearAll, of layer 29: each function of the program does what its equation says; printed by a program. -/
import Derived.Test.YtnkhdmeoclffaaaGreatText
import Derived.Test.YtnkhdmeoclffaaaGreatVm7
import Derived.Test.YtnkhdmeoclffaaaGreatProg
import Derived.KernelRfl
set_option linter.all false
namespace VM.F
open Go VM Go.Proofs
set_option linter.unusedVariables false
set_option linter.unusedSimpArgs false
set_option maxRecDepth 100000
abbrev I : Ty := .int .i64
abbrev U : Ty := .int .u64
abbrev B : Ty := .bool
abbrev Z : Ty := .str
abbrev LterrorString : Ty := .slice terrorString
abbrev LterrorAddressString : Ty := .slice terrorAddressString
abbrev LtI2 : Ty := .slice tI2
abbrev LtWide : Ty := .slice tWide
abbrev LtBig : Ty := .slice tBig
abbrev LtDeck : Ty := .slice tDeck
abbrev LtI3 : Ty := .slice tI3
abbrev LtboundsError : Ty := .slice tboundsError
abbrev LtI4 : Ty := .slice tI4
abbrev LtEntry : Ty := .slice tEntry
abbrev LtI5 : Ty := .slice tI5
abbrev LtPart : Ty := .slice tPart
abbrev LtI6 : Ty := .slice tI6
abbrev LtI8 : Ty := .slice tI8
abbrev LtLot : Ty := .slice tLot
abbrev LtReport : Ty := .slice tReport
abbrev LtConfig : Ty := .slice tConfig
abbrev LtBook : Ty := .slice tBook
abbrev LtDefault : Ty := .slice tDefault
abbrev LtState : Ty := .slice tState
abbrev Lttrack : Ty := .slice ttrack
abbrev LI : Ty := .slice I
abbrev LU : Ty := .slice U
def tab : List (Nat × Ty) := [(2, I), (3, I), (4, B), (5, (.int .u8)), (9, Z), (22, LtI4), (24, tConfig), (25, LtI2), (26, LtI4), (27, LtI3), (28, LtI3), (29, LI), (30, LtI6), (32, tBook), (40, LU), (44, LI), (57, I), (64, tBig), (84, tI4), (90, tI4), (110, LtI3), (111, LtEntry), (113, tI3), (114, U), (116, tWide), (119, tEntry), (125, tI3), (127, tI3), (139, tI6), (161, U), (171, tI2), (172, LtPart), (196, LtWide), (220, tPart), (228, (.arr 13 B))]
theorem tabok : TabOk Tryz.prog tab := ⟨by kernel_rfl, by kernel_rfl⟩
noncomputable abbrev Ssub64 (N : Nat) : Summ := sub64.S N
noncomputable abbrev Sadd64 (N : Nat) : Summ := add64.S N
theorem sumadd64 (N : Nat) : SumOk Tryz.prog 188 (Sadd64 N) := add64_sum N Tryz.func188 (by kernel_rfl) (by kernel_rfl) (by kernel_rfl) (by kernel_rfl)
theorem sumsub64 (N : Nat) : SumOk Tryz.prog 194 (Ssub64 N) := sub64_sum N Tryz.func194 (by kernel_rfl) (by kernel_rfl) (by kernel_rfl) (by kernel_rfl)
noncomputable abbrev Sclo_176 (N : Nat) : Summ := cloneS (.pair (.int .i64) (.pair (.int .i64) .unit)) N
noncomputable def clo_176.ren : Go.Shelf.Ren := { f := fun i => 0, t := fun i => cond (Nat.beq i 3) 171 (cond (Nat.beq i 4) 4 25), g := fun _ => 0 }
theorem clo_176.lays : CloP Tryz.prog (.pair (.int .i64) (.pair (.int .i64) .unit)) clo_176.ren 176 Tryz.f176 := ⟨Tryz.func176.trans (by kernel_rfl), Tryz.underlying4, Tryz.underlying25, layB_ok (x := .inl 171) (by kernel_rfl), by decide, by kernel_rfl⟩
theorem sumclo_176 (N : Nat) : SumOk Tryz.prog 176 (Sclo_176 N) := clone_sum clo_176.lays (by kernel_rfl) (by kernel_rfl) N
noncomputable abbrev Sclo_177 (N : Nat) : Summ := cloneS (.pair (.int .i64) (.pair (.int .i64) (.pair (.int .i64) (.pair (.int .i64) .unit)))) N
noncomputable def clo_177.ren : Go.Shelf.Ren := { f := fun i => 0, t := fun i => cond (Nat.beq i 3) 84 (cond (Nat.beq i 4) 4 26), g := fun _ => 0 }
theorem clo_177.lays : CloP Tryz.prog (.pair (.int .i64) (.pair (.int .i64) (.pair (.int .i64) (.pair (.int .i64) .unit)))) clo_177.ren 177 Tryz.f177 := ⟨Tryz.func177.trans (by kernel_rfl), Tryz.underlying4, Tryz.underlying26, layB_ok (x := .inl 84) (by kernel_rfl), by decide, by kernel_rfl⟩
theorem sumclo_177 (N : Nat) : SumOk Tryz.prog 177 (Sclo_177 N) := clone_sum clo_177.lays (by kernel_rfl) (by kernel_rfl) N
noncomputable abbrev Sclo_178 (N : Nat) : Summ := cloneS (.pair (.int .i64) (.pair (.int .i64) (.pair (.int .i64) .unit))) N
noncomputable def clo_178.ren : Go.Shelf.Ren := { f := fun i => 0, t := fun i => cond (Nat.beq i 3) 125 (cond (Nat.beq i 4) 4 27), g := fun _ => 0 }
theorem clo_178.lays : CloP Tryz.prog (.pair (.int .i64) (.pair (.int .i64) (.pair (.int .i64) .unit))) clo_178.ren 178 Tryz.f178 := ⟨Tryz.func178.trans (by kernel_rfl), Tryz.underlying4, Tryz.underlying27, layB_ok (x := .inl 125) (by kernel_rfl), by decide, by kernel_rfl⟩
theorem sumclo_178 (N : Nat) : SumOk Tryz.prog 178 (Sclo_178 N) := clone_sum clo_178.lays (by kernel_rfl) (by kernel_rfl) N
noncomputable abbrev Sclo_179 (N : Nat) : Summ := cloneS (.pair (.int .i64) (.pair (.int .i64) (.pair (.int .i64) .unit))) N
noncomputable def clo_179.ren : Go.Shelf.Ren := { f := fun i => 0, t := fun i => cond (Nat.beq i 3) 127 (cond (Nat.beq i 4) 4 28), g := fun _ => 0 }
theorem clo_179.lays : CloP Tryz.prog (.pair (.int .i64) (.pair (.int .i64) (.pair (.int .i64) .unit))) clo_179.ren 179 Tryz.f179 := ⟨Tryz.func179.trans (by kernel_rfl), Tryz.underlying4, Tryz.underlying28, layB_ok (x := .inl 127) (by kernel_rfl), by decide, by kernel_rfl⟩
theorem sumclo_179 (N : Nat) : SumOk Tryz.prog 179 (Sclo_179 N) := clone_sum clo_179.lays (by kernel_rfl) (by kernel_rfl) N
noncomputable abbrev Sclo_180 (N : Nat) : Summ := cloneS (.int .i64) N
noncomputable def clo_180.ren : Go.Shelf.Ren := { f := fun i => 0, t := fun i => cond (Nat.beq i 3) 2 (cond (Nat.beq i 4) 4 29), g := fun _ => 0 }
theorem clo_180.lays : CloP Tryz.prog (.int .i64) clo_180.ren 180 Tryz.f180 := ⟨Tryz.func180.trans (by kernel_rfl), Tryz.underlying4, Tryz.underlying29, layB_ok (x := .inl 2) (by kernel_rfl), by decide, by kernel_rfl⟩
theorem sumclo_180 (N : Nat) : SumOk Tryz.prog 180 (Sclo_180 N) := clone_sum clo_180.lays (by kernel_rfl) (by kernel_rfl) N
noncomputable abbrev Sclo_181 (N : Nat) : Summ := cloneS (.pair (.int .i64) (.pair (.int .i64) (.pair (.int .i64) (.pair (.int .i64) (.pair (.int .i64) (.pair (.int .i64) .unit)))))) N
noncomputable def clo_181.ren : Go.Shelf.Ren := { f := fun i => 0, t := fun i => cond (Nat.beq i 3) 139 (cond (Nat.beq i 4) 4 30), g := fun _ => 0 }
theorem clo_181.lays : CloP Tryz.prog (.pair (.int .i64) (.pair (.int .i64) (.pair (.int .i64) (.pair (.int .i64) (.pair (.int .i64) (.pair (.int .i64) .unit)))))) clo_181.ren 181 Tryz.f181 := ⟨Tryz.func181.trans (by kernel_rfl), Tryz.underlying4, Tryz.underlying30, layB_ok (x := .inl 139) (by kernel_rfl), by decide, by kernel_rfl⟩
theorem sumclo_181 (N : Nat) : SumOk Tryz.prog 181 (Sclo_181 N) := clone_sum clo_181.lays (by kernel_rfl) (by kernel_rfl) N
noncomputable abbrev Sins_184 (N : Nat) : Summ := insertS (.pair (.int .i64) (.pair (.int .i64) (.pair (.int .i64) .unit))) N
noncomputable def ins_184.ren : Go.Shelf.Ren := { f := fun i => cond (Nat.beq i 29) 209 (cond (Nat.beq i 30) 210 0), t := fun i => cond (Nat.beq i 24) 28 (cond (Nat.beq i 9) 127 (cond (Nat.beq i 3) 3 (cond (Nat.beq i 4) 4 0))), g := fun _ => 0 }
theorem ins_184.lays : InsP Tryz.prog (.pair (.int .i64) (.pair (.int .i64) (.pair (.int .i64) .unit))) ins_184.ren 184 Tryz.f184 Tryz.f209 := ⟨Tryz.func184.trans (by kernel_rfl), Tryz.underlying3, Tryz.underlying4, Tryz.underlying28, layB_ok (x := .inl 127) (by kernel_rfl), by decide, by kernel_rfl⟩
theorem sumins_184 (N : Nat) : SumOk Tryz.prog 184 (Sins_184 N) := insert_sum ins_184.lays ⟨Tryz.func209, by kernel_rfl, by kernel_rfl, by kernel_rfl, by kernel_rfl⟩ (by kernel_rfl) (by kernel_rfl) N
noncomputable abbrev Sins_186 (N : Nat) : Summ := insertS (.pair (.int .i64) (.pair (.int .i64) (.pair (.int .i64) .unit))) N
noncomputable def ins_186.ren : Go.Shelf.Ren := { f := fun i => cond (Nat.beq i 29) 211 (cond (Nat.beq i 30) 212 0), t := fun i => cond (Nat.beq i 24) 27 (cond (Nat.beq i 9) 125 (cond (Nat.beq i 3) 3 (cond (Nat.beq i 4) 4 0))), g := fun _ => 0 }
theorem ins_186.lays : InsP Tryz.prog (.pair (.int .i64) (.pair (.int .i64) (.pair (.int .i64) .unit))) ins_186.ren 186 Tryz.f186 Tryz.f211 := ⟨Tryz.func186.trans (by kernel_rfl), Tryz.underlying3, Tryz.underlying4, Tryz.underlying27, layB_ok (x := .inl 125) (by kernel_rfl), by decide, by kernel_rfl⟩
theorem sumins_186 (N : Nat) : SumOk Tryz.prog 186 (Sins_186 N) := insert_sum ins_186.lays ⟨Tryz.func211, by kernel_rfl, by kernel_rfl, by kernel_rfl, by kernel_rfl⟩ (by kernel_rfl) (by kernel_rfl) N
noncomputable abbrev Sins_256 (N : Nat) : Summ := insertS (.int .i64) N
noncomputable def ins_256.ren : Go.Shelf.Ren := { f := fun i => cond (Nat.beq i 29) 279 (cond (Nat.beq i 30) 280 0), t := fun i => cond (Nat.beq i 24) 44 (cond (Nat.beq i 9) 3 (cond (Nat.beq i 3) 3 (cond (Nat.beq i 4) 4 0))), g := fun _ => 0 }
theorem ins_256.lays : InsP Tryz.prog (.int .i64) ins_256.ren 256 Tryz.f256 Tryz.f279 := ⟨Tryz.func256.trans (by kernel_rfl), Tryz.underlying3, Tryz.underlying4, Tryz.underlying44, layB_ok (x := .inl 3) (by kernel_rfl), by decide, by kernel_rfl⟩
theorem sumins_256 (N : Nat) : SumOk Tryz.prog 256 (Sins_256 N) := insert_sum ins_256.lays ⟨Tryz.func279, by kernel_rfl, by kernel_rfl, by kernel_rfl, by kernel_rfl⟩ (by kernel_rfl) (by kernel_rfl) N
noncomputable def X103 (N : Nat) : Fx := ⟨22, tab, [], N, Tryz.f103, [], [.v tConfig, .v tBook], [], none⟩
noncomputable abbrev S103 (N : Nat) : Summ := (X103 N).S false (novationlaw29_small N)
theorem env103 (N : Nat) : EnvOk Tryz.prog (X103 N).E := Fx.envOk (X103 N) tabok trivial (by kernel_rfl)
theorem run103 (N : Nat) : ∀ x, evF (X103 N).E (X103 N).fn (X103 N).args (X103 N).res x = uncA (X103 N).args (novationlaw29_small N) x := Fx.run0 (by kernel_rfl)
theorem sum103 (N : Nat) : SumOk Tryz.prog 103 (S103 N) := Fx.ok0 (X103 N) tabok Tryz.func103 (by kernel_rfl) trivial (by kernel_rfl)

noncomputable def X132 (N : Nat) : Fx := ⟨15, tab, [], N, Tryz.f132, [.v I, .v I, .v I], [.v B], [], none⟩
noncomputable abbrev S132 (N : Nat) : Summ := (X132 N).S true (plan_in N)
theorem sum132 (N : Nat) : SumOk Tryz.prog 132 (S132 N) := Fx.ok0 (X132 N) tabok Tryz.func132 (by kernel_rfl) trivial (by kernel_rfl)

noncomputable def X73 (N : Nat) : Fx := ⟨68, tab, [(132, S132 N)], N, Tryz.f73, [.v tConfig], [.v B], [⟨9, [(1, .obj tConfig), (11, .v LtI4), (12, .v I), (13, .v I)], [1, 1, 0, 1, 0, 0], []⟩], none⟩
noncomputable abbrev S73 (N : Nat) : Summ := (X73 N).S true (plan_Right N)
theorem h73_9 (N : Nat) (K ρ) : (X73 N).bd K ρ 9 = plan_Right.l4b N ((X73 N).kc ρ 9) := by kernel_rfl
theorem o73_9 (N : Nat) (ρ) : (X73 N).kc ((X73 N).sem ρ) 9 = plan_Right.l4 N N := Fx.okL [] (by kernel_rfl) (fun K ρ => by kernel_rfl) (h73_9 N) ρ (plan_Right.l4 N) rfl fun n ρ' e d => by rw [e]; rfl
theorem h73 (N : Nat) (K) : (X73 N).top K = plan_Right.b N ((X73 N).kc K 9) := by kernel_rfl
theorem sum73 (N : Nat) : SumOk Tryz.prog 73 (S73 N) := Fx.ok1 (X73 N) tabok Tryz.func73 (by kernel_rfl) ⟨sum132 N, trivial⟩ [9] (fun K => by kernel_rfl) (h73 N) (by rw [o73_9]; rfl)

noncomputable def X126 (N : Nat) : Fx := ⟨46, tab, [], N, Tryz.f126, [.v LtI2], [.v B], [⟨5, [(0, .v LtI2), (5, .v LtI2), (6, .v I), (7, .v I)], [1, 0, 1, 0, 0], []⟩], none⟩
noncomputable abbrev S126 (N : Nat) : Summ := (X126 N).S true (roll_Members N)
theorem h126_5 (N : Nat) (K ρ) : (X126 N).bd K ρ 5 = roll_Members.l2b N ((X126 N).kc ρ 5) := by kernel_rfl
theorem o126_5 (N : Nat) (ρ) : (X126 N).kc ((X126 N).sem ρ) 5 = roll_Members.l2 N N := Fx.okL [] (by kernel_rfl) (fun K ρ => by kernel_rfl) (h126_5 N) ρ (roll_Members.l2 N) rfl fun n ρ' e d => by rw [e]; rfl
theorem h126 (N : Nat) (K) : (X126 N).top K = roll_Members.b N ((X126 N).kc K 5) := by kernel_rfl
theorem sum126 (N : Nat) : SumOk Tryz.prog 126 (S126 N) := Fx.ok1 (X126 N) tabok Tryz.func126 (by kernel_rfl) trivial [5] (fun K => by kernel_rfl) (h126 N) (by rw [o126_5]; rfl)

noncomputable def X125 (N : Nat) : Fx := ⟨77, tab, [], N, Tryz.f125, [.v LtI4], [.v B], [⟨7, [(0, .v LtI4), (3, .obj (.arr 13 B)), (6, .v LtI4), (7, .v I), (8, .v I)], [1, 1, 0, 1, 0, 0], []⟩], none⟩
noncomputable abbrev S125 (N : Nat) : Summ := (X125 N).S true (roll_Accs N)
theorem h125_7 (N : Nat) (K ρ) : (X125 N).bd K ρ 7 = roll_Accs.l3b N ((X125 N).kc ρ 7) := by kernel_rfl
theorem o125_7 (N : Nat) (ρ) : (X125 N).kc ((X125 N).sem ρ) 7 = roll_Accs.l3 N N := Fx.okL [] (by kernel_rfl) (fun K ρ => by kernel_rfl) (h125_7 N) ρ (roll_Accs.l3 N) rfl fun n ρ' e d => by rw [e]; rfl
theorem h125 (N : Nat) (K) : (X125 N).top K = roll_Accs.b N ((X125 N).kc K 7) := by kernel_rfl
theorem sum125 (N : Nat) : SumOk Tryz.prog 125 (S125 N) := Fx.ok1 (X125 N) tabok Tryz.func125 (by kernel_rfl) trivial [7] (fun K => by kernel_rfl) (h125 N) (by rw [o125_7]; rfl)

noncomputable def X60 (N : Nat) : Fx := ⟨23, tab, [(126, S126 N)], N, Tryz.f60, [.v LtI2, .v I], [.v I], [⟨9, [(1, .v I), (10, .v LtI2), (11, .v I), (12, .v I)], [1, 1, 0, 1, 0, 0], []⟩], none⟩
noncomputable abbrev S60 (N : Nat) : Summ := (X60 N).S true (roll_Status N)
theorem h60_9 (N : Nat) (K ρ) : (X60 N).bd K ρ 9 = roll_Status.l4b N ((X60 N).kc ρ 9) := by kernel_rfl
theorem o60_9 (N : Nat) (ρ) : (X60 N).kc ((X60 N).sem ρ) 9 = roll_Status.l4 N N := Fx.okL [] (by kernel_rfl) (fun K ρ => by kernel_rfl) (h60_9 N) ρ (roll_Status.l4 N) rfl fun n ρ' e d => by rw [e]; rfl
theorem h60 (N : Nat) (K) : (X60 N).top K = roll_Status.b N ((X60 N).kc K 9) := by kernel_rfl
theorem sum60 (N : Nat) : SumOk Tryz.prog 60 (S60 N) := Fx.ok1 (X60 N) tabok Tryz.func60 (by kernel_rfl) ⟨sum126 N, trivial⟩ [9] (fun K => by kernel_rfl) (h60 N) (by rw [o60_9]; rfl)

noncomputable def X74 (N : Nat) : Fx := ⟨27, tab, [(126, S126 N), (125, S125 N), (60, S60 N)], N, Tryz.f74, [.v LtI2, .v LtI4], [.v B], [⟨9, [(0, .v LtI2), (15, .v LtI4), (16, .v I), (17, .v I)], [1, 1, 0, 1, 0, 0], []⟩], none⟩
noncomputable abbrev S74 (N : Nat) : Summ := (X74 N).S true (roll_Right N)
theorem h74_9 (N : Nat) (K ρ) : (X74 N).bd K ρ 9 = roll_Right.l4b N ((X74 N).kc ρ 9) := by kernel_rfl
theorem o74_9 (N : Nat) (ρ) : (X74 N).kc ((X74 N).sem ρ) 9 = roll_Right.l4 N N := Fx.okL [] (by kernel_rfl) (fun K ρ => by kernel_rfl) (h74_9 N) ρ (roll_Right.l4 N) rfl fun n ρ' e d => by rw [e]; rfl
theorem h74 (N : Nat) (K) : (X74 N).top K = roll_Right.b N ((X74 N).kc K 9) := by kernel_rfl
theorem sum74 (N : Nat) : SumOk Tryz.prog 74 (S74 N) := Fx.ok1 (X74 N) tabok Tryz.func74 (by kernel_rfl) ⟨sum126 N, sum125 N, sum60 N, trivial⟩ [9] (fun K => by kernel_rfl) (h74 N) (by rw [o74_9]; rfl)

noncomputable def X133 (N : Nat) : Fx := ⟨30, tab, [], N, Tryz.f133, [.v I, .v I], [.v B], [], none⟩
noncomputable abbrev S133 (N : Nat) : Summ := (X133 N).S true (ledger_Key N)
theorem sum133 (N : Nat) : SumOk Tryz.prog 133 (S133 N) := Fx.ok0 (X133 N) tabok Tryz.func133 (by kernel_rfl) trivial (by kernel_rfl)

noncomputable def X134 (N : Nat) : Fx := ⟨19, tab, [], N, Tryz.f134, [.v I, .v I, .v tI3], [.v I], [], none⟩
noncomputable abbrev S134 (N : Nat) : Summ := (X134 N).S true (ledger_order N)
theorem sum134 (N : Nat) : SumOk Tryz.prog 134 (S134 N) := Fx.ok0 (X134 N) tabok Tryz.func134 (by kernel_rfl) trivial (by kernel_rfl)

noncomputable def X75 (N : Nat) : Fx := ⟨41, tab, [(133, S133 N), (134, S134 N)], N, Tryz.f75, [.v LtI3], [.v B], [⟨5, [(0, .v LtI3), (5, .v LtI3), (6, .v I), (7, .v I)], [1, 0, 1, 0, 0], []⟩], none⟩
noncomputable abbrev S75 (N : Nat) : Summ := (X75 N).S true (ledger_Right N)
theorem h75_5 (N : Nat) (K ρ) : (X75 N).bd K ρ 5 = ledger_Right.l2b N ((X75 N).kc ρ 5) := by kernel_rfl
theorem o75_5 (N : Nat) (ρ) : (X75 N).kc ((X75 N).sem ρ) 5 = ledger_Right.l2 N N := Fx.okL [] (by kernel_rfl) (fun K ρ => by kernel_rfl) (h75_5 N) ρ (ledger_Right.l2 N) rfl fun n ρ' e d => by rw [e]; rfl
theorem h75 (N : Nat) (K) : (X75 N).top K = ledger_Right.b N ((X75 N).kc K 5) := by kernel_rfl
theorem sum75 (N : Nat) : SumOk Tryz.prog 75 (S75 N) := Fx.ok1 (X75 N) tabok Tryz.func75 (by kernel_rfl) ⟨sum133 N, sum134 N, trivial⟩ [5] (fun K => by kernel_rfl) (h75 N) (by rw [o75_5]; rfl)

noncomputable def X61 (N : Nat) : Fx := ⟨8, tab, [], N, Tryz.f61, [.v I], [.v tWide], [], none⟩
noncomputable abbrev S61 (N : Nat) : Summ := (X61 N).S true (wide_Of N)
theorem sum61 (N : Nat) : SumOk Tryz.prog 61 (S61 N) := Fx.ok0 (X61 N) tabok Tryz.func61 (by kernel_rfl) trivial (by kernel_rfl)

noncomputable def X136 (N : Nat) : Fx := ⟨51, tab, [(188, Sadd64 N)], N, Tryz.f136, [.v LtWide], [.v tWide, .v B], [⟨7, [(2, .obj tWide), (4, .v I), (5, .v U), (6, .v U), (10, .v LtWide), (11, .v I), (12, .v I)], [1, 1, 0, 1, 0, 0], []⟩], none⟩
noncomputable abbrev S136 (N : Nat) : Summ := (X136 N).S true (wide_Sum N)
theorem h136_7 (N : Nat) (K ρ) : (X136 N).bd K ρ 7 = wide_Sum.l3b N ((X136 N).kc ρ 7) := by kernel_rfl
theorem o136_7 (N : Nat) (ρ) : (X136 N).kc ((X136 N).sem ρ) 7 = wide_Sum.l3 N N := Fx.okL [] (by kernel_rfl) (fun K ρ => by kernel_rfl) (h136_7 N) ρ (wide_Sum.l3 N) rfl fun n ρ' e d => by rw [e]; rfl
theorem h136 (N : Nat) (K) : (X136 N).top K = wide_Sum.b N ((X136 N).kc K 7) := by kernel_rfl
theorem sum136 (N : Nat) : SumOk Tryz.prog 136 (S136 N) := Fx.ok1 (X136 N) tabok Tryz.func136 (by kernel_rfl) ⟨sumadd64 N, trivial⟩ [7] (fun K => by kernel_rfl) (h136 N) (by rw [o136_7]; rfl)

noncomputable def X77 (N : Nat) : Fx := ⟨31, tab, [(75, S75 N), (61, S61 N), (136, S136 N)], N, Tryz.f77, [.v LtI3], [.v tWide], [⟨11, [(2, .obj tWide), (3, .own tWide), (12, .v LtI3), (13, .v I), (14, .v I)], [1, 1, 1, 0, 1, 0, 0], []⟩], none⟩
noncomputable abbrev S77 (N : Nat) : Summ := (X77 N).S true (ledger_Total N)
theorem h77_11 (N : Nat) (K ρ) : (X77 N).bd K ρ 11 = ledger_Total.l5b N ((X77 N).kc ρ 11) := by kernel_rfl
theorem o77_11 (N : Nat) (ρ) : (X77 N).kc ((X77 N).sem ρ) 11 = ledger_Total.l5 N N := Fx.okL [] (by kernel_rfl) (fun K ρ => by kernel_rfl) (h77_11 N) ρ (ledger_Total.l5 N) rfl fun n ρ' e d => by rw [e]; rfl
theorem h77 (N : Nat) (K) : (X77 N).top K = ledger_Total.b N ((X77 N).kc K 11) := by kernel_rfl
theorem sum77 (N : Nat) : SumOk Tryz.prog 77 (S77 N) := Fx.ok1 (X77 N) tabok Tryz.func77 (by kernel_rfl) ⟨sum75 N, sum61 N, sum136 N, trivial⟩ [11] (fun K => by kernel_rfl) (h77 N) (by rw [o77_11]; rfl)

noncomputable def X135 (N : Nat) : Fx := ⟨27, tab, [], N, Tryz.f135, [.v tWide, .v tWide], [.v I], [], none⟩
noncomputable abbrev S135 (N : Nat) : Summ := (X135 N).S true (wide_Cmp N)
theorem sum135 (N : Nat) : SumOk Tryz.prog 135 (S135 N) := Fx.ok0 (X135 N) tabok Tryz.func135 (by kernel_rfl) trivial (by kernel_rfl)

noncomputable def X76 (N : Nat) : Fx := ⟨6, tab, [(135, S135 N)], N, Tryz.f76, [.v tWide], [.v I], [], none⟩
noncomputable abbrev S76 (N : Nat) : Summ := (X76 N).S true (wide_Sign N)
theorem sum76 (N : Nat) : SumOk Tryz.prog 76 (S76 N) := Fx.ok0 (X76 N) tabok Tryz.func76 (by kernel_rfl) ⟨sum135 N, trivial⟩ (by kernel_rfl)

noncomputable def X150 (N : Nat) : Fx := ⟨19, tab, [], N, Tryz.f150, [.v I, .v I], [.v B], [], none⟩
noncomputable abbrev S150 (N : Nat) : Summ := (X150 N).S true (stock_key N)
theorem sum150 (N : Nat) : SumOk Tryz.prog 150 (S150 N) := Fx.ok0 (X150 N) tabok Tryz.func150 (by kernel_rfl) trivial (by kernel_rfl)

noncomputable def X173 (N : Nat) : Fx := ⟨5, tab, [], N, Tryz.f173, [.v I], [.v B], [], none⟩
noncomputable abbrev S173 (N : Nat) : Summ := (X173 N).S true (stock_Quantity N)
theorem sum173 (N : Nat) : SumOk Tryz.prog 173 (S173 N) := Fx.ok0 (X173 N) tabok Tryz.func173 (by kernel_rfl) trivial (by kernel_rfl)

noncomputable def X183 (N : Nat) : Fx := ⟨19, tab, [], N, Tryz.f183, [.v I, .v I, .v tI3], [.v I], [], none⟩
noncomputable abbrev S183 (N : Nat) : Summ := (X183 N).S true (stock_order N)
theorem sum183 (N : Nat) : SumOk Tryz.prog 183 (S183 N) := Fx.ok0 (X183 N) tabok Tryz.func183 (by kernel_rfl) trivial (by kernel_rfl)

noncomputable def X138 (N : Nat) : Fx := ⟨47, tab, [(150, S150 N), (173, S173 N), (183, S183 N)], N, Tryz.f138, [.v LtI3], [.v B], [⟨5, [(0, .v LtI3), (5, .v LtI3), (6, .v I), (7, .v I)], [1, 0, 1, 0, 0], []⟩], none⟩
noncomputable abbrev S138 (N : Nat) : Summ := (X138 N).S true (stock_Right N)
theorem h138_5 (N : Nat) (K ρ) : (X138 N).bd K ρ 5 = stock_Right.l2b N ((X138 N).kc ρ 5) := by kernel_rfl
theorem o138_5 (N : Nat) (ρ) : (X138 N).kc ((X138 N).sem ρ) 5 = stock_Right.l2 N N := Fx.okL [] (by kernel_rfl) (fun K ρ => by kernel_rfl) (h138_5 N) ρ (stock_Right.l2 N) rfl fun n ρ' e d => by rw [e]; rfl
theorem h138 (N : Nat) (K) : (X138 N).top K = stock_Right.b N ((X138 N).kc K 5) := by kernel_rfl
theorem sum138 (N : Nat) : SumOk Tryz.prog 138 (S138 N) := Fx.ok1 (X138 N) tabok Tryz.func138 (by kernel_rfl) ⟨sum150 N, sum173 N, sum183 N, trivial⟩ [5] (fun K => by kernel_rfl) (h138 N) (by rw [o138_5]; rfl)

noncomputable def X137 (N : Nat) : Fx := ⟨37, tab, [(138, S138 N), (61, S61 N), (136, S136 N)], N, Tryz.f137, [.v LtI3, .v I], [.v tWide], [⟨11, [(1, .v I), (4, .obj tWide), (5, .own tWide), (14, .v LtI3), (15, .v I), (16, .v I)], [1, 1, 1, 0, 1, 0, 0], []⟩], none⟩
noncomputable abbrev S137 (N : Nat) : Summ := (X137 N).S true (stock_Sum N)
theorem h137_11 (N : Nat) (K ρ) : (X137 N).bd K ρ 11 = stock_Sum.l5b N ((X137 N).kc ρ 11) := by kernel_rfl
theorem o137_11 (N : Nat) (ρ) : (X137 N).kc ((X137 N).sem ρ) 11 = stock_Sum.l5 N N := Fx.okL [] (by kernel_rfl) (fun K ρ => by kernel_rfl) (h137_11 N) ρ (stock_Sum.l5 N) rfl fun n ρ' e d => by rw [e]; rfl
theorem h137 (N : Nat) (K) : (X137 N).top K = stock_Sum.b N ((X137 N).kc K 11) := by kernel_rfl
theorem sum137 (N : Nat) : SumOk Tryz.prog 137 (S137 N) := Fx.ok1 (X137 N) tabok Tryz.func137 (by kernel_rfl) ⟨sum138 N, sum61 N, sum136 N, trivial⟩ [11] (fun K => by kernel_rfl) (h137 N) (by rw [o137_11]; rfl)

noncomputable def X78 (N : Nat) : Fx := ⟨15, tab, [(137, S137 N), (76, S76 N), (138, S138 N)], N, Tryz.f78, [.v LtI3], [.v B], [⟨5, [(0, .v LtI3), (4, .v I)], [1, 0, 1, 0, 0], []⟩], none⟩
noncomputable abbrev S78 (N : Nat) : Summ := (X78 N).S true (stock_Flat N)
theorem h78_5 (N : Nat) (K ρ) : (X78 N).bd K ρ 5 = stock_Flat.l2b N ((X78 N).kc ρ 5) := by kernel_rfl
theorem o78_5 (N : Nat) (ρ) : (X78 N).kc ((X78 N).sem ρ) 5 = stock_Flat.l2 N N := Fx.okL [] (by kernel_rfl) (fun K ρ => by kernel_rfl) (h78_5 N) ρ (stock_Flat.l2 N) rfl fun n ρ' e d => by rw [e]; rfl
theorem h78 (N : Nat) (K) : (X78 N).top K = stock_Flat.b N ((X78 N).kc K 5) := by kernel_rfl
theorem sum78 (N : Nat) : SumOk Tryz.prog 78 (S78 N) := Fx.ok1 (X78 N) tabok Tryz.func78 (by kernel_rfl) ⟨sum137 N, sum76 N, sum138 N, trivial⟩ [5] (fun K => by kernel_rfl) (h78 N) (by rw [o78_5]; rfl)

noncomputable def X139 (N : Nat) : Fx := ⟨61, tab, [], N, Tryz.f139, [.v tI6], [.v B], [], none⟩
noncomputable abbrev S139 (N : Nat) : Summ := (X139 N).S true (queue_Order N)
theorem sum139 (N : Nat) : SumOk Tryz.prog 139 (S139 N) := Fx.ok0 (X139 N) tabok Tryz.func139 (by kernel_rfl) trivial (by kernel_rfl)

noncomputable def X79 (N : Nat) : Fx := ⟨34, tab, [(139, S139 N)], N, Tryz.f79, [.v LtI6], [.v B], [⟨5, [(0, .v LtI6), (5, .v LtI6), (6, .v I), (7, .v I)], [1, 0, 1, 0, 0], []⟩], none⟩
noncomputable abbrev S79 (N : Nat) : Summ := (X79 N).S true (queue_Right N)
theorem h79_5 (N : Nat) (K ρ) : (X79 N).bd K ρ 5 = queue_Right.l2b N ((X79 N).kc ρ 5) := by kernel_rfl
theorem o79_5 (N : Nat) (ρ) : (X79 N).kc ((X79 N).sem ρ) 5 = queue_Right.l2 N N := Fx.okL [] (by kernel_rfl) (fun K ρ => by kernel_rfl) (h79_5 N) ρ (queue_Right.l2 N) rfl fun n ρ' e d => by rw [e]; rfl
theorem h79 (N : Nat) (K) : (X79 N).top K = queue_Right.b N ((X79 N).kc K 5) := by kernel_rfl
theorem sum79 (N : Nat) : SumOk Tryz.prog 79 (S79 N) := Fx.ok1 (X79 N) tabok Tryz.func79 (by kernel_rfl) ⟨sum139 N, trivial⟩ [5] (fun K => by kernel_rfl) (h79 N) (by rw [o79_5]; rfl)

noncomputable def X140 (N : Nat) : Fx := ⟨25, tab, [(125, S125 N)], N, Tryz.f140, [.v LtI4, .v I], [.v tI4, .v B], [⟨9, [(1, .v I), (4, .obj tI4), (12, .v LtI4), (13, .v I), (14, .v I)], [1, 1, 0, 1, 0, 0], []⟩], none⟩
noncomputable abbrev S140 (N : Nat) : Summ := (X140 N).S true (roll_Find N)
theorem h140_9 (N : Nat) (K ρ) : (X140 N).bd K ρ 9 = roll_Find.l4b N ((X140 N).kc ρ 9) := by kernel_rfl
theorem o140_9 (N : Nat) (ρ) : (X140 N).kc ((X140 N).sem ρ) 9 = roll_Find.l4 N N := Fx.okL [] (by kernel_rfl) (fun K ρ => by kernel_rfl) (h140_9 N) ρ (roll_Find.l4 N) rfl fun n ρ' e d => by rw [e]; rfl
theorem h140 (N : Nat) (K) : (X140 N).top K = roll_Find.b N ((X140 N).kc K 9) := by kernel_rfl
theorem sum140 (N : Nat) : SumOk Tryz.prog 140 (S140 N) := Fx.ok1 (X140 N) tabok Tryz.func140 (by kernel_rfl) ⟨sum125 N, trivial⟩ [9] (fun K => by kernel_rfl) (h140 N) (by rw [o140_9]; rfl)

noncomputable def X80 (N : Nat) : Fx := ⟨15, tab, [(140, S140 N)], N, Tryz.f80, [.v tBook, .v I], [.v B], [], none⟩
noncomputable abbrev S80 (N : Nat) : Summ := (X80 N).S true (book_Acc N)
theorem sum80 (N : Nat) : SumOk Tryz.prog 80 (S80 N) := Fx.ok0 (X80 N) tabok Tryz.func80 (by kernel_rfl) ⟨sum140 N, trivial⟩ (by kernel_rfl)

noncomputable def X83 (N : Nat) : Fx := ⟨9, tab, [], N, Tryz.f83, [.v I], [.v B], [], none⟩
noncomputable abbrev S83 (N : Nat) : Summ := (X83 N).S true (mark_Price N)
theorem sum83 (N : Nat) : SumOk Tryz.prog 83 (S83 N) := Fx.ok0 (X83 N) tabok Tryz.func83 (by kernel_rfl) trivial (by kernel_rfl)

noncomputable def X82 (N : Nat) : Fx := ⟨6, tab, [(83, S83 N)], N, Tryz.f82, [.v I], [.v B], [], none⟩
noncomputable abbrev S82 (N : Nat) : Summ := (X82 N).S true (book_Right_1 N)
theorem sum82 (N : Nat) : SumOk Tryz.prog 82 (S82 N) := Fx.ok0 (X82 N) tabok Tryz.func82 (by kernel_rfl) ⟨sum83 N, trivial⟩ (by kernel_rfl)

noncomputable def X141 (N : Nat) : Fx := ⟨19, tab, [(82, S82 N)], N, Tryz.f141, [.v LI, .fn 82 .unit], [.v I], [⟨5, [(0, .v LI), (1, .fn 82 .unit), (7, .v I), (8, .v I)], [1, 0, 1, 0, 0], []⟩], none⟩
noncomputable abbrev S141 (N : Nat) : Summ := (X141 N).S true (slices_IndexFunc_int64__book_Right_1 N)
theorem h141_5 (N : Nat) (K ρ) : (X141 N).bd K ρ 5 = slices_IndexFunc_int64__book_Right_1.l2b N ((X141 N).kc ρ 5) := by kernel_rfl
theorem o141_5 (N : Nat) (ρ) : (X141 N).kc ((X141 N).sem ρ) 5 = slices_IndexFunc_int64__book_Right_1.l2 N N := Fx.okL [] (by kernel_rfl) (fun K ρ => by kernel_rfl) (h141_5 N) ρ (slices_IndexFunc_int64__book_Right_1.l2 N) rfl fun n ρ' e d => by rw [e]; rfl
theorem h141 (N : Nat) (K) : (X141 N).top K = slices_IndexFunc_int64__book_Right_1.b N ((X141 N).kc K 5) := by kernel_rfl
theorem sum141 (N : Nat) : SumOk Tryz.prog 141 (S141 N) := Fx.ok1 (X141 N) tabok Tryz.func141 (by kernel_rfl) ⟨sum82 N, trivial⟩ [5] (fun K => by kernel_rfl) (h141 N) (by rw [o141_5]; rfl)

noncomputable def X81 (N : Nat) : Fx := ⟨9, tab, [(141, S141 N)], N, Tryz.f81, [.v LI, .fn 82 .unit], [.v B], [], none⟩
noncomputable abbrev S81 (N : Nat) : Summ := (X81 N).S true (slices_ContainsFunc_int64__book_Right_1 N)
theorem sum81 (N : Nat) : SumOk Tryz.prog 81 (S81 N) := Fx.ok0 (X81 N) tabok Tryz.func81 (by kernel_rfl) ⟨sum141 N, trivial⟩ (by kernel_rfl)

noncomputable def X28 (N : Nat) : Fx := ⟨133, tab, [(73, S73 N), (74, S74 N), (75, S75 N), (77, S77 N), (76, S76 N), (78, S78 N), (79, S79 N), (80, S80 N), (60, S60 N), (81, S81 N)], N, Tryz.f28, [.v tConfig, .v tBook], [.v B], [⟨45, [(2, .obj tConfig), (3, .obj tBook), (109, .v LtI6), (110, .v I), (111, .v I)], [1, 1, 1, 1, 0, 1, 0, 0], []⟩, ⟨33, [(2, .obj tConfig), (3, .obj tBook), (83, .v LtI3), (84, .v I), (85, .v I)], [1, 1, 1, 0, 1, 0, 0], []⟩, ⟨9, [(2, .obj tConfig), (3, .obj tBook), (57, .v LtI3), (58, .v I), (59, .v I)], [1, 1, 0, 1, 0, 0], []⟩], none⟩
noncomputable abbrev S28 (N : Nat) : Summ := (X28 N).S true (book_Right N)
theorem h28_45 (N : Nat) (K ρ) : (X28 N).bd K ρ 45 = book_Right.l22b N ((X28 N).kc ρ 45) := by kernel_rfl
theorem o28_45 (N : Nat) (ρ) : (X28 N).kc ((X28 N).sem ρ) 45 = book_Right.l22 N N := Fx.okL [] (by kernel_rfl) (fun K ρ => by kernel_rfl) (h28_45 N) ρ (book_Right.l22 N) rfl fun n ρ' e d => by rw [e]; rfl
theorem h28_33 (N : Nat) (K ρ) : (X28 N).bd K ρ 33 = book_Right.l16b N ((X28 N).kc K 45) ((X28 N).kc ρ 33) := by kernel_rfl
theorem o28_33 (N : Nat) (ρ) : (X28 N).kc ((X28 N).sem ρ) 33 = book_Right.l16 N N := Fx.okL [45] (by kernel_rfl) (fun K ρ => by kernel_rfl) (h28_33 N) ρ (book_Right.l16 N) rfl fun n ρ' e d => by rw [o28_45, e]; rfl
theorem h28_9 (N : Nat) (K ρ) : (X28 N).bd K ρ 9 = book_Right.l4b N ((X28 N).kc K 33) ((X28 N).kc ρ 9) := by kernel_rfl
theorem o28_9 (N : Nat) (ρ) : (X28 N).kc ((X28 N).sem ρ) 9 = book_Right.l4 N N := Fx.okL [33, 45] (by kernel_rfl) (fun K ρ => by kernel_rfl) (h28_9 N) ρ (book_Right.l4 N) rfl fun n ρ' e d => by rw [o28_33, e]; rfl
theorem h28 (N : Nat) (K) : (X28 N).top K = book_Right.b N ((X28 N).kc K 9) := by kernel_rfl
theorem sum28 (N : Nat) : SumOk Tryz.prog 28 (S28 N) := Fx.ok1 (X28 N) tabok Tryz.func28 (by kernel_rfl) ⟨sum73 N, sum74 N, sum75 N, sum77 N, sum76 N, sum78 N, sum79 N, sum80 N, sum60 N, sum81 N, trivial⟩ [9, 33, 45] (fun K => by kernel_rfl) (h28 N) (by rw [o28_9]; rfl)

noncomputable def X153 (N : Nat) : Fx := ⟨31, tab, [(138, S138 N)], N, Tryz.f153, [.v LtI3, .v I, .v I], [.v I], [⟨9, [(1, .v I), (2, .v I), (12, .v LtI3), (13, .v I), (14, .v I)], [1, 1, 0, 1, 0, 0], []⟩], none⟩
noncomputable abbrev S153 (N : Nat) : Summ := (X153 N).S true (stock_Get N)
theorem h153_9 (N : Nat) (K ρ) : (X153 N).bd K ρ 9 = stock_Get.l4b N ((X153 N).kc ρ 9) := by kernel_rfl
theorem o153_9 (N : Nat) (ρ) : (X153 N).kc ((X153 N).sem ρ) 9 = stock_Get.l4 N N := Fx.okL [] (by kernel_rfl) (fun K ρ => by kernel_rfl) (h153_9 N) ρ (stock_Get.l4 N) rfl fun n ρ' e d => by rw [e]; rfl
theorem h153 (N : Nat) (K) : (X153 N).top K = stock_Get.b N ((X153 N).kc K 9) := by kernel_rfl
theorem sum153 (N : Nat) : SumOk Tryz.prog 153 (S153 N) := Fx.ok1 (X153 N) tabok Tryz.func153 (by kernel_rfl) ⟨sum138 N, trivial⟩ [9] (fun K => by kernel_rfl) (h153 N) (by rw [o153_9]; rfl)

noncomputable def X154 (N : Nat) : Fx := ⟨10, tab, [], N, Tryz.f154, [.v I], [.v U], [], none⟩
noncomputable abbrev S154 (N : Nat) : Summ := (X154 N).S true (amount_Size N)
theorem sum154 (N : Nat) : SumOk Tryz.prog 154 (S154 N) := Fx.ok0 (X154 N) tabok Tryz.func154 (by kernel_rfl) trivial (by kernel_rfl)

noncomputable def X235 (N : Nat) : Fx := ⟨5, tab, [], N, Tryz.f235, [.v I], [.v B], [], none⟩
noncomputable abbrev S235 (N : Nat) : Summ := (X235 N).S true (share_may_1 N)
theorem sum235 (N : Nat) : SumOk Tryz.prog 235 (S235 N) := Fx.ok0 (X235 N) tabok Tryz.func235 (by kernel_rfl) trivial (by kernel_rfl)

noncomputable def X141a (N : Nat) : Fx := ⟨19, tab, [(235, S235 N)], N, Tryz.f141, [.v LI, .fn 235 .unit], [.v I], [⟨5, [(0, .v LI), (1, .fn 235 .unit), (7, .v I), (8, .v I)], [1, 0, 1, 0, 0], []⟩], none⟩
noncomputable abbrev S141a (N : Nat) : Summ := (X141a N).S true (slices_IndexFunc_int64__share_may_1 N)
theorem h141a_5 (N : Nat) (K ρ) : (X141a N).bd K ρ 5 = slices_IndexFunc_int64__share_may_1.l2b N ((X141a N).kc ρ 5) := by kernel_rfl
theorem o141a_5 (N : Nat) (ρ) : (X141a N).kc ((X141a N).sem ρ) 5 = slices_IndexFunc_int64__share_may_1.l2 N N := Fx.okL [] (by kernel_rfl) (fun K ρ => by kernel_rfl) (h141a_5 N) ρ (slices_IndexFunc_int64__share_may_1.l2 N) rfl fun n ρ' e d => by rw [e]; rfl
theorem h141a (N : Nat) (K) : (X141a N).top K = slices_IndexFunc_int64__share_may_1.b N ((X141a N).kc K 5) := by kernel_rfl
theorem sum141a (N : Nat) : SumOk Tryz.prog 141 (S141a N) := Fx.ok1 (X141a N) tabok Tryz.func141 (by kernel_rfl) ⟨sum235 N, trivial⟩ [5] (fun K => by kernel_rfl) (h141a N) (by rw [o141a_5]; rfl)

noncomputable def X81a (N : Nat) : Fx := ⟨9, tab, [(141, S141a N)], N, Tryz.f81, [.v LI, .fn 235 .unit], [.v B], [], none⟩
noncomputable abbrev S81a (N : Nat) : Summ := (X81a N).S true (slices_ContainsFunc_int64__share_may_1 N)
theorem sum81a (N : Nat) : SumOk Tryz.prog 81 (S81a N) := Fx.ok0 (X81a N) tabok Tryz.func81 (by kernel_rfl) ⟨sum141a N, trivial⟩ (by kernel_rfl)

noncomputable def X196 (N : Nat) : Fx := ⟨11, tab, [(81, S81a N)], N, Tryz.f196, [.v LI], [.v B], [], none⟩
noncomputable abbrev S196 (N : Nat) : Summ := (X196 N).S true (share_may N)
theorem sum196 (N : Nat) : SumOk Tryz.prog 196 (S196 N) := Fx.ok0 (X196 N) tabok Tryz.func196 (by kernel_rfl) ⟨sum81a N, trivial⟩ (by kernel_rfl)

noncomputable def X197 (N : Nat) : Fx := ⟨39, tab, [(188, Sadd64 N)], N, Tryz.f197, [.v LI], [.v I, .v B], [⟨7, [(4, .v I), (5, .v U), (10, .v LI), (11, .v I), (12, .v I)], [1, 1, 0, 1, 0, 0], []⟩], none⟩
noncomputable abbrev S197 (N : Nat) : Summ := (X197 N).S true (amount_Sum N)
theorem h197_7 (N : Nat) (K ρ) : (X197 N).bd K ρ 7 = amount_Sum.l3b N ((X197 N).kc ρ 7) := by kernel_rfl
theorem o197_7 (N : Nat) (ρ) : (X197 N).kc ((X197 N).sem ρ) 7 = amount_Sum.l3 N N := Fx.okL [] (by kernel_rfl) (fun K ρ => by kernel_rfl) (h197_7 N) ρ (amount_Sum.l3 N) rfl fun n ρ' e d => by rw [e]; rfl
theorem h197 (N : Nat) (K) : (X197 N).top K = amount_Sum.b N ((X197 N).kc K 7) := by kernel_rfl
theorem sum197 (N : Nat) : SumOk Tryz.prog 197 (S197 N) := Fx.ok1 (X197 N) tabok Tryz.func197 (by kernel_rfl) ⟨sumadd64 N, trivial⟩ [7] (fun K => by kernel_rfl) (h197 N) (by rw [o197_7]; rfl)

noncomputable def X233 (N : Nat) : Fx := ⟨51, tab, [], N, Tryz.f233, [.v U, .v U], [.v U, .v U], [], none⟩
noncomputable abbrev S233 (N : Nat) : Summ := (X233 N).S true (bits_Mul64 N)
theorem sum233 (N : Nat) : SumOk Tryz.prog 233 (S233 N) := Fx.ok0 (X233 N) tabok Tryz.func233 (by kernel_rfl) trivial (by kernel_rfl)

noncomputable def X234 (N : Nat) : Fx := ⟨47, tab, [(194, Ssub64 N)], N, Tryz.f234, [.v B, .v U, .v U], [.v tWide, .v B], [⟨14, [(1, .v U), (2, .v U), (6, .obj tWide)], [1, 1, 1], []⟩], none⟩
noncomputable abbrev S234 (N : Nat) : Summ := (X234 N).S true (wide_signed N)
theorem h234_14 (N : Nat) (K ρ) : (X234 N).bd K ρ 14 = wide_signed.j7b N := by kernel_rfl
theorem o234_14 (N : Nat) (ρ) : (X234 N).kc ((X234 N).sem ρ) 14 = wide_signed.j7 N := (Fx.okJ [] (by kernel_rfl) (fun K ρ => by kernel_rfl) (h234_14 N) ρ).trans rfl
theorem h234 (N : Nat) (K) : (X234 N).top K = wide_signed.b N ((X234 N).kc K 14) := by kernel_rfl
theorem sum234 (N : Nat) : SumOk Tryz.prog 234 (S234 N) := Fx.ok1 (X234 N) tabok Tryz.func234 (by kernel_rfl) ⟨sumsub64 N, trivial⟩ [14] (fun K => by kernel_rfl) (h234 N) (by rw [o234_14]; rfl)

noncomputable def X195 (N : Nat) : Fx := ⟨29, tab, [(154, S154 N), (233, S233 N), (234, S234 N)], N, Tryz.f195, [.v I, .v I], [.v tWide], [], none⟩
noncomputable abbrev S195 (N : Nat) : Summ := (X195 N).S true (wide_Mul N)
theorem sum195 (N : Nat) : SumOk Tryz.prog 195 (S195 N) := Fx.ok0 (X195 N) tabok Tryz.func195 (by kernel_rfl) ⟨sum154 N, sum233 N, sum234 N, trivial⟩ (by kernel_rfl)

noncomputable def X254 (N : Nat) : Fx := ⟨32, tab, [(194, Ssub64 N)], N, Tryz.f254, [.v tWide], [.v U, .v U], [], none⟩
noncomputable abbrev S254 (N : Nat) : Summ := (X254 N).S true (wide_size N)
theorem sum254 (N : Nat) : SumOk Tryz.prog 254 (S254 N) := Fx.ok0 (X254 N) tabok Tryz.func254 (by kernel_rfl) ⟨sumsub64 N, trivial⟩ (by kernel_rfl)

noncomputable def X296 (N : Nat) : Fx := ⟨25, tab, [], N, Tryz.f296, [.v U], [.v I], [⟨14, [(0, .v U), (2, .v I)], [1, 1, 1], []⟩, ⟨8, [(0, .v U), (2, .v I)], [1, 1], []⟩], none⟩
noncomputable abbrev S296 (N : Nat) : Summ := (X296 N).S true (bits_Len64 N)
theorem h296_14 (N : Nat) (K ρ) : (X296 N).bd K ρ 14 = bits_Len64.j7b N := by kernel_rfl
theorem o296_14 (N : Nat) (ρ) : (X296 N).kc ((X296 N).sem ρ) 14 = bits_Len64.j7 N := (Fx.okJ [] (by kernel_rfl) (fun K ρ => by kernel_rfl) (h296_14 N) ρ).trans rfl
theorem h296_8 (N : Nat) (K ρ) : (X296 N).bd K ρ 8 = bits_Len64.j4b N ((X296 N).kc K 14) := by kernel_rfl
theorem o296_8 (N : Nat) (ρ) : (X296 N).kc ((X296 N).sem ρ) 8 = bits_Len64.j4 N := (Fx.okJ [14] (by kernel_rfl) (fun K ρ => by kernel_rfl) (h296_8 N) ρ).trans (by rw [o296_14]; rfl)
theorem h296 (N : Nat) (K) : (X296 N).top K = bits_Len64.b N ((X296 N).kc K 8) := by kernel_rfl
theorem sum296 (N : Nat) : SumOk Tryz.prog 296 (S296 N) := Fx.ok1 (X296 N) tabok Tryz.func296 (by kernel_rfl) trivial [8, 14] (fun K => by kernel_rfl) (h296 N) (by rw [o296_8]; rfl)

noncomputable def X278 (N : Nat) : Fx := ⟨6, tab, [(296, S296 N)], N, Tryz.f278, [.v U], [.v I], [], none⟩
noncomputable abbrev S278 (N : Nat) : Summ := (X278 N).S true (bits_LeadingZeros64 N)
theorem sum278 (N : Nat) : SumOk Tryz.prog 278 (S278 N) := Fx.ok0 (X278 N) tabok Tryz.func278 (by kernel_rfl) ⟨sum296 N, trivial⟩ (by kernel_rfl)

noncomputable def X255 (N : Nat) : Fx := ⟨135, tab, [(278, S278 N)], N, Tryz.f255, [.v U, .v U, .v U], [.v U, .v U], [⟨56, [(2, .v U), (8, .v U), (14, .v U), (15, .v U), (17, .v U), (18, .v U)], [1, 1, 1, 1, 1, 1, 1, 1, 1, 1, 1, 1, 1, 1, 1, 1, 1, 1, 1], []⟩, ⟨49, [(2, .v U), (8, .v U), (9, .v U), (10, .v U), (14, .v U), (15, .v U), (16, .v U), (17, .v U), (18, .v U)], [1, 1, 1, 1, 1, 1, 1, 1, 1, 1, 1, 1, 1, 1, 1, 1, 1, 1, 0, 0, 0], []⟩, ⟨42, [(2, .v U), (8, .v U), (9, .v U), (10, .v U), (11, .v U), (13, .v U), (14, .v U), (15, .v U)], [1, 1, 1, 1, 1, 1, 1, 1, 1, 1, 1, 1, 1, 1, 1], []⟩, ⟨35, [(2, .v U), (8, .v U), (9, .v U), (10, .v U), (11, .v U), (13, .v U), (14, .v U), (15, .v U), (16, .v U)], [1, 1, 1, 1, 1, 1, 1, 1, 1, 1, 1, 1, 1, 1, 0, 0, 0], []⟩], none⟩
noncomputable abbrev S255 (N : Nat) : Summ := (X255 N).S true (bits_Div64 N)
theorem h255_56 (N : Nat) (K ρ) : (X255 N).bd K ρ 56 = bits_Div64.j28b N := by kernel_rfl
theorem o255_56 (N : Nat) (ρ) : (X255 N).kc ((X255 N).sem ρ) 56 = bits_Div64.j28 N := (Fx.okJ [] (by kernel_rfl) (fun K ρ => by kernel_rfl) (h255_56 N) ρ).trans rfl
theorem h255_49 (N : Nat) (K ρ) : (X255 N).bd K ρ 49 = bits_Div64.l24b N ((X255 N).kc K 56) ((X255 N).kc ρ 49) := by kernel_rfl
theorem o255_49 (N : Nat) (ρ) : (X255 N).kc ((X255 N).sem ρ) 49 = bits_Div64.l24 N N := Fx.okL [56] (by kernel_rfl) (fun K ρ => by kernel_rfl) (h255_49 N) ρ (bits_Div64.l24 N) rfl fun n ρ' e d => by rw [o255_56, e]; rfl
theorem h255_42 (N : Nat) (K ρ) : (X255 N).bd K ρ 42 = bits_Div64.j21b N ((X255 N).kc K 49) := by kernel_rfl
theorem o255_42 (N : Nat) (ρ) : (X255 N).kc ((X255 N).sem ρ) 42 = bits_Div64.j21 N := (Fx.okJ [49, 56] (by kernel_rfl) (fun K ρ => by kernel_rfl) (h255_42 N) ρ).trans (by rw [o255_49]; rfl)
theorem h255_35 (N : Nat) (K ρ) : (X255 N).bd K ρ 35 = bits_Div64.l17b N ((X255 N).kc K 42) ((X255 N).kc ρ 35) := by kernel_rfl
theorem o255_35 (N : Nat) (ρ) : (X255 N).kc ((X255 N).sem ρ) 35 = bits_Div64.l17 N N := Fx.okL [42, 49, 56] (by kernel_rfl) (fun K ρ => by kernel_rfl) (h255_35 N) ρ (bits_Div64.l17 N) rfl fun n ρ' e d => by rw [o255_42, e]; rfl
theorem h255 (N : Nat) (K) : (X255 N).top K = bits_Div64.b N ((X255 N).kc K 35) := by kernel_rfl
theorem sum255 (N : Nat) : SumOk Tryz.prog 255 (S255 N) := Fx.ok1 (X255 N) tabok Tryz.func255 (by kernel_rfl) ⟨sum278 N, trivial⟩ [35, 42, 49, 56] (fun K => by kernel_rfl) (h255 N) (by rw [o255_35]; rfl)

noncomputable def X236 (N : Nat) : Fx := ⟨70, tab, [(254, S254 N), (255, S255 N), (188, Sadd64 N), (234, S234 N)], N, Tryz.f236, [.v tWide, .v I], [.v tWide, .v I, .v B], [⟨26, [(4, .obj tWide), (10, .v U), (11, .v U), (12, .v U)], [1, 1, 1, 1, 1, 1, 1, 1], []⟩], none⟩
noncomputable abbrev S236 (N : Nat) : Summ := (X236 N).S true (wide_Div N)
theorem h236_26 (N : Nat) (K ρ) : (X236 N).bd K ρ 26 = wide_Div.j13b N := by kernel_rfl
theorem o236_26 (N : Nat) (ρ) : (X236 N).kc ((X236 N).sem ρ) 26 = wide_Div.j13 N := (Fx.okJ [] (by kernel_rfl) (fun K ρ => by kernel_rfl) (h236_26 N) ρ).trans rfl
theorem h236 (N : Nat) (K) : (X236 N).top K = wide_Div.b N ((X236 N).kc K 26) := by kernel_rfl
theorem sum236 (N : Nat) : SumOk Tryz.prog 236 (S236 N) := Fx.ok1 (X236 N) tabok Tryz.func236 (by kernel_rfl) ⟨sum254 N, sum255 N, sumadd64 N, sum234 N, trivial⟩ [26] (fun K => by kernel_rfl) (h236 N) (by rw [o236_26]; rfl)

noncomputable def X99 (N : Nat) : Fx := ⟨14, tab, [], N, Tryz.f99, [.v tWide], [.v I, .v B], [], none⟩
noncomputable abbrev S99 (N : Nat) : Summ := (X99 N).S true (wide_Int N)
theorem sum99 (N : Nat) : SumOk Tryz.prog 99 (S99 N) := Fx.ok0 (X99 N) tabok Tryz.func99 (by kernel_rfl) trivial (by kernel_rfl)

noncomputable def X257 (N : Nat) : Fx := ⟨9, tab, [], N, Tryz.f257, [.v LI], [.v LI], [], none⟩
noncomputable abbrev S257 (N : Nat) : Summ := (X257 N).S false (slices_Clip_int N)
theorem sum257 (N : Nat) : SumOk Tryz.prog 257 (S257 N) := Fx.ok0 (X257 N) tabok Tryz.func257 (by kernel_rfl) trivial (by kernel_rfl)

noncomputable def X237 (N : Nat) : Fx := ⟨43, tab, [(256, Sins_256 N), (257, S257 N)], N, Tryz.f237, [.v LI], [.v LI], [⟨13, [(0, .v LI), (3, .own I), (4, .v I), (5, .v I), (10, .v I), (11, .v I)], [1, 1, 0, 1, 0, 0, 1, 1, 0, 0, 1, 1, 0, 0, 0], [7]⟩, ⟨7, [(0, .v LI), (3, .own I), (10, .v I), (11, .v I)], [1, 1, 0, 1, 0, 0], []⟩], none⟩
noncomputable abbrev S237 (N : Nat) : Summ := (X237 N).S false (share_Order N)
theorem h237_13 (N : Nat) (K ρ) : (X237 N).bd K ρ 13 = share_Order.l6b N ((X237 N).kc ρ 7) ((X237 N).kc ρ 13) := by kernel_rfl
theorem o237_13 (N : Nat) (ρ) : (X237 N).kc ((X237 N).sem ρ) 13 = share_Order.l6 N ((X237 N).kc ρ 7) N := Fx.okL [] (by kernel_rfl) (fun K ρ => by kernel_rfl) (h237_13 N) ρ (share_Order.l6 N ((X237 N).kc ρ 7)) rfl fun n ρ' e d => by rw [e, d 7 rfl]; rfl
theorem h237_7 (N : Nat) (K ρ) : (X237 N).bd K ρ 7 = share_Order.l3b N ((X237 N).kc K 13) ((X237 N).kc ρ 7) := by kernel_rfl
theorem o237_7 (N : Nat) (ρ) : (X237 N).kc ((X237 N).sem ρ) 7 = share_Order.l3 N N := Fx.okL [13] (by kernel_rfl) (fun K ρ => by kernel_rfl) (h237_7 N) ρ (share_Order.l3 N) rfl fun n ρ' e d => by rw [o237_13, e]; rfl
theorem h237 (N : Nat) (K) : (X237 N).top K = share_Order.b N ((X237 N).kc K 7) := by kernel_rfl
theorem sum237 (N : Nat) : SumOk Tryz.prog 237 (S237 N) := Fx.ok1 (X237 N) tabok Tryz.func237 (by kernel_rfl) ⟨sumins_256 N, sum257 N, trivial⟩ [7] (fun K => by kernel_rfl) (h237 N) (by rw [o237_7]; rfl)

noncomputable def X198 (N : Nat) : Fx := ⟨102, tab, [(196, S196 N), (197, S197 N), (195, S195 N), (236, S236 N), (99, S99 N), (237, S237 N)], N, Tryz.f198, [.v I, .v LI], [.own I, .v I], [⟨43, [(8, .own I), (88, .v LI), (89, .v I), (90, .v I)], [1, 1, 1, 1, 1, 1, 1, 1, 0, 1, 0, 0], []⟩, ⟨27, [(0, .v I), (6, .v I), (8, .own I), (9, .own I), (10, .v I), (50, .v LI), (51, .v I), (52, .v I)], [1, 1, 1, 1, 1, 1, 1, 0, 1, 0, 0], []⟩, ⟨16, [(0, .v I), (1, .v LI), (6, .v I)], [1, 1, 1, 1], []⟩], none⟩
noncomputable abbrev S198 (N : Nat) : Summ := (X198 N).S false (share_Split N)
theorem h198_43 (N : Nat) (K ρ) : (X198 N).bd K ρ 43 = share_Split.l21b N ((X198 N).kc ρ 43) := by kernel_rfl
theorem o198_43 (N : Nat) (ρ) : (X198 N).kc ((X198 N).sem ρ) 43 = share_Split.l21 N N := Fx.okL [] (by kernel_rfl) (fun K ρ => by kernel_rfl) (h198_43 N) ρ (share_Split.l21 N) rfl fun n ρ' e d => by rw [e]; rfl
theorem h198_27 (N : Nat) (K ρ) : (X198 N).bd K ρ 27 = share_Split.l13b N ((X198 N).kc K 43) ((X198 N).kc ρ 27) := by kernel_rfl
theorem o198_27 (N : Nat) (ρ) : (X198 N).kc ((X198 N).sem ρ) 27 = share_Split.l13 N N := Fx.okL [43] (by kernel_rfl) (fun K ρ => by kernel_rfl) (h198_27 N) ρ (share_Split.l13 N) rfl fun n ρ' e d => by rw [o198_43, e]; rfl
theorem h198_16 (N : Nat) (K ρ) : (X198 N).bd K ρ 16 = share_Split.j8b N ((X198 N).kc K 27) := by kernel_rfl
theorem o198_16 (N : Nat) (ρ) : (X198 N).kc ((X198 N).sem ρ) 16 = share_Split.j8 N := (Fx.okJ [27, 43] (by kernel_rfl) (fun K ρ => by kernel_rfl) (h198_16 N) ρ).trans (by rw [o198_27]; rfl)
theorem h198 (N : Nat) (K) : (X198 N).top K = share_Split.b N ((X198 N).kc K 16) := by kernel_rfl
theorem sum198 (N : Nat) : SumOk Tryz.prog 198 (S198 N) := Fx.ok1 (X198 N) tabok Tryz.func198 (by kernel_rfl) ⟨sum196 N, sum197 N, sum195 N, sum236 N, sum99 N, sum237 N, trivial⟩ [16, 27, 43] (fun K => by kernel_rfl) (h198 N) (by rw [o198_16]; rfl)

noncomputable def X155 (N : Nat) : Fx := ⟨115, tab, [(196, S196 N), (197, S197 N), (198, S198 N)], N, Tryz.f155, [.v I, .v LI, .v LI], [.own I, .v I, .v I], [⟨37, [(1, .v LI), (2, .v LI), (11, .own I), (12, .v I), (84, .own I), (85, .v I), (86, .v I)], [1, 0, 1, 1, 1, 1, 0, 0, 0, 1, 0, 1, 1, 1, 1, 1, 0, 0], [15]⟩, ⟨21, [(1, .v LI), (2, .v LI), (11, .own I), (12, .v I), (13, .own I), (55, .v I), (56, .v I)], [1, 0, 1, 1, 1, 1, 0, 0, 0, 1, 0, 1, 0, 1, 0, 0], [15]⟩, ⟨15, [(1, .v LI), (2, .v LI), (11, .own I), (12, .v I)], [1, 0, 1, 1, 1, 1, 0, 0, 0], []⟩], none⟩
noncomputable abbrev S155 (N : Nat) : Summ := (X155 N).S false (share_Capped N)
theorem h155_37 (N : Nat) (K ρ) : (X155 N).bd K ρ 37 = share_Capped.l18b N ((X155 N).kc ρ 15) ((X155 N).kc ρ 37) := by kernel_rfl
theorem o155_37 (N : Nat) (ρ) : (X155 N).kc ((X155 N).sem ρ) 37 = share_Capped.l18 N ((X155 N).kc ρ 15) N := Fx.okL [] (by kernel_rfl) (fun K ρ => by kernel_rfl) (h155_37 N) ρ (share_Capped.l18 N ((X155 N).kc ρ 15)) rfl fun n ρ' e d => by rw [e, d 15 rfl]; rfl
theorem h155_21 (N : Nat) (K ρ) : (X155 N).bd K ρ 21 = share_Capped.l10b N ((X155 N).kc K 37) ((X155 N).kc ρ 15) ((X155 N).kc ρ 21) := by kernel_rfl
theorem o155_21 (N : Nat) (ρ) : (X155 N).kc ((X155 N).sem ρ) 21 = share_Capped.l10 N ((X155 N).kc ρ 15) N := Fx.okL [37] (by kernel_rfl) (fun K ρ => by kernel_rfl) (h155_21 N) ρ (share_Capped.l10 N ((X155 N).kc ρ 15)) rfl fun n ρ' e d => by rw [o155_37, e, d 15 rfl]; rfl
theorem h155_15 (N : Nat) (K ρ) : (X155 N).bd K ρ 15 = share_Capped.l7b N ((X155 N).kc K 21) ((X155 N).kc ρ 15) := by kernel_rfl
theorem o155_15 (N : Nat) (ρ) : (X155 N).kc ((X155 N).sem ρ) 15 = share_Capped.l7 N N := Fx.okL [21, 37] (by kernel_rfl) (fun K ρ => by kernel_rfl) (h155_15 N) ρ (share_Capped.l7 N) rfl fun n ρ' e d => by rw [o155_21, e]; rfl
theorem h155 (N : Nat) (K) : (X155 N).top K = share_Capped.b N ((X155 N).kc K 15) := by kernel_rfl
theorem sum155 (N : Nat) : SumOk Tryz.prog 155 (S155 N) := Fx.ok1 (X155 N) tabok Tryz.func155 (by kernel_rfl) ⟨sum196 N, sum197 N, sum198 N, trivial⟩ [15] (fun K => by kernel_rfl) (h155 N) (by rw [o155_15]; rfl)

noncomputable def X104 (N : Nat) : Fx := ⟨120, tab, [(28, S28 N), (153, S153 N), (154, S154 N), (155, S155 N)], N, Tryz.f104, [.v tConfig, .v tBook, .v I], [.own tI3, .v I], [⟨43, [(2, .v I), (8, .v I), (9, .own I), (16, .own tI3), (95, .own I), (96, .v I), (97, .v I)], [1, 1, 1, 1, 1, 1, 1, 1, 1, 1, 0, 1, 0, 0], []⟩, ⟨23, [(2, .v I), (8, .v I), (9, .own I), (10, .own I), (41, .v LtI3), (42, .v I), (43, .v I)], [1, 1, 1, 1, 1, 1, 0, 1, 0, 0], []⟩], none⟩
noncomputable abbrev S104 (N : Nat) : Summ := (X104 N).S false (tear_Cuts N)
theorem h104_43 (N : Nat) (K ρ) : (X104 N).bd K ρ 43 = tear_Cuts.l21b N ((X104 N).kc ρ 43) := by kernel_rfl
theorem o104_43 (N : Nat) (ρ) : (X104 N).kc ((X104 N).sem ρ) 43 = tear_Cuts.l21 N N := Fx.okL [] (by kernel_rfl) (fun K ρ => by kernel_rfl) (h104_43 N) ρ (tear_Cuts.l21 N) rfl fun n ρ' e d => by rw [e]; rfl
theorem h104_23 (N : Nat) (K ρ) : (X104 N).bd K ρ 23 = tear_Cuts.l11b N ((X104 N).kc K 43) ((X104 N).kc ρ 23) := by kernel_rfl
theorem o104_23 (N : Nat) (ρ) : (X104 N).kc ((X104 N).sem ρ) 23 = tear_Cuts.l11 N N := Fx.okL [43] (by kernel_rfl) (fun K ρ => by kernel_rfl) (h104_23 N) ρ (tear_Cuts.l11 N) rfl fun n ρ' e d => by rw [o104_43, e]; rfl
theorem h104 (N : Nat) (K) : (X104 N).top K = tear_Cuts.b N ((X104 N).kc K 23) := by kernel_rfl
theorem sum104 (N : Nat) : SumOk Tryz.prog 104 (S104 N) := Fx.ok1 (X104 N) tabok Tryz.func104 (by kernel_rfl) ⟨sum28 N, sum153 N, sum154 N, sum155 N, trivial⟩ [23, 43] (fun K => by kernel_rfl) (h104 N) (by rw [o104_23]; rfl)

noncomputable def X127 (N : Nat) : Fx := ⟨22, tab, [(176, Sclo_176 N), (177, Sclo_177 N), (178, Sclo_178 N), (179, Sclo_179 N), (180, Sclo_180 N), (181, Sclo_181 N)], N, Tryz.f127, [.v tBook], [.v tBook], [], none⟩
noncomputable abbrev S127 (N : Nat) : Summ := (X127 N).S false (book_Copy N)
theorem sum127 (N : Nat) : SumOk Tryz.prog 127 (S127 N) := Fx.ok0 (X127 N) tabok Tryz.func127 (by kernel_rfl) ⟨sumclo_176 N, sumclo_177 N, sumclo_178 N, sumclo_179 N, sumclo_180 N, sumclo_181 N, trivial⟩ (by kernel_rfl)

noncomputable def X182 (N : Nat) : Fx := ⟨42, tab, [(61, S61 N), (136, S136 N), (76, S76 N)], N, Tryz.f182, [.v LtI3], [.v B], [⟨13, [(0, .v LtI3), (3, .v I), (4, .own tWide), (9, .v I), (12, .v LtI3), (13, .v I), (14, .v I)], [1, 0, 1, 0, 0, 1, 1, 0, 0, 1, 1, 0, 1, 0, 0], [5]⟩, ⟨5, [(0, .v LtI3), (9, .v I)], [1, 0, 1, 0, 0], []⟩], none⟩
noncomputable abbrev S182 (N : Nat) : Summ := (X182 N).S true (stock_flat N)
theorem h182_13 (N : Nat) (K ρ) : (X182 N).bd K ρ 13 = stock_flat.l6b N ((X182 N).kc ρ 5) ((X182 N).kc ρ 13) := by kernel_rfl
theorem o182_13 (N : Nat) (ρ) : (X182 N).kc ((X182 N).sem ρ) 13 = stock_flat.l6 N ((X182 N).kc ρ 5) N := Fx.okL [] (by kernel_rfl) (fun K ρ => by kernel_rfl) (h182_13 N) ρ (stock_flat.l6 N ((X182 N).kc ρ 5)) rfl fun n ρ' e d => by rw [e, d 5 rfl]; rfl
theorem h182_5 (N : Nat) (K ρ) : (X182 N).bd K ρ 5 = stock_flat.l2b N ((X182 N).kc K 13) ((X182 N).kc ρ 5) := by kernel_rfl
theorem o182_5 (N : Nat) (ρ) : (X182 N).kc ((X182 N).sem ρ) 5 = stock_flat.l2 N N := Fx.okL [13] (by kernel_rfl) (fun K ρ => by kernel_rfl) (h182_5 N) ρ (stock_flat.l2 N) rfl fun n ρ' e d => by rw [o182_13, e]; rfl
theorem h182 (N : Nat) (K) : (X182 N).top K = stock_flat.b N ((X182 N).kc K 5) := by kernel_rfl
theorem sum182 (N : Nat) : SumOk Tryz.prog 182 (S182 N) := Fx.ok1 (X182 N) tabok Tryz.func182 (by kernel_rfl) ⟨sum61 N, sum136 N, sum76 N, trivial⟩ [5] (fun K => by kernel_rfl) (h182 N) (by rw [o182_5]; rfl)

noncomputable def X185 (N : Nat) : Fx := ⟨9, tab, [], N, Tryz.f185, [.v LtI3], [.v LtI3], [], none⟩
noncomputable abbrev S185 (N : Nat) : Summ := (X185 N).S false (slices_Clip_Pos N)
theorem sum185 (N : Nat) : SumOk Tryz.prog 185 (S185 N) := Fx.ok0 (X185 N) tabok Tryz.func185 (by kernel_rfl) trivial (by kernel_rfl)

noncomputable def X128 (N : Nat) : Fx := ⟨173, tab, [(138, S138 N), (150, S150 N), (173, S173 N), (182, S182 N), (179, Sclo_179 N), (183, S183 N), (184, Sins_184 N), (61, S61 N), (136, S136 N), (99, S99 N), (185, S185 N)], N, Tryz.f128, [.v LtI3, .v LtI3], [.v LtI3, .v I], [⟨36, [(1, .v LtI3), (8, .own tI3), (10, .obj tI3), (11, .v I), (54, .v LtI3), (55, .v I), (56, .v I)], [1, 1, 1, 1, 1, 0, 1, 0, 0, 1, 1, 0, 0, 1, 1, 1], [27]⟩, ⟨33, [(1, .v LtI3), (8, .own tI3), (10, .obj tI3), (11, .v I), (54, .v LtI3), (55, .v I), (56, .v I)], [1, 1, 1, 1, 1, 0, 1, 0, 0, 1, 1, 0, 0, 1, 1, 0, 0, 0], [27]⟩, ⟨55, [(1, .v LtI3), (12, .own tI3), (14, .obj tI3), (15, .own tWide), (107, .own tI3), (108, .v I), (109, .v I), (117, .v LtI3), (118, .v I), (119, .v I)], [1, 1, 1, 1, 1, 1, 1, 0, 1, 0, 0, 1, 1, 0, 0, 1, 1, 0, 1, 0, 0], [47]⟩, ⟨47, [(1, .v LtI3), (12, .own tI3), (107, .own tI3), (108, .v I), (109, .v I)], [1, 1, 1, 1, 1, 1, 1, 0, 1, 0, 0], []⟩, ⟨27, [(1, .v LtI3), (8, .own tI3), (54, .v LtI3), (55, .v I), (56, .v I)], [1, 1, 1, 1, 1, 0, 1, 0, 0], []⟩, ⟨9, [(0, .v LtI3), (1, .v LtI3), (30, .v LtI3), (31, .v I), (32, .v I)], [1, 1, 0, 1, 0, 0], []⟩], none⟩
noncomputable abbrev S128 (N : Nat) : Summ := (X128 N).S false (stock_Post N)
theorem h128_36 (N : Nat) (K ρ) : (X128 N).bd K ρ 36 = stock_Post.j18b N ((X128 N).kc ρ 27) := by kernel_rfl
theorem o128_36 (N : Nat) (ρ) : (X128 N).kc ((X128 N).sem ρ) 36 = stock_Post.j18 N ((X128 N).kc ρ 27) := (Fx.okJ [47] (by kernel_rfl) (fun K ρ => by kernel_rfl) (h128_36 N) ρ).trans rfl
theorem h128_33 (N : Nat) (K ρ) : (X128 N).bd K ρ 33 = stock_Post.l16b N ((X128 N).kc K 36) ((X128 N).kc ρ 27) ((X128 N).kc ρ 33) := by kernel_rfl
theorem o128_33 (N : Nat) (ρ) : (X128 N).kc ((X128 N).sem ρ) 33 = stock_Post.l16 N ((X128 N).kc ρ 27) N := Fx.okL [47, 36] (by kernel_rfl) (fun K ρ => by kernel_rfl) (h128_33 N) ρ (stock_Post.l16 N ((X128 N).kc ρ 27)) rfl fun n ρ' e d => by rw [o128_36, e, d 27 rfl]; rfl
theorem h128_55 (N : Nat) (K ρ) : (X128 N).bd K ρ 55 = stock_Post.l27b N ((X128 N).kc ρ 47) ((X128 N).kc ρ 55) := by kernel_rfl
theorem o128_55 (N : Nat) (ρ) : (X128 N).kc ((X128 N).sem ρ) 55 = stock_Post.l27 N ((X128 N).kc ρ 47) N := Fx.okL [] (by kernel_rfl) (fun K ρ => by kernel_rfl) (h128_55 N) ρ (stock_Post.l27 N ((X128 N).kc ρ 47)) rfl fun n ρ' e d => by rw [e, d 47 rfl]; rfl
theorem h128_47 (N : Nat) (K ρ) : (X128 N).bd K ρ 47 = stock_Post.l23b N ((X128 N).kc K 55) ((X128 N).kc ρ 47) := by kernel_rfl
theorem o128_47 (N : Nat) (ρ) : (X128 N).kc ((X128 N).sem ρ) 47 = stock_Post.l23 N N := Fx.okL [55] (by kernel_rfl) (fun K ρ => by kernel_rfl) (h128_47 N) ρ (stock_Post.l23 N) rfl fun n ρ' e d => by rw [o128_55, e]; rfl
theorem h128_27 (N : Nat) (K ρ) : (X128 N).bd K ρ 27 = stock_Post.l13b N ((X128 N).kc K 33) ((X128 N).kc K 47) ((X128 N).kc ρ 27) := by kernel_rfl
theorem o128_27 (N : Nat) (ρ) : (X128 N).kc ((X128 N).sem ρ) 27 = stock_Post.l13 N N := Fx.okL [47, 33, 36] (by kernel_rfl) (fun K ρ => by kernel_rfl) (h128_27 N) ρ (stock_Post.l13 N) rfl fun n ρ' e d => by rw [o128_33, o128_47, e]; rfl
theorem h128_9 (N : Nat) (K ρ) : (X128 N).bd K ρ 9 = stock_Post.l4b N ((X128 N).kc K 27) ((X128 N).kc ρ 9) := by kernel_rfl
theorem o128_9 (N : Nat) (ρ) : (X128 N).kc ((X128 N).sem ρ) 9 = stock_Post.l4 N N := Fx.okL [27, 47] (by kernel_rfl) (fun K ρ => by kernel_rfl) (h128_9 N) ρ (stock_Post.l4 N) rfl fun n ρ' e d => by rw [o128_27, e]; rfl
theorem h128 (N : Nat) (K) : (X128 N).top K = stock_Post.b N ((X128 N).kc K 9) := by kernel_rfl
theorem sum128 (N : Nat) : SumOk Tryz.prog 128 (S128 N) := Fx.ok1 (X128 N) tabok Tryz.func128 (by kernel_rfl) ⟨sum138 N, sum150 N, sum173 N, sum182 N, sumclo_179 N, sum183 N, sumins_184 N, sum61 N, sum136 N, sum99 N, sum185 N, trivial⟩ [9, 27, 47] (fun K => by kernel_rfl) (h128 N) (by rw [o128_9]; rfl)

noncomputable def X187 (N : Nat) : Fx := ⟨9, tab, [], N, Tryz.f187, [.v LtI3], [.v LtI3], [], none⟩
noncomputable abbrev S187 (N : Nat) : Summ := (X187 N).S false (slices_Clip_Row N)
theorem sum187 (N : Nat) : SumOk Tryz.prog 187 (S187 N) := Fx.ok0 (X187 N) tabok Tryz.func187 (by kernel_rfl) trivial (by kernel_rfl)

noncomputable def X129 (N : Nat) : Fx := ⟨185, tab, [(75, S75 N), (133, S133 N), (136, S136 N), (76, S76 N), (178, Sclo_178 N), (134, S134 N), (186, Sins_186 N), (61, S61 N), (99, S99 N), (187, S187 N)], N, Tryz.f129, [.v LtI3, .v LtEntry], [.v LtI3, .v I], [⟨42, [(1, .v LtEntry), (11, .own tI3), (13, .obj tEntry), (14, .v I), (68, .v LtEntry), (69, .v I), (70, .v I)], [1, 1, 1, 1, 1, 1, 0, 1, 0, 0, 1, 1, 0, 0, 1, 1, 1], [33]⟩, ⟨39, [(1, .v LtEntry), (11, .own tI3), (13, .obj tEntry), (14, .v I), (68, .v LtEntry), (69, .v I), (70, .v I)], [1, 1, 1, 1, 1, 1, 0, 1, 0, 0, 1, 1, 0, 0, 1, 1, 0, 0, 0], [33]⟩, ⟨61, [(1, .v LtEntry), (15, .own tI3), (17, .obj tI3), (18, .own tWide), (121, .own tI3), (122, .v I), (123, .v I), (131, .v LtEntry), (132, .v I), (133, .v I)], [1, 1, 1, 1, 1, 1, 1, 1, 0, 1, 0, 0, 1, 1, 0, 0, 1, 1, 0, 1, 0, 0], [53]⟩, ⟨53, [(1, .v LtEntry), (15, .own tI3), (121, .own tI3), (122, .v I), (123, .v I)], [1, 1, 1, 1, 1, 1, 1, 1, 0, 1, 0, 0], []⟩, ⟨33, [(1, .v LtEntry), (11, .own tI3), (68, .v LtEntry), (69, .v I), (70, .v I)], [1, 1, 1, 1, 1, 1, 0, 1, 0, 0], []⟩, ⟨11, [(0, .v LtI3), (1, .v LtEntry), (6, .own tWide), (36, .v LtEntry), (37, .v I), (38, .v I)], [1, 1, 1, 0, 1, 0, 0], []⟩], none⟩
noncomputable abbrev S129 (N : Nat) : Summ := (X129 N).S false (ledger_Post N)
theorem h129_42 (N : Nat) (K ρ) : (X129 N).bd K ρ 42 = ledger_Post.j21b N ((X129 N).kc ρ 33) := by kernel_rfl
theorem o129_42 (N : Nat) (ρ) : (X129 N).kc ((X129 N).sem ρ) 42 = ledger_Post.j21 N ((X129 N).kc ρ 33) := (Fx.okJ [53] (by kernel_rfl) (fun K ρ => by kernel_rfl) (h129_42 N) ρ).trans rfl
theorem h129_39 (N : Nat) (K ρ) : (X129 N).bd K ρ 39 = ledger_Post.l19b N ((X129 N).kc K 42) ((X129 N).kc ρ 33) ((X129 N).kc ρ 39) := by kernel_rfl
theorem o129_39 (N : Nat) (ρ) : (X129 N).kc ((X129 N).sem ρ) 39 = ledger_Post.l19 N ((X129 N).kc ρ 33) N := Fx.okL [53, 42] (by kernel_rfl) (fun K ρ => by kernel_rfl) (h129_39 N) ρ (ledger_Post.l19 N ((X129 N).kc ρ 33)) rfl fun n ρ' e d => by rw [o129_42, e, d 33 rfl]; rfl
theorem h129_61 (N : Nat) (K ρ) : (X129 N).bd K ρ 61 = ledger_Post.l30b N ((X129 N).kc ρ 53) ((X129 N).kc ρ 61) := by kernel_rfl
theorem o129_61 (N : Nat) (ρ) : (X129 N).kc ((X129 N).sem ρ) 61 = ledger_Post.l30 N ((X129 N).kc ρ 53) N := Fx.okL [] (by kernel_rfl) (fun K ρ => by kernel_rfl) (h129_61 N) ρ (ledger_Post.l30 N ((X129 N).kc ρ 53)) rfl fun n ρ' e d => by rw [e, d 53 rfl]; rfl
theorem h129_53 (N : Nat) (K ρ) : (X129 N).bd K ρ 53 = ledger_Post.l26b N ((X129 N).kc K 61) ((X129 N).kc ρ 53) := by kernel_rfl
theorem o129_53 (N : Nat) (ρ) : (X129 N).kc ((X129 N).sem ρ) 53 = ledger_Post.l26 N N := Fx.okL [61] (by kernel_rfl) (fun K ρ => by kernel_rfl) (h129_53 N) ρ (ledger_Post.l26 N) rfl fun n ρ' e d => by rw [o129_61, e]; rfl
theorem h129_33 (N : Nat) (K ρ) : (X129 N).bd K ρ 33 = ledger_Post.l16b N ((X129 N).kc K 39) ((X129 N).kc K 53) ((X129 N).kc ρ 33) := by kernel_rfl
theorem o129_33 (N : Nat) (ρ) : (X129 N).kc ((X129 N).sem ρ) 33 = ledger_Post.l16 N N := Fx.okL [53, 39, 42] (by kernel_rfl) (fun K ρ => by kernel_rfl) (h129_33 N) ρ (ledger_Post.l16 N) rfl fun n ρ' e d => by rw [o129_39, o129_53, e]; rfl
theorem h129_11 (N : Nat) (K ρ) : (X129 N).bd K ρ 11 = ledger_Post.l5b N ((X129 N).kc K 33) ((X129 N).kc ρ 11) := by kernel_rfl
theorem o129_11 (N : Nat) (ρ) : (X129 N).kc ((X129 N).sem ρ) 11 = ledger_Post.l5 N N := Fx.okL [33, 53] (by kernel_rfl) (fun K ρ => by kernel_rfl) (h129_11 N) ρ (ledger_Post.l5 N) rfl fun n ρ' e d => by rw [o129_33, e]; rfl
theorem h129 (N : Nat) (K) : (X129 N).top K = ledger_Post.b N ((X129 N).kc K 11) := by kernel_rfl
theorem sum129 (N : Nat) : SumOk Tryz.prog 129 (S129 N) := Fx.ok1 (X129 N) tabok Tryz.func129 (by kernel_rfl) ⟨sum75 N, sum133 N, sum136 N, sum76 N, sumclo_178 N, sum134 N, sumins_186 N, sum61 N, sum99 N, sum187 N, trivial⟩ [11, 33, 53] (fun K => by kernel_rfl) (h129 N) (by rw [o129_11]; rfl)

noncomputable def X62 (N : Nat) : Fx := ⟨37, tab, [(127, S127 N), (128, S128 N), (129, S129 N)], N, Tryz.f62, [.v tBook, .v LtI3, .v LtEntry], [.v tBook, .v I], [], none⟩
noncomputable abbrev S62 (N : Nat) : Summ := (X62 N).S false (book_Moved N)
theorem sum62 (N : Nat) : SumOk Tryz.prog 62 (S62 N) := Fx.ok0 (X62 N) tabok Tryz.func62 (by kernel_rfl) ⟨sum127 N, sum128 N, sum129 N, trivial⟩ (by kernel_rfl)

noncomputable def X45 (N : Nat) : Fx := ⟨41, tab, [(28, S28 N), (104, S104 N), (62, S62 N)], N, Tryz.f45, [.v tConfig, .v tBook], [.v tBook, .v I], [⟨11, [(2, .obj tConfig), (3, .obj tBook), (4, .obj tBook), (6, .own tI3), (17, .v I), (18, .v I)], [1, 1, 1, 0, 1, 0, 0], []⟩], none⟩
noncomputable abbrev S45 (N : Nat) : Summ := (X45 N).S false (tear_Tear N)
theorem h45_11 (N : Nat) (K ρ) : (X45 N).bd K ρ 11 = tear_Tear.l5b N ((X45 N).kc ρ 11) := by kernel_rfl
theorem o45_11 (N : Nat) (ρ) : (X45 N).kc ((X45 N).sem ρ) 11 = tear_Tear.l5 N N := Fx.okL [] (by kernel_rfl) (fun K ρ => by kernel_rfl) (h45_11 N) ρ (tear_Tear.l5 N) rfl fun n ρ' e d => by rw [e]; rfl
theorem h45 (N : Nat) (K) : (X45 N).top K = tear_Tear.b N ((X45 N).kc K 11) := by kernel_rfl
theorem sum45 (N : Nat) : SumOk Tryz.prog 45 (S45 N) := Fx.ok1 (X45 N) tabok Tryz.func45 (by kernel_rfl) ⟨sum28 N, sum104 N, sum62 N, trivial⟩ [11] (fun K => by kernel_rfl) (h45 N) (by rw [o45_11]; rfl)

noncomputable def X105 (N : Nat) : Fx := ⟨26, tab, [], N, Tryz.f105, [.v LtI3, .v LtI3], [.v B], [⟨9, [(0, .v LtI3), (1, .v LtI3), (5, .v I)], [1, 1, 0, 1, 0, 0], []⟩], none⟩
noncomputable abbrev S105 (N : Nat) : Summ := (X105 N).S true (novationhelp_Shifts N)
theorem h105_9 (N : Nat) (K ρ) : (X105 N).bd K ρ 9 = novationhelp_Shifts.l4b N ((X105 N).kc ρ 9) := by kernel_rfl
theorem o105_9 (N : Nat) (ρ) : (X105 N).kc ((X105 N).sem ρ) 9 = novationhelp_Shifts.l4 N N := Fx.okL [] (by kernel_rfl) (fun K ρ => by kernel_rfl) (h105_9 N) ρ (novationhelp_Shifts.l4 N) rfl fun n ρ' e d => by rw [e]; rfl
theorem h105 (N : Nat) (K) : (X105 N).top K = novationhelp_Shifts.b N ((X105 N).kc K 9) := by kernel_rfl
theorem sum105 (N : Nat) : SumOk Tryz.prog 105 (S105 N) := Fx.ok1 (X105 N) tabok Tryz.func105 (by kernel_rfl) trivial [9] (fun K => by kernel_rfl) (h105 N) (by rw [o105_9]; rfl)

noncomputable def X102 (N : Nat) : Fx := ⟨26, tab, [], N, Tryz.f102, [.v LtI3, .v LtI3], [.v B], [⟨9, [(0, .v LtI3), (1, .v LtI3), (5, .v I)], [1, 1, 0, 1, 0, 0], []⟩], none⟩
noncomputable abbrev S102 (N : Nat) : Summ := (X102 N).S true (novationhelp_Stock N)
theorem h102_9 (N : Nat) (K ρ) : (X102 N).bd K ρ 9 = novationhelp_Stock.l4b N ((X102 N).kc ρ 9) := by kernel_rfl
theorem o102_9 (N : Nat) (ρ) : (X102 N).kc ((X102 N).sem ρ) 9 = novationhelp_Stock.l4 N N := Fx.okL [] (by kernel_rfl) (fun K ρ => by kernel_rfl) (h102_9 N) ρ (novationhelp_Stock.l4 N) rfl fun n ρ' e d => by rw [e]; rfl
theorem h102 (N : Nat) (K) : (X102 N).top K = novationhelp_Stock.b N ((X102 N).kc K 9) := by kernel_rfl
theorem sum102 (N : Nat) : SumOk Tryz.prog 102 (S102 N) := Fx.ok1 (X102 N) tabok Tryz.func102 (by kernel_rfl) trivial [9] (fun K => by kernel_rfl) (h102 N) (by rw [o102_9]; rfl)

noncomputable def X42 (N : Nat) : Fx := ⟨58, tab, [(103, S103 N), (104, S104 N), (45, S45 N), (105, S105 N), (102, S102 N)], N, Tryz.f42, [], [.v B], [], none⟩
noncomputable abbrev S42 (N : Nat) : Summ := (X42 N).S true (novationlaw29_known N)
theorem env42 (N : Nat) : EnvOk Tryz.prog (X42 N).E := Fx.envOk (X42 N) tabok ⟨sum103 N, sum104 N, sum45 N, sum105 N, sum102 N, trivial⟩ (by kernel_rfl)
theorem run42 (N : Nat) : ∀ x, evF (X42 N).E (X42 N).fn (X42 N).args (X42 N).res x = uncA (X42 N).args (novationlaw29_known N) x := Fx.run0 (by kernel_rfl)
theorem sum42 (N : Nat) : SumOk Tryz.prog 42 (S42 N) := Fx.ok0 (X42 N) tabok Tryz.func42 (by kernel_rfl) ⟨sum103 N, sum104 N, sum45 N, sum105 N, sum102 N, trivial⟩ (by kernel_rfl)

noncomputable def X201 (N : Nat) : Fx := ⟨15, tab, [], N, Tryz.f201, [.v I, .v I, .v I], [.v B], [], none⟩
noncomputable abbrev S201 (N : Nat) : Summ := (X201 N).S true (novationref4_within N)
theorem sum201 (N : Nat) : SumOk Tryz.prog 201 (S201 N) := Fx.ok0 (X201 N) tabok Tryz.func201 (by kernel_rfl) trivial (by kernel_rfl)

noncomputable def X160 (N : Nat) : Fx := ⟨77, tab, [(201, S201 N)], N, Tryz.f160, [.v tConfig], [.v B], [⟨9, [(1, .obj tConfig), (3, .v I)], [1, 1, 0, 1, 0, 0], []⟩], none⟩
noncomputable abbrev S160 (N : Nat) : Summ := (X160 N).S true (novationref4_RightPlan N)
theorem h160_9 (N : Nat) (K ρ) : (X160 N).bd K ρ 9 = novationref4_RightPlan.l4b N ((X160 N).kc ρ 9) := by kernel_rfl
theorem o160_9 (N : Nat) (ρ) : (X160 N).kc ((X160 N).sem ρ) 9 = novationref4_RightPlan.l4 N N := Fx.okL [] (by kernel_rfl) (fun K ρ => by kernel_rfl) (h160_9 N) ρ (novationref4_RightPlan.l4 N) rfl fun n ρ' e d => by rw [e]; rfl
theorem h160 (N : Nat) (K) : (X160 N).top K = novationref4_RightPlan.b N ((X160 N).kc K 9) := by kernel_rfl
theorem sum160 (N : Nat) : SumOk Tryz.prog 160 (S160 N) := Fx.ok1 (X160 N) tabok Tryz.func160 (by kernel_rfl) ⟨sum201 N, trivial⟩ [9] (fun K => by kernel_rfl) (h160 N) (by rw [o160_9]; rfl)

noncomputable def X94 (N : Nat) : Fx := ⟨58, tab, [], N, Tryz.f94, [.v LtI2], [.v B], [⟨5, [(0, .v LtI2), (3, .v I)], [1, 0, 1, 0, 0], []⟩], none⟩
noncomputable abbrev S94 (N : Nat) : Summ := (X94 N).S true (novationref10_Members N)
theorem h94_5 (N : Nat) (K ρ) : (X94 N).bd K ρ 5 = novationref10_Members.l2b N ((X94 N).kc ρ 5) := by kernel_rfl
theorem o94_5 (N : Nat) (ρ) : (X94 N).kc ((X94 N).sem ρ) 5 = novationref10_Members.l2 N N := Fx.okL [] (by kernel_rfl) (fun K ρ => by kernel_rfl) (h94_5 N) ρ (novationref10_Members.l2 N) rfl fun n ρ' e d => by rw [e]; rfl
theorem h94 (N : Nat) (K) : (X94 N).top K = novationref10_Members.b N ((X94 N).kc K 5) := by kernel_rfl
theorem sum94 (N : Nat) : SumOk Tryz.prog 94 (S94 N) := Fx.ok1 (X94 N) tabok Tryz.func94 (by kernel_rfl) trivial [5] (fun K => by kernel_rfl) (h94 N) (by rw [o94_5]; rfl)

noncomputable def X68 (N : Nat) : Fx := ⟨95, tab, [], N, Tryz.f68, [.v LtI4], [.v B], [⟨17, [(0, .v LtI4), (3, .v I), (4, .obj tI4), (5, .v I)], [1, 0, 1, 0, 0, 1, 0, 0, 1, 1, 1, 0, 0], [5]⟩, ⟨14, [(0, .v LtI4), (3, .v I), (4, .obj tI4)], [1, 0, 1, 0, 0, 1, 0, 0, 1, 1], [5]⟩, ⟨5, [(0, .v LtI4), (3, .v I)], [1, 0, 1, 0, 0], []⟩], none⟩
noncomputable abbrev S68 (N : Nat) : Summ := (X68 N).S true (novationref10_Accs N)
theorem h68_17 (N : Nat) (K ρ) : (X68 N).bd K ρ 17 = novationref10_Accs.l8b N ((X68 N).kc ρ 5) ((X68 N).kc ρ 17) := by kernel_rfl
theorem o68_17 (N : Nat) (ρ) : (X68 N).kc ((X68 N).sem ρ) 17 = novationref10_Accs.l8 N ((X68 N).kc ρ 5) N := Fx.okL [] (by kernel_rfl) (fun K ρ => by kernel_rfl) (h68_17 N) ρ (novationref10_Accs.l8 N ((X68 N).kc ρ 5)) rfl fun n ρ' e d => by rw [e, d 5 rfl]; rfl
theorem h68_14 (N : Nat) (K ρ) : (X68 N).bd K ρ 14 = novationref10_Accs.j7b N ((X68 N).kc K 17) ((X68 N).kc ρ 5) := by kernel_rfl
theorem o68_14 (N : Nat) (ρ) : (X68 N).kc ((X68 N).sem ρ) 14 = novationref10_Accs.j7 N ((X68 N).kc ρ 5) := (Fx.okJ [17] (by kernel_rfl) (fun K ρ => by kernel_rfl) (h68_14 N) ρ).trans (by rw [o68_17]; rfl)
theorem h68_5 (N : Nat) (K ρ) : (X68 N).bd K ρ 5 = novationref10_Accs.l2b N ((X68 N).kc K 14) ((X68 N).kc ρ 5) := by kernel_rfl
theorem o68_5 (N : Nat) (ρ) : (X68 N).kc ((X68 N).sem ρ) 5 = novationref10_Accs.l2 N N := Fx.okL [14, 17] (by kernel_rfl) (fun K ρ => by kernel_rfl) (h68_5 N) ρ (novationref10_Accs.l2 N) rfl fun n ρ' e d => by rw [o68_14, e]; rfl
theorem h68 (N : Nat) (K) : (X68 N).top K = novationref10_Accs.b N ((X68 N).kc K 5) := by kernel_rfl
theorem sum68 (N : Nat) : SumOk Tryz.prog 68 (S68 N) := Fx.ok1 (X68 N) tabok Tryz.func68 (by kernel_rfl) trivial [5] (fun K => by kernel_rfl) (h68 N) (by rw [o68_5]; rfl)

noncomputable def X95 (N : Nat) : Fx := ⟨24, tab, [], N, Tryz.f95, [.v LtI2, .v I], [.v I], [⟨5, [(0, .v LtI2), (1, .v I), (5, .v I)], [1, 0, 1, 0, 0], []⟩], none⟩
noncomputable abbrev S95 (N : Nat) : Summ := (X95 N).S true (novationref10_status N)
theorem h95_5 (N : Nat) (K ρ) : (X95 N).bd K ρ 5 = novationref10_status.l2b N ((X95 N).kc ρ 5) := by kernel_rfl
theorem o95_5 (N : Nat) (ρ) : (X95 N).kc ((X95 N).sem ρ) 5 = novationref10_status.l2 N N := Fx.okL [] (by kernel_rfl) (fun K ρ => by kernel_rfl) (h95_5 N) ρ (novationref10_status.l2 N) rfl fun n ρ' e d => by rw [e]; rfl
theorem h95 (N : Nat) (K) : (X95 N).top K = novationref10_status.b N ((X95 N).kc K 5) := by kernel_rfl
theorem sum95 (N : Nat) : SumOk Tryz.prog 95 (S95 N) := Fx.ok1 (X95 N) tabok Tryz.func95 (by kernel_rfl) trivial [5] (fun K => by kernel_rfl) (h95 N) (by rw [o95_5]; rfl)

noncomputable def X161 (N : Nat) : Fx := ⟨28, tab, [(94, S94 N), (68, S68 N), (95, S95 N)], N, Tryz.f161, [.v LtI2, .v LtI4], [.v B], [⟨9, [(0, .v LtI2), (1, .v LtI4), (5, .v I)], [1, 1, 0, 1, 0, 0], []⟩], none⟩
noncomputable abbrev S161 (N : Nat) : Summ := (X161 N).S true (novationref10_RightRoll N)
theorem h161_9 (N : Nat) (K ρ) : (X161 N).bd K ρ 9 = novationref10_RightRoll.l4b N ((X161 N).kc ρ 9) := by kernel_rfl
theorem o161_9 (N : Nat) (ρ) : (X161 N).kc ((X161 N).sem ρ) 9 = novationref10_RightRoll.l4 N N := Fx.okL [] (by kernel_rfl) (fun K ρ => by kernel_rfl) (h161_9 N) ρ (novationref10_RightRoll.l4 N) rfl fun n ρ' e d => by rw [e]; rfl
theorem h161 (N : Nat) (K) : (X161 N).top K = novationref10_RightRoll.b N ((X161 N).kc K 9) := by kernel_rfl
theorem sum161 (N : Nat) : SumOk Tryz.prog 161 (S161 N) := Fx.ok1 (X161 N) tabok Tryz.func161 (by kernel_rfl) ⟨sum94 N, sum68 N, sum95 N, trivial⟩ [9] (fun K => by kernel_rfl) (h161 N) (by rw [o161_9]; rfl)

noncomputable def X131 (N : Nat) : Fx := ⟨30, tab, [], N, Tryz.f131, [.v I, .v I], [.v B], [], none⟩
noncomputable abbrev S131 (N : Nat) : Summ := (X131 N).S true (novationref10_Key N)
theorem sum131 (N : Nat) : SumOk Tryz.prog 131 (S131 N) := Fx.ok0 (X131 N) tabok Tryz.func131 (by kernel_rfl) trivial (by kernel_rfl)

noncomputable def X65 (N : Nat) : Fx := ⟨74, tab, [(131, S131 N)], N, Tryz.f65, [.v LtI3], [.v B], [⟨5, [(0, .v LtI3), (3, .v I)], [1, 0, 1, 0, 0], []⟩], none⟩
noncomputable abbrev S65 (N : Nat) : Summ := (X65 N).S true (novationref10_Rows N)
theorem h65_5 (N : Nat) (K ρ) : (X65 N).bd K ρ 5 = novationref10_Rows.l2b N ((X65 N).kc ρ 5) := by kernel_rfl
theorem o65_5 (N : Nat) (ρ) : (X65 N).kc ((X65 N).sem ρ) 5 = novationref10_Rows.l2 N N := Fx.okL [] (by kernel_rfl) (fun K ρ => by kernel_rfl) (h65_5 N) ρ (novationref10_Rows.l2 N) rfl fun n ρ' e d => by rw [e]; rfl
theorem h65 (N : Nat) (K) : (X65 N).top K = novationref10_Rows.b N ((X65 N).kc K 5) := by kernel_rfl
theorem sum65 (N : Nat) : SumOk Tryz.prog 65 (S65 N) := Fx.ok1 (X65 N) tabok Tryz.func65 (by kernel_rfl) ⟨sum131 N, trivial⟩ [5] (fun K => by kernel_rfl) (h65 N) (by rw [o65_5]; rfl)

noncomputable def X66 (N : Nat) : Fx := ⟨78, tab, [], N, Tryz.f66, [.v LtI3], [.v B], [⟨5, [(0, .v LtI3), (3, .v I)], [1, 0, 1, 0, 0], []⟩], none⟩
noncomputable abbrev S66 (N : Nat) : Summ := (X66 N).S true (novationref10_Stock N)
theorem h66_5 (N : Nat) (K ρ) : (X66 N).bd K ρ 5 = novationref10_Stock.l2b N ((X66 N).kc ρ 5) := by kernel_rfl
theorem o66_5 (N : Nat) (ρ) : (X66 N).kc ((X66 N).sem ρ) 5 = novationref10_Stock.l2 N N := Fx.okL [] (by kernel_rfl) (fun K ρ => by kernel_rfl) (h66_5 N) ρ (novationref10_Stock.l2 N) rfl fun n ρ' e d => by rw [e]; rfl
theorem h66 (N : Nat) (K) : (X66 N).top K = novationref10_Stock.b N ((X66 N).kc K 5) := by kernel_rfl
theorem sum66 (N : Nat) : SumOk Tryz.prog 66 (S66 N) := Fx.ok1 (X66 N) tabok Tryz.func66 (by kernel_rfl) trivial [5] (fun K => by kernel_rfl) (h66 N) (by rw [o66_5]; rfl)

noncomputable def X130 (N : Nat) : Fx := ⟨22, tab, [], N, Tryz.f130, [.v LU], [.v LU], [⟨5, [(0, .v LU), (3, .v I)], [1, 1, 0, 0, 0], []⟩], none⟩
noncomputable abbrev S130 (N : Nat) : Summ := (X130 N).S false (novationref1_trim N)
theorem h130_5 (N : Nat) (K ρ) : (X130 N).bd K ρ 5 = novationref1_trim.l2b N ((X130 N).kc ρ 5) := by kernel_rfl
theorem o130_5 (N : Nat) (ρ) : (X130 N).kc ((X130 N).sem ρ) 5 = novationref1_trim.l2 N N := Fx.okL [] (by kernel_rfl) (fun K ρ => by kernel_rfl) (h130_5 N) ρ (novationref1_trim.l2 N) rfl fun n ρ' e d => by rw [e]; rfl
theorem h130 (N : Nat) (K) : (X130 N).top K = novationref1_trim.b N ((X130 N).kc K 5) := by kernel_rfl
theorem sum130 (N : Nat) : SumOk Tryz.prog 130 (S130 N) := Fx.ok1 (X130 N) tabok Tryz.func130 (by kernel_rfl) trivial [5] (fun K => by kernel_rfl) (h130 N) (by rw [o130_5]; rfl)

noncomputable def X64 (N : Nat) : Fx := ⟨9, tab, [(130, S130 N)], N, Tryz.f64, [.v U], [.v LU], [], none⟩
noncomputable abbrev S64 (N : Nat) : Summ := (X64 N).S false (novationref1_size N)
theorem sum64 (N : Nat) : SumOk Tryz.prog 64 (S64 N) := Fx.ok0 (X64 N) tabok Tryz.func64 (by kernel_rfl) ⟨sum130 N, trivial⟩ (by kernel_rfl)

noncomputable def X63 (N : Nat) : Fx := ⟨15, tab, [(130, S130 N)], N, Tryz.f63, [.v B, .v LU], [.v tBig], [], none⟩
noncomputable abbrev S63 (N : Nat) : Summ := (X63 N).S false (novationref1_made N)
theorem sum63 (N : Nat) : SumOk Tryz.prog 63 (S63 N) := Fx.ok0 (X63 N) tabok Tryz.func63 (by kernel_rfl) ⟨sum130 N, trivial⟩ (by kernel_rfl)

noncomputable def X21 (N : Nat) : Fx := ⟨15, tab, [(64, S64 N), (63, S63 N)], N, Tryz.f21, [.v I], [.v tBig], [], none⟩
noncomputable abbrev S21 (N : Nat) : Summ := (X21 N).S false (novationref1_Whole N)
theorem sum21 (N : Nat) : SumOk Tryz.prog 21 (S21 N) := Fx.ok0 (X21 N) tabok Tryz.func21 (by kernel_rfl) ⟨sum64 N, sum63 N, trivial⟩ (by kernel_rfl)

noncomputable def X100 (N : Nat) : Fx := ⟨13, tab, [], N, Tryz.f100, [.v LU, .v I], [.v U], [], none⟩
noncomputable abbrev S100 (N : Nat) : Summ := (X100 N).S true (novationref1_digit N)
theorem sum100 (N : Nat) : SumOk Tryz.prog 100 (S100 N) := Fx.ok0 (X100 N) tabok Tryz.func100 (by kernel_rfl) trivial (by kernel_rfl)

noncomputable def X69 (N : Nat) : Fx := ⟨41, tab, [(100, S100 N)], N, Tryz.f69, [.v LU, .v LU], [.own U], [⟨12, [(0, .v LU), (1, .v LU), (5, .own U), (6, .v U), (7, .v I)], [1, 1, 1, 0, 1, 0, 0, 1], [9]⟩, ⟨9, [(0, .v LU), (1, .v LU), (5, .own U), (6, .v U), (7, .v I)], [1, 1, 1, 0, 1, 0, 0], []⟩], none⟩
noncomputable abbrev S69 (N : Nat) : Summ := (X69 N).S false (novationref1_addSizes N)
theorem h69_12 (N : Nat) (K ρ) : (X69 N).bd K ρ 12 = novationref1_addSizes.j6b N ((X69 N).kc ρ 9) := by kernel_rfl
theorem o69_12 (N : Nat) (ρ) : (X69 N).kc ((X69 N).sem ρ) 12 = novationref1_addSizes.j6 N ((X69 N).kc ρ 9) := (Fx.okJ [] (by kernel_rfl) (fun K ρ => by kernel_rfl) (h69_12 N) ρ).trans rfl
theorem h69_9 (N : Nat) (K ρ) : (X69 N).bd K ρ 9 = novationref1_addSizes.l4b N ((X69 N).kc K 12) ((X69 N).kc ρ 9) := by kernel_rfl
theorem o69_9 (N : Nat) (ρ) : (X69 N).kc ((X69 N).sem ρ) 9 = novationref1_addSizes.l4 N N := Fx.okL [12] (by kernel_rfl) (fun K ρ => by kernel_rfl) (h69_9 N) ρ (novationref1_addSizes.l4 N) rfl fun n ρ' e d => by rw [o69_12, e]; rfl
theorem h69 (N : Nat) (K) : (X69 N).top K = novationref1_addSizes.b N ((X69 N).kc K 9) := by kernel_rfl
theorem sum69 (N : Nat) : SumOk Tryz.prog 69 (S69 N) := Fx.ok1 (X69 N) tabok Tryz.func69 (by kernel_rfl) ⟨sum100 N, trivial⟩ [9] (fun K => by kernel_rfl) (h69 N) (by rw [o69_9]; rfl)

noncomputable def X70 (N : Nat) : Fx := ⟨41, tab, [], N, Tryz.f70, [.v LU, .v LU], [.v I], [⟨13, [(0, .v LU), (1, .v LU), (5, .v I)], [1, 1, 0, 1, 0, 0], []⟩], none⟩
noncomputable abbrev S70 (N : Nat) : Summ := (X70 N).S true (novationref1_cmpSizes N)
theorem h70_13 (N : Nat) (K ρ) : (X70 N).bd K ρ 13 = novationref1_cmpSizes.l6b N ((X70 N).kc ρ 13) := by kernel_rfl
theorem o70_13 (N : Nat) (ρ) : (X70 N).kc ((X70 N).sem ρ) 13 = novationref1_cmpSizes.l6 N N := Fx.okL [] (by kernel_rfl) (fun K ρ => by kernel_rfl) (h70_13 N) ρ (novationref1_cmpSizes.l6 N) rfl fun n ρ' e d => by rw [e]; rfl
theorem h70 (N : Nat) (K) : (X70 N).top K = novationref1_cmpSizes.b N ((X70 N).kc K 13) := by kernel_rfl
theorem sum70 (N : Nat) : SumOk Tryz.prog 70 (S70 N) := Fx.ok1 (X70 N) tabok Tryz.func70 (by kernel_rfl) trivial [13] (fun K => by kernel_rfl) (h70 N) (by rw [o70_13]; rfl)

noncomputable def X71 (N : Nat) : Fx := ⟨37, tab, [(100, S100 N)], N, Tryz.f71, [.v LU, .v LU], [.own U], [⟨9, [(0, .v LU), (1, .v LU), (5, .own U), (6, .v U), (7, .v I)], [1, 1, 1, 0, 1, 0, 0], []⟩], none⟩
noncomputable abbrev S71 (N : Nat) : Summ := (X71 N).S false (novationref1_subSizes N)
theorem h71_9 (N : Nat) (K ρ) : (X71 N).bd K ρ 9 = novationref1_subSizes.l4b N ((X71 N).kc ρ 9) := by kernel_rfl
theorem o71_9 (N : Nat) (ρ) : (X71 N).kc ((X71 N).sem ρ) 9 = novationref1_subSizes.l4 N N := Fx.okL [] (by kernel_rfl) (fun K ρ => by kernel_rfl) (h71_9 N) ρ (novationref1_subSizes.l4 N) rfl fun n ρ' e d => by rw [e]; rfl
theorem h71 (N : Nat) (K) : (X71 N).top K = novationref1_subSizes.b N ((X71 N).kc K 9) := by kernel_rfl
theorem sum71 (N : Nat) : SumOk Tryz.prog 71 (S71 N) := Fx.ok1 (X71 N) tabok Tryz.func71 (by kernel_rfl) ⟨sum100 N, trivial⟩ [9] (fun K => by kernel_rfl) (h71 N) (by rw [o71_9]; rfl)

noncomputable def X26 (N : Nat) : Fx := ⟨40, tab, [(69, S69 N), (63, S63 N), (70, S70 N), (71, S71 N)], N, Tryz.f26, [.v tBig, .v tBig], [.v tBig], [], none⟩
noncomputable abbrev S26 (N : Nat) : Summ := (X26 N).S false (novationref1_Plus N)
theorem sum26 (N : Nat) : SumOk Tryz.prog 26 (S26 N) := Fx.ok0 (X26 N) tabok Tryz.func26 (by kernel_rfl) ⟨sum69 N, sum63 N, sum70 N, sum71 N, trivial⟩ (by kernel_rfl)

noncomputable def X202 (N : Nat) : Fx := ⟨33, tab, [(66, S66 N), (21, S21 N), (26, S26 N)], N, Tryz.f202, [.v LtI3, .v I], [.v tBig], [⟨11, [(0, .v LtI3), (1, .v I), (4, .obj tBig), (5, .obj tBig), (6, .v I)], [1, 1, 1, 0, 1, 0, 0], []⟩], none⟩
noncomputable abbrev S202 (N : Nat) : Summ := (X202 N).S false (novationref10_SumInst N)
theorem h202_11 (N : Nat) (K ρ) : (X202 N).bd K ρ 11 = novationref10_SumInst.l5b N ((X202 N).kc ρ 11) := by kernel_rfl
theorem o202_11 (N : Nat) (ρ) : (X202 N).kc ((X202 N).sem ρ) 11 = novationref10_SumInst.l5 N N := Fx.okL [] (by kernel_rfl) (fun K ρ => by kernel_rfl) (h202_11 N) ρ (novationref10_SumInst.l5 N) rfl fun n ρ' e d => by rw [e]; rfl
theorem h202 (N : Nat) (K) : (X202 N).top K = novationref10_SumInst.b N ((X202 N).kc K 11) := by kernel_rfl
theorem sum202 (N : Nat) : SumOk Tryz.prog 202 (S202 N) := Fx.ok1 (X202 N) tabok Tryz.func202 (by kernel_rfl) ⟨sum66 N, sum21 N, sum26 N, trivial⟩ [11] (fun K => by kernel_rfl) (h202 N) (by rw [o202_11]; rfl)

noncomputable def X72 (N : Nat) : Fx := ⟨9, tab, [], N, Tryz.f72, [.v tBig], [.v I], [], none⟩
noncomputable abbrev S72 (N : Nat) : Summ := (X72 N).S true (novationref1_Sign N)
theorem sum72 (N : Nat) : SumOk Tryz.prog 72 (S72 N) := Fx.ok0 (X72 N) tabok Tryz.func72 (by kernel_rfl) trivial (by kernel_rfl)

noncomputable def X162 (N : Nat) : Fx := ⟨15, tab, [(202, S202 N), (72, S72 N), (66, S66 N)], N, Tryz.f162, [.v LtI3], [.v B], [⟨5, [(0, .v LtI3), (3, .v I)], [1, 0, 1, 0, 0], []⟩], none⟩
noncomputable abbrev S162 (N : Nat) : Summ := (X162 N).S true (novationref10_Flat N)
theorem h162_5 (N : Nat) (K ρ) : (X162 N).bd K ρ 5 = novationref10_Flat.l2b N ((X162 N).kc ρ 5) := by kernel_rfl
theorem o162_5 (N : Nat) (ρ) : (X162 N).kc ((X162 N).sem ρ) 5 = novationref10_Flat.l2 N N := Fx.okL [] (by kernel_rfl) (fun K ρ => by kernel_rfl) (h162_5 N) ρ (novationref10_Flat.l2 N) rfl fun n ρ' e d => by rw [e]; rfl
theorem h162 (N : Nat) (K) : (X162 N).top K = novationref10_Flat.b N ((X162 N).kc K 5) := by kernel_rfl
theorem sum162 (N : Nat) : SumOk Tryz.prog 162 (S162 N) := Fx.ok1 (X162 N) tabok Tryz.func162 (by kernel_rfl) ⟨sum202 N, sum72 N, sum66 N, trivial⟩ [5] (fun K => by kernel_rfl) (h162 N) (by rw [o162_5]; rfl)

noncomputable def X166 (N : Nat) : Fx := ⟨9, tab, [], N, Tryz.f166, [.v I], [.v B], [], none⟩
noncomputable abbrev S166 (N : Nat) : Summ := (X166 N).S true (novationref15_price N)
theorem sum166 (N : Nat) : SumOk Tryz.prog 166 (S166 N) := Fx.ok0 (X166 N) tabok Tryz.func166 (by kernel_rfl) trivial (by kernel_rfl)

noncomputable def X203 (N : Nat) : Fx := ⟨56, tab, [(166, S166 N)], N, Tryz.f203, [.v tI6], [.v B], [], none⟩
noncomputable abbrev S203 (N : Nat) : Summ := (X203 N).S true (novationref15_RightOrder N)
theorem sum203 (N : Nat) : SumOk Tryz.prog 203 (S203 N) := Fx.ok0 (X203 N) tabok Tryz.func203 (by kernel_rfl) ⟨sum166 N, trivial⟩ (by kernel_rfl)

noncomputable def X163 (N : Nat) : Fx := ⟨37, tab, [(203, S203 N)], N, Tryz.f163, [.v LtI6], [.v B], [⟨9, [(0, .v LtI6), (3, .v I)], [1, 1, 0, 1, 0, 0], []⟩], none⟩
noncomputable abbrev S163 (N : Nat) : Summ := (X163 N).S true (novationref15_Orders N)
theorem h163_9 (N : Nat) (K ρ) : (X163 N).bd K ρ 9 = novationref15_Orders.l4b N ((X163 N).kc ρ 9) := by kernel_rfl
theorem o163_9 (N : Nat) (ρ) : (X163 N).kc ((X163 N).sem ρ) 9 = novationref15_Orders.l4 N N := Fx.okL [] (by kernel_rfl) (fun K ρ => by kernel_rfl) (h163_9 N) ρ (novationref15_Orders.l4 N) rfl fun n ρ' e d => by rw [e]; rfl
theorem h163 (N : Nat) (K) : (X163 N).top K = novationref15_Orders.b N ((X163 N).kc K 9) := by kernel_rfl
theorem sum163 (N : Nat) : SumOk Tryz.prog 163 (S163 N) := Fx.ok1 (X163 N) tabok Tryz.func163 (by kernel_rfl) ⟨sum203 N, trivial⟩ [9] (fun K => by kernel_rfl) (h163 N) (by rw [o163_9]; rfl)

noncomputable def X164 (N : Nat) : Fx := ⟨24, tab, [(65, S65 N), (21, S21 N), (26, S26 N)], N, Tryz.f164, [.v LtI3], [.v tBig], [⟨11, [(0, .v LtI3), (2, .obj tBig), (3, .obj tBig), (4, .v I)], [1, 1, 1, 0, 1, 0, 0], []⟩], none⟩
noncomputable abbrev S164 (N : Nat) : Summ := (X164 N).S false (novationref10_Total N)
theorem h164_11 (N : Nat) (K ρ) : (X164 N).bd K ρ 11 = novationref10_Total.l5b N ((X164 N).kc ρ 11) := by kernel_rfl
theorem o164_11 (N : Nat) (ρ) : (X164 N).kc ((X164 N).sem ρ) 11 = novationref10_Total.l5 N N := Fx.okL [] (by kernel_rfl) (fun K ρ => by kernel_rfl) (h164_11 N) ρ (novationref10_Total.l5 N) rfl fun n ρ' e d => by rw [e]; rfl
theorem h164 (N : Nat) (K) : (X164 N).top K = novationref10_Total.b N ((X164 N).kc K 11) := by kernel_rfl
theorem sum164 (N : Nat) : SumOk Tryz.prog 164 (S164 N) := Fx.ok1 (X164 N) tabok Tryz.func164 (by kernel_rfl) ⟨sum65 N, sum21 N, sum26 N, trivial⟩ [11] (fun K => by kernel_rfl) (h164 N) (by rw [o164_11]; rfl)

noncomputable def X189 (N : Nat) : Fx := ⟨25, tab, [], N, Tryz.f189, [.v LtI4, .v I], [.v tI4, .v B], [⟨5, [(0, .v LtI4), (1, .v I), (4, .obj tI4), (6, .v I)], [1, 0, 1, 0, 0], []⟩], none⟩
noncomputable abbrev S189 (N : Nat) : Summ := (X189 N).S true (novationref10_find N)
theorem h189_5 (N : Nat) (K ρ) : (X189 N).bd K ρ 5 = novationref10_find.l2b N ((X189 N).kc ρ 5) := by kernel_rfl
theorem o189_5 (N : Nat) (ρ) : (X189 N).kc ((X189 N).sem ρ) 5 = novationref10_find.l2 N N := Fx.okL [] (by kernel_rfl) (fun K ρ => by kernel_rfl) (h189_5 N) ρ (novationref10_find.l2 N) rfl fun n ρ' e d => by rw [e]; rfl
theorem h189 (N : Nat) (K) : (X189 N).top K = novationref10_find.b N ((X189 N).kc K 5) := by kernel_rfl
theorem sum189 (N : Nat) : SumOk Tryz.prog 189 (S189 N) := Fx.ok1 (X189 N) tabok Tryz.func189 (by kernel_rfl) trivial [5] (fun K => by kernel_rfl) (h189 N) (by rw [o189_5]; rfl)

noncomputable def X142 (N : Nat) : Fx := ⟨15, tab, [(68, S68 N), (189, S189 N)], N, Tryz.f142, [.v LtI4, .v I], [.v tI4, .v B], [], none⟩
noncomputable abbrev S142 (N : Nat) : Summ := (X142 N).S true (novationref10_Find N)
theorem sum142 (N : Nat) : SumOk Tryz.prog 142 (S142 N) := Fx.ok0 (X142 N) tabok Tryz.func142 (by kernel_rfl) ⟨sum68 N, sum189 N, trivial⟩ (by kernel_rfl)

noncomputable def X165 (N : Nat) : Fx := ⟨19, tab, [(142, S142 N)], N, Tryz.f165, [.v tBook, .v I], [.v B], [], none⟩
noncomputable abbrev S165 (N : Nat) : Summ := (X165 N).S true (novationref15_there N)
theorem sum165 (N : Nat) : SumOk Tryz.prog 165 (S165 N) := Fx.ok0 (X165 N) tabok Tryz.func165 (by kernel_rfl) ⟨sum142 N, trivial⟩ (by kernel_rfl)

noncomputable def X35 (N : Nat) : Fx := ⟨11, tab, [(94, S94 N), (95, S95 N)], N, Tryz.f35, [.v LtI2, .v I], [.v I], [], none⟩
noncomputable abbrev S35 (N : Nat) : Summ := (X35 N).S true (novationref10_Status N)
theorem sum35 (N : Nat) : SumOk Tryz.prog 35 (S35 N) := Fx.ok0 (X35 N) tabok Tryz.func35 (by kernel_rfl) ⟨sum94 N, sum95 N, trivial⟩ (by kernel_rfl)

noncomputable def X110 (N : Nat) : Fx := ⟨163, tab, [(160, S160 N), (161, S161 N), (65, S65 N), (162, S162 N), (163, S163 N), (164, S164 N), (72, S72 N), (165, S165 N), (35, S35 N), (166, S166 N)], N, Tryz.f110, [.v tConfig, .v tBook], [.v B], [⟨45, [(2, .obj tConfig), (3, .obj tBook), (9, .v I)], [1, 1, 1, 1, 1, 1, 0, 1, 0, 0], []⟩, ⟨35, [(2, .obj tConfig), (3, .obj tBook), (8, .v I)], [1, 1, 1, 1, 1, 0, 1, 0, 0], []⟩, ⟨25, [(2, .obj tConfig), (3, .obj tBook), (7, .v I)], [1, 1, 1, 1, 0, 1, 0, 0], []⟩, ⟨13, [(2, .obj tConfig), (3, .obj tBook), (5, .v I)], [1, 1, 1, 0, 1, 0, 0], []⟩], none⟩
noncomputable abbrev S110 (N : Nat) : Summ := (X110 N).S true (novationref15_RightBook N)
theorem h110_45 (N : Nat) (K ρ) : (X110 N).bd K ρ 45 = novationref15_RightBook.l22b N ((X110 N).kc ρ 45) := by kernel_rfl
theorem o110_45 (N : Nat) (ρ) : (X110 N).kc ((X110 N).sem ρ) 45 = novationref15_RightBook.l22 N N := Fx.okL [] (by kernel_rfl) (fun K ρ => by kernel_rfl) (h110_45 N) ρ (novationref15_RightBook.l22 N) rfl fun n ρ' e d => by rw [e]; rfl
theorem h110_35 (N : Nat) (K ρ) : (X110 N).bd K ρ 35 = novationref15_RightBook.l17b N ((X110 N).kc K 45) ((X110 N).kc ρ 35) := by kernel_rfl
theorem o110_35 (N : Nat) (ρ) : (X110 N).kc ((X110 N).sem ρ) 35 = novationref15_RightBook.l17 N N := Fx.okL [45] (by kernel_rfl) (fun K ρ => by kernel_rfl) (h110_35 N) ρ (novationref15_RightBook.l17 N) rfl fun n ρ' e d => by rw [o110_45, e]; rfl
theorem h110_25 (N : Nat) (K ρ) : (X110 N).bd K ρ 25 = novationref15_RightBook.l12b N ((X110 N).kc K 35) ((X110 N).kc ρ 25) := by kernel_rfl
theorem o110_25 (N : Nat) (ρ) : (X110 N).kc ((X110 N).sem ρ) 25 = novationref15_RightBook.l12 N N := Fx.okL [35, 45] (by kernel_rfl) (fun K ρ => by kernel_rfl) (h110_25 N) ρ (novationref15_RightBook.l12 N) rfl fun n ρ' e d => by rw [o110_35, e]; rfl
theorem h110_13 (N : Nat) (K ρ) : (X110 N).bd K ρ 13 = novationref15_RightBook.l6b N ((X110 N).kc K 25) ((X110 N).kc ρ 13) := by kernel_rfl
theorem o110_13 (N : Nat) (ρ) : (X110 N).kc ((X110 N).sem ρ) 13 = novationref15_RightBook.l6 N N := Fx.okL [25, 35, 45] (by kernel_rfl) (fun K ρ => by kernel_rfl) (h110_13 N) ρ (novationref15_RightBook.l6 N) rfl fun n ρ' e d => by rw [o110_25, e]; rfl
theorem h110 (N : Nat) (K) : (X110 N).top K = novationref15_RightBook.b N ((X110 N).kc K 13) := by kernel_rfl
theorem sum110 (N : Nat) : SumOk Tryz.prog 110 (S110 N) := Fx.ok1 (X110 N) tabok Tryz.func110 (by kernel_rfl) ⟨sum160 N, sum161 N, sum65 N, sum162 N, sum163 N, sum164 N, sum72 N, sum165 N, sum35 N, sum166 N, trivial⟩ [13, 25, 35, 45] (fun K => by kernel_rfl) (h110 N) (by rw [o110_13]; rfl)

noncomputable def X23 (N : Nat) : Fx := ⟨38, tab, [(66, S66 N)], N, Tryz.f23, [.v LtI3, .v I, .v I], [.v I], [⟨9, [(0, .v LtI3), (1, .v I), (2, .v I), (7, .v I)], [1, 1, 0, 1, 0, 0], []⟩], none⟩
noncomputable abbrev S23 (N : Nat) : Summ := (X23 N).S true (novationref10_Held N)
theorem h23_9 (N : Nat) (K ρ) : (X23 N).bd K ρ 9 = novationref10_Held.l4b N ((X23 N).kc ρ 9) := by kernel_rfl
theorem o23_9 (N : Nat) (ρ) : (X23 N).kc ((X23 N).sem ρ) 9 = novationref10_Held.l4 N N := Fx.okL [] (by kernel_rfl) (fun K ρ => by kernel_rfl) (h23_9 N) ρ (novationref10_Held.l4 N) rfl fun n ρ' e d => by rw [e]; rfl
theorem h23 (N : Nat) (K) : (X23 N).top K = novationref10_Held.b N ((X23 N).kc K 9) := by kernel_rfl
theorem sum23 (N : Nat) : SumOk Tryz.prog 23 (S23 N) := Fx.ok1 (X23 N) tabok Tryz.func23 (by kernel_rfl) ⟨sum66 N, trivial⟩ [9] (fun K => by kernel_rfl) (h23 N) (by rw [o23_9]; rfl)

noncomputable def X199 (N : Nat) : Fx := ⟨24, tab, [], N, Tryz.f199, [.v I, .v LI], [.v B], [⟨9, [(1, .v LI), (5, .v I)], [1, 1, 0, 1, 0, 0], []⟩], none⟩
noncomputable abbrev S199 (N : Nat) : Summ := (X199 N).S true (novationref1_wrong N)
theorem h199_9 (N : Nat) (K ρ) : (X199 N).bd K ρ 9 = novationref1_wrong.l4b N ((X199 N).kc ρ 9) := by kernel_rfl
theorem o199_9 (N : Nat) (ρ) : (X199 N).kc ((X199 N).sem ρ) 9 = novationref1_wrong.l4 N N := Fx.okL [] (by kernel_rfl) (fun K ρ => by kernel_rfl) (h199_9 N) ρ (novationref1_wrong.l4 N) rfl fun n ρ' e d => by rw [e]; rfl
theorem h199 (N : Nat) (K) : (X199 N).top K = novationref1_wrong.b N ((X199 N).kc K 9) := by kernel_rfl
theorem sum199 (N : Nat) : SumOk Tryz.prog 199 (S199 N) := Fx.ok1 (X199 N) tabok Tryz.func199 (by kernel_rfl) trivial [9] (fun K => by kernel_rfl) (h199 N) (by rw [o199_9]; rfl)

noncomputable def X200 (N : Nat) : Fx := ⟨19, tab, [(21, S21 N), (26, S26 N)], N, Tryz.f200, [.v LI], [.v tBig], [⟨7, [(0, .v LI), (2, .obj tBig), (3, .obj tBig), (4, .v I)], [1, 1, 0, 1, 0, 0], []⟩], none⟩
noncomputable abbrev S200 (N : Nat) : Summ := (X200 N).S false (novationref1_SumInts N)
theorem h200_7 (N : Nat) (K ρ) : (X200 N).bd K ρ 7 = novationref1_SumInts.l3b N ((X200 N).kc ρ 7) := by kernel_rfl
theorem o200_7 (N : Nat) (ρ) : (X200 N).kc ((X200 N).sem ρ) 7 = novationref1_SumInts.l3 N N := Fx.okL [] (by kernel_rfl) (fun K ρ => by kernel_rfl) (h200_7 N) ρ (novationref1_SumInts.l3 N) rfl fun n ρ' e d => by rw [e]; rfl
theorem h200 (N : Nat) (K) : (X200 N).top K = novationref1_SumInts.b N ((X200 N).kc K 7) := by kernel_rfl
theorem sum200 (N : Nat) : SumOk Tryz.prog 200 (S200 N) := Fx.ok1 (X200 N) tabok Tryz.func200 (by kernel_rfl) ⟨sum21 N, sum26 N, trivial⟩ [7] (fun K => by kernel_rfl) (h200 N) (by rw [o200_7]; rfl)

noncomputable def X119 (N : Nat) : Fx := ⟨28, tab, [(100, S100 N)], N, Tryz.f119, [.v tBig], [.v I, .v B], [], none⟩
noncomputable abbrev S119 (N : Nat) : Summ := (X119 N).S true (novationref1_Int N)
theorem sum119 (N : Nat) : SumOk Tryz.prog 119 (S119 N) := Fx.ok0 (X119 N) tabok Tryz.func119 (by kernel_rfl) ⟨sum100 N, trivial⟩ (by kernel_rfl)

noncomputable def X39 (N : Nat) : Fx := ⟨71, tab, [(100, S100 N), (63, S63 N)], N, Tryz.f39, [.v tBig, .v tBig], [.v tBig], [⟨18, [(2, .obj tBig), (3, .obj tBig), (4, .obj tBig), (5, .own U), (6, .v I), (7, .v U), (8, .v I)], [1, 1, 0, 1, 0, 0, 1, 0, 0, 1, 1, 0, 0, 1], [7, 15]⟩, ⟨15, [(2, .obj tBig), (3, .obj tBig), (4, .obj tBig), (5, .own U), (6, .v I), (7, .v U), (8, .v I)], [1, 1, 0, 1, 0, 0, 1, 0, 0, 1, 1, 0, 0], [7]⟩, ⟨7, [(2, .obj tBig), (3, .obj tBig), (4, .obj tBig), (5, .own U), (6, .v I)], [1, 1, 0, 1, 0, 0], []⟩], none⟩
noncomputable abbrev S39 (N : Nat) : Summ := (X39 N).S false (novationref1_Times N)
theorem h39_18 (N : Nat) (K ρ) : (X39 N).bd K ρ 18 = novationref1_Times.j9b N ((X39 N).kc ρ 7) ((X39 N).kc ρ 15) := by kernel_rfl
theorem o39_18 (N : Nat) (ρ) : (X39 N).kc ((X39 N).sem ρ) 18 = novationref1_Times.j9 N ((X39 N).kc ρ 7) ((X39 N).kc ρ 15) := (Fx.okJ [] (by kernel_rfl) (fun K ρ => by kernel_rfl) (h39_18 N) ρ).trans rfl
theorem h39_15 (N : Nat) (K ρ) : (X39 N).bd K ρ 15 = novationref1_Times.l7b N ((X39 N).kc K 18) ((X39 N).kc ρ 7) ((X39 N).kc ρ 15) := by kernel_rfl
theorem o39_15 (N : Nat) (ρ) : (X39 N).kc ((X39 N).sem ρ) 15 = novationref1_Times.l7 N ((X39 N).kc ρ 7) N := Fx.okL [18] (by kernel_rfl) (fun K ρ => by kernel_rfl) (h39_15 N) ρ (novationref1_Times.l7 N ((X39 N).kc ρ 7)) rfl fun n ρ' e d => by rw [o39_18, e, d 7 rfl]; rfl
theorem h39_7 (N : Nat) (K ρ) : (X39 N).bd K ρ 7 = novationref1_Times.l3b N ((X39 N).kc K 15) ((X39 N).kc ρ 7) := by kernel_rfl
theorem o39_7 (N : Nat) (ρ) : (X39 N).kc ((X39 N).sem ρ) 7 = novationref1_Times.l3 N N := Fx.okL [15] (by kernel_rfl) (fun K ρ => by kernel_rfl) (h39_7 N) ρ (novationref1_Times.l3 N) rfl fun n ρ' e d => by rw [o39_15, e]; rfl
theorem h39 (N : Nat) (K) : (X39 N).top K = novationref1_Times.b N ((X39 N).kc K 7) := by kernel_rfl
theorem sum39 (N : Nat) : SumOk Tryz.prog 39 (S39 N) := Fx.ok1 (X39 N) tabok Tryz.func39 (by kernel_rfl) ⟨sum100 N, sum63 N, trivial⟩ [7] (fun K => by kernel_rfl) (h39 N) (by rw [o39_7]; rfl)

noncomputable def X238 (N : Nat) : Fx := ⟨35, tab, [(130, S130 N)], N, Tryz.f238, [.v LU], [.v LU, .v U], [⟨9, [(0, .v LU), (4, .own U), (5, .v U), (6, .v I)], [1, 1, 1, 0, 1, 0, 0], []⟩], none⟩
noncomputable abbrev S238 (N : Nat) : Summ := (X238 N).S false (novationref1_half N)
theorem h238_9 (N : Nat) (K ρ) : (X238 N).bd K ρ 9 = novationref1_half.l4b N ((X238 N).kc ρ 9) := by kernel_rfl
theorem o238_9 (N : Nat) (ρ) : (X238 N).kc ((X238 N).sem ρ) 9 = novationref1_half.l4 N N := Fx.okL [] (by kernel_rfl) (fun K ρ => by kernel_rfl) (h238_9 N) ρ (novationref1_half.l4 N) rfl fun n ρ' e d => by rw [e]; rfl
theorem h238 (N : Nat) (K) : (X238 N).top K = novationref1_half.b N ((X238 N).kc K 9) := by kernel_rfl
theorem sum238 (N : Nat) : SumOk Tryz.prog 238 (S238 N) := Fx.ok1 (X238 N) tabok Tryz.func238 (by kernel_rfl) ⟨sum130 N, trivial⟩ [9] (fun K => by kernel_rfl) (h238 N) (by rw [o238_9]; rfl)

noncomputable def X67 (N : Nat) : Fx := ⟨9, tab, [(63, S63 N)], N, Tryz.f67, [.v tBig], [.v tBig], [], none⟩
noncomputable abbrev S67 (N : Nat) : Summ := (X67 N).S false (novationref1_Turned N)
theorem sum67 (N : Nat) : SumOk Tryz.prog 67 (S67 N) := Fx.ok0 (X67 N) tabok Tryz.func67 (by kernel_rfl) ⟨sum63 N, trivial⟩ (by kernel_rfl)

noncomputable def X24 (N : Nat) : Fx := ⟨9, tab, [(67, S67 N), (26, S26 N)], N, Tryz.f24, [.v tBig, .v tBig], [.v tBig], [], none⟩
noncomputable abbrev S24 (N : Nat) : Summ := (X24 N).S false (novationref1_Less N)
theorem sum24 (N : Nat) : SumOk Tryz.prog 24 (S24 N) := Fx.ok0 (X24 N) tabok Tryz.func24 (by kernel_rfl) ⟨sum67 N, sum26 N, trivial⟩ (by kernel_rfl)

noncomputable def X27 (N : Nat) : Fx := ⟨9, tab, [(24, S24 N), (72, S72 N)], N, Tryz.f27, [.v tBig, .v tBig], [.v I], [], none⟩
noncomputable abbrev S27 (N : Nat) : Summ := (X27 N).S true (novationref1_Cmp N)
theorem sum27 (N : Nat) : SumOk Tryz.prog 27 (S27 N) := Fx.ok0 (X27 N) tabok Tryz.func27 (by kernel_rfl) ⟨sum24 N, sum72 N, trivial⟩ (by kernel_rfl)

noncomputable def X206 (N : Nat) : Fx := ⟨77, tab, [(238, S238 N), (26, S26 N), (21, S21 N), (27, S27 N), (24, S24 N), (72, S72 N), (67, S67 N)], N, Tryz.f206, [.v tBig, .v tBig], [.v tBig, .v tBig], [⟨19, [(2, .obj tBig), (3, .obj tBig), (4, .obj tBig), (5, .obj tBig), (6, .own U), (10, .obj tBig), (11, .obj tBig), (12, .v I)], [1, 1, 1, 1, 0, 1, 0, 0], []⟩, ⟨7, [(2, .obj tBig), (3, .obj tBig), (4, .obj tBig), (5, .obj tBig), (6, .own U), (7, .v LU)], [1, 1, 0, 1, 0, 0], []⟩], none⟩
noncomputable abbrev S206 (N : Nat) : Summ := (X206 N).S false (novationref1_Over N)
theorem h206_19 (N : Nat) (K ρ) : (X206 N).bd K ρ 19 = novationref1_Over.l9b N ((X206 N).kc ρ 19) := by kernel_rfl
theorem o206_19 (N : Nat) (ρ) : (X206 N).kc ((X206 N).sem ρ) 19 = novationref1_Over.l9 N N := Fx.okL [] (by kernel_rfl) (fun K ρ => by kernel_rfl) (h206_19 N) ρ (novationref1_Over.l9 N) rfl fun n ρ' e d => by rw [e]; rfl
theorem h206_7 (N : Nat) (K ρ) : (X206 N).bd K ρ 7 = novationref1_Over.l3b N ((X206 N).kc K 19) ((X206 N).kc ρ 7) := by kernel_rfl
theorem o206_7 (N : Nat) (ρ) : (X206 N).kc ((X206 N).sem ρ) 7 = novationref1_Over.l3 N N := Fx.okL [19] (by kernel_rfl) (fun K ρ => by kernel_rfl) (h206_7 N) ρ (novationref1_Over.l3 N) rfl fun n ρ' e d => by rw [o206_19, e]; rfl
theorem h206 (N : Nat) (K) : (X206 N).top K = novationref1_Over.b N ((X206 N).kc K 7) := by kernel_rfl
theorem sum206 (N : Nat) : SumOk Tryz.prog 206 (S206 N) := Fx.ok1 (X206 N) tabok Tryz.func206 (by kernel_rfl) ⟨sum238 N, sum26 N, sum21 N, sum27 N, sum24 N, sum72 N, sum67 N, trivial⟩ [7, 19] (fun K => by kernel_rfl) (h206 N) (by rw [o206_7]; rfl)

noncomputable def X207 (N : Nat) : Fx := ⟨48, tab, [], N, Tryz.f207, [.v LI], [.own I], [⟨16, [(0, .v LI), (3, .own I), (4, .v I), (5, .v I)], [1, 1, 0, 1, 0, 0, 1, 0, 0, 1, 1], [7]⟩, ⟨13, [(0, .v LI), (3, .own I), (4, .v I), (5, .v I)], [1, 1, 0, 1, 0, 0, 1, 0, 0, 1, 0, 0, 0], [7]⟩, ⟨7, [(0, .v LI), (3, .own I), (4, .v I)], [1, 1, 0, 1, 0, 0], []⟩], none⟩
noncomputable abbrev S207 (N : Nat) : Summ := (X207 N).S false (novationref1_Order N)
theorem h207_16 (N : Nat) (K ρ) : (X207 N).bd K ρ 16 = novationref1_Order.j8b N ((X207 N).kc ρ 7) := by kernel_rfl
theorem o207_16 (N : Nat) (ρ) : (X207 N).kc ((X207 N).sem ρ) 16 = novationref1_Order.j8 N ((X207 N).kc ρ 7) := (Fx.okJ [] (by kernel_rfl) (fun K ρ => by kernel_rfl) (h207_16 N) ρ).trans rfl
theorem h207_13 (N : Nat) (K ρ) : (X207 N).bd K ρ 13 = novationref1_Order.l6b N ((X207 N).kc K 16) ((X207 N).kc ρ 7) ((X207 N).kc ρ 13) := by kernel_rfl
theorem o207_13 (N : Nat) (ρ) : (X207 N).kc ((X207 N).sem ρ) 13 = novationref1_Order.l6 N ((X207 N).kc ρ 7) N := Fx.okL [16] (by kernel_rfl) (fun K ρ => by kernel_rfl) (h207_13 N) ρ (novationref1_Order.l6 N ((X207 N).kc ρ 7)) rfl fun n ρ' e d => by rw [o207_16, e, d 7 rfl]; rfl
theorem h207_7 (N : Nat) (K ρ) : (X207 N).bd K ρ 7 = novationref1_Order.l3b N ((X207 N).kc K 13) ((X207 N).kc ρ 7) := by kernel_rfl
theorem o207_7 (N : Nat) (ρ) : (X207 N).kc ((X207 N).sem ρ) 7 = novationref1_Order.l3 N N := Fx.okL [13, 16] (by kernel_rfl) (fun K ρ => by kernel_rfl) (h207_7 N) ρ (novationref1_Order.l3 N) rfl fun n ρ' e d => by rw [o207_13, e]; rfl
theorem h207 (N : Nat) (K) : (X207 N).top K = novationref1_Order.b N ((X207 N).kc K 7) := by kernel_rfl
theorem sum207 (N : Nat) : SumOk Tryz.prog 207 (S207 N) := Fx.ok1 (X207 N) tabok Tryz.func207 (by kernel_rfl) trivial [7] (fun K => by kernel_rfl) (h207 N) (by rw [o207_7]; rfl)

noncomputable def X171 (N : Nat) : Fx := ⟨112, tab, [(199, S199 N), (200, S200 N), (72, S72 N), (119, S119 N), (21, S21 N), (39, S39 N), (206, S206 N), (207, S207 N)], N, Tryz.f171, [.v I, .v LI], [.own I, .v I], [⟨45, [(9, .own I), (11, .v I), (15, .own I), (16, .v I)], [1, 1, 1, 1, 1, 1, 1, 1, 1, 1, 0, 1, 0, 0], []⟩, ⟨29, [(0, .v I), (1, .v LI), (6, .obj tBig), (9, .own I), (10, .own I), (11, .v I), (12, .v I)], [1, 1, 1, 1, 1, 1, 1, 1, 0, 1, 0, 0], []⟩, ⟨12, [(0, .v I), (1, .v LI), (6, .obj tBig)], [1, 1, 1, 1], []⟩], none⟩
noncomputable abbrev S171 (N : Nat) : Summ := (X171 N).S false (novationref1_Split N)
theorem h171_45 (N : Nat) (K ρ) : (X171 N).bd K ρ 45 = novationref1_Split.l22b N ((X171 N).kc ρ 45) := by kernel_rfl
theorem o171_45 (N : Nat) (ρ) : (X171 N).kc ((X171 N).sem ρ) 45 = novationref1_Split.l22 N N := Fx.okL [] (by kernel_rfl) (fun K ρ => by kernel_rfl) (h171_45 N) ρ (novationref1_Split.l22 N) rfl fun n ρ' e d => by rw [e]; rfl
theorem h171_29 (N : Nat) (K ρ) : (X171 N).bd K ρ 29 = novationref1_Split.l14b N ((X171 N).kc K 45) ((X171 N).kc ρ 29) := by kernel_rfl
theorem o171_29 (N : Nat) (ρ) : (X171 N).kc ((X171 N).sem ρ) 29 = novationref1_Split.l14 N N := Fx.okL [45] (by kernel_rfl) (fun K ρ => by kernel_rfl) (h171_29 N) ρ (novationref1_Split.l14 N) rfl fun n ρ' e d => by rw [o171_45, e]; rfl
theorem h171_12 (N : Nat) (K ρ) : (X171 N).bd K ρ 12 = novationref1_Split.j6b N ((X171 N).kc K 29) := by kernel_rfl
theorem o171_12 (N : Nat) (ρ) : (X171 N).kc ((X171 N).sem ρ) 12 = novationref1_Split.j6 N := (Fx.okJ [29, 45] (by kernel_rfl) (fun K ρ => by kernel_rfl) (h171_12 N) ρ).trans (by rw [o171_29]; rfl)
theorem h171 (N : Nat) (K) : (X171 N).top K = novationref1_Split.b N ((X171 N).kc K 12) := by kernel_rfl
theorem sum171 (N : Nat) : SumOk Tryz.prog 171 (S171 N) := Fx.ok1 (X171 N) tabok Tryz.func171 (by kernel_rfl) ⟨sum199 N, sum200 N, sum72 N, sum119 N, sum21 N, sum39 N, sum206 N, sum207 N, trivial⟩ [12, 29, 45] (fun K => by kernel_rfl) (h171 N) (by rw [o171_12]; rfl)

noncomputable def X156 (N : Nat) : Fx := ⟨129, tab, [(199, S199 N), (200, S200 N), (119, S119 N), (171, S171 N)], N, Tryz.f156, [.v I, .v LI, .v LI], [.own I, .v I, .v I], [⟨39, [(1, .v LI), (2, .v LI), (11, .own I), (12, .v I), (13, .v I), (17, .own I), (19, .v I)], [1, 1, 1, 1, 0, 1, 0, 0, 1, 0, 0, 1, 1, 1, 1, 1, 0, 0], [17]⟩, ⟨25, [(1, .v LI), (2, .v LI), (11, .own I), (12, .v I), (13, .v I), (14, .own I), (15, .v B), (16, .v I)], [1, 1, 1, 1, 0, 1, 0, 0, 1, 0, 0, 1, 0, 1, 0, 0], [17]⟩, ⟨17, [(1, .v LI), (2, .v LI), (11, .own I), (12, .v I), (13, .v I)], [1, 1, 1, 1, 0, 1, 0, 0], []⟩], none⟩
noncomputable abbrev S156 (N : Nat) : Summ := (X156 N).S false (novationref1_Capped N)
theorem h156_39 (N : Nat) (K ρ) : (X156 N).bd K ρ 39 = novationref1_Capped.l19b N ((X156 N).kc ρ 17) ((X156 N).kc ρ 39) := by kernel_rfl
theorem o156_39 (N : Nat) (ρ) : (X156 N).kc ((X156 N).sem ρ) 39 = novationref1_Capped.l19 N ((X156 N).kc ρ 17) N := Fx.okL [] (by kernel_rfl) (fun K ρ => by kernel_rfl) (h156_39 N) ρ (novationref1_Capped.l19 N ((X156 N).kc ρ 17)) rfl fun n ρ' e d => by rw [e, d 17 rfl]; rfl
theorem h156_25 (N : Nat) (K ρ) : (X156 N).bd K ρ 25 = novationref1_Capped.l12b N ((X156 N).kc K 39) ((X156 N).kc ρ 17) ((X156 N).kc ρ 25) := by kernel_rfl
theorem o156_25 (N : Nat) (ρ) : (X156 N).kc ((X156 N).sem ρ) 25 = novationref1_Capped.l12 N ((X156 N).kc ρ 17) N := Fx.okL [39] (by kernel_rfl) (fun K ρ => by kernel_rfl) (h156_25 N) ρ (novationref1_Capped.l12 N ((X156 N).kc ρ 17)) rfl fun n ρ' e d => by rw [o156_39, e, d 17 rfl]; rfl
theorem h156_17 (N : Nat) (K ρ) : (X156 N).bd K ρ 17 = novationref1_Capped.l8b N ((X156 N).kc K 25) ((X156 N).kc ρ 17) := by kernel_rfl
theorem o156_17 (N : Nat) (ρ) : (X156 N).kc ((X156 N).sem ρ) 17 = novationref1_Capped.l8 N N := Fx.okL [25, 39] (by kernel_rfl) (fun K ρ => by kernel_rfl) (h156_17 N) ρ (novationref1_Capped.l8 N) rfl fun n ρ' e d => by rw [o156_25, e]; rfl
theorem h156 (N : Nat) (K) : (X156 N).top K = novationref1_Capped.b N ((X156 N).kc K 17) := by kernel_rfl
theorem sum156 (N : Nat) : SumOk Tryz.prog 156 (S156 N) := Fx.ok1 (X156 N) tabok Tryz.func156 (by kernel_rfl) ⟨sum199 N, sum200 N, sum119 N, sum171 N, trivial⟩ [17] (fun K => by kernel_rfl) (h156 N) (by rw [o156_17]; rfl)

noncomputable def X106 (N : Nat) : Fx := ⟨127, tab, [(110, S110 N), (23, S23 N), (156, S156 N)], N, Tryz.f106, [.v tConfig, .v tBook, .v I], [.own tI3, .v I], [⟨43, [(2, .v I), (8, .v I), (9, .own I), (13, .own I), (16, .own tI3), (17, .v I)], [1, 1, 1, 1, 1, 1, 1, 1, 1, 1, 1, 0, 1, 0, 0], []⟩, ⟨23, [(2, .v I), (4, .obj tBook), (8, .v I), (9, .own I), (10, .own I), (11, .v I)], [1, 1, 1, 1, 1, 1, 1, 0, 1, 0, 0], []⟩], none⟩
noncomputable abbrev S106 (N : Nat) : Summ := (X106 N).S false (novationref26_Cuts N)
theorem h106_43 (N : Nat) (K ρ) : (X106 N).bd K ρ 43 = novationref26_Cuts.l21b N ((X106 N).kc ρ 43) := by kernel_rfl
theorem o106_43 (N : Nat) (ρ) : (X106 N).kc ((X106 N).sem ρ) 43 = novationref26_Cuts.l21 N N := Fx.okL [] (by kernel_rfl) (fun K ρ => by kernel_rfl) (h106_43 N) ρ (novationref26_Cuts.l21 N) rfl fun n ρ' e d => by rw [e]; rfl
theorem h106_23 (N : Nat) (K ρ) : (X106 N).bd K ρ 23 = novationref26_Cuts.l11b N ((X106 N).kc K 43) ((X106 N).kc ρ 23) := by kernel_rfl
theorem o106_23 (N : Nat) (ρ) : (X106 N).kc ((X106 N).sem ρ) 23 = novationref26_Cuts.l11 N N := Fx.okL [43] (by kernel_rfl) (fun K ρ => by kernel_rfl) (h106_23 N) ρ (novationref26_Cuts.l11 N) rfl fun n ρ' e d => by rw [o106_43, e]; rfl
theorem h106 (N : Nat) (K) : (X106 N).top K = novationref26_Cuts.b N ((X106 N).kc K 23) := by kernel_rfl
theorem sum106 (N : Nat) : SumOk Tryz.prog 106 (S106 N) := Fx.ok1 (X106 N) tabok Tryz.func106 (by kernel_rfl) ⟨sum110 N, sum23 N, sum156 N, trivial⟩ [23, 43] (fun K => by kernel_rfl) (h106 N) (by rw [o106_23]; rfl)

noncomputable def X204 (N : Nat) : Fx := ⟨18, tab, [(119, S119 N)], N, Tryz.f204, [.v tBig], [.v I, .v B], [], none⟩
noncomputable abbrev S204 (N : Nat) : Summ := (X204 N).S true (novationref1_Quantity N)
theorem sum204 (N : Nat) : SumOk Tryz.prog 204 (S204 N) := Fx.ok0 (X204 N) tabok Tryz.func204 (by kernel_rfl) ⟨sum119 N, trivial⟩ (by kernel_rfl)

noncomputable def X169 (N : Nat) : Fx := ⟨106, tab, [(21, S21 N), (26, S26 N), (204, S204 N)], N, Tryz.f169, [.v LtI3, .v LtI3], [.own tI3, .v B], [⟨31, [(0, .v LtI3), (1, .v LtI3), (6, .own tI3), (7, .v I), (8, .v I), (9, .v I), (10, .v I), (11, .v B), (12, .obj tBig), (13, .v I)], [1, 1, 1, 0, 1, 0, 0, 1, 0, 0, 1, 0, 0, 1, 0, 0, 1, 1, 1, 0, 1, 0, 0], [9, 15]⟩, ⟨26, [(0, .v LtI3), (1, .v LtI3), (6, .own tI3), (7, .v I), (8, .v I), (9, .v I), (10, .v I), (11, .v B)], [1, 1, 1, 0, 1, 0, 0, 1, 0, 0, 1, 0, 0, 1, 0, 0, 1, 1], [9, 15]⟩, ⟨15, [(0, .v LtI3), (1, .v LtI3), (6, .own tI3), (7, .v I), (8, .v I), (9, .v I)], [1, 1, 1, 0, 1, 0, 0, 1, 0, 0, 1, 0, 0], [9]⟩, ⟨9, [(0, .v LtI3), (1, .v LtI3), (6, .own tI3), (7, .v I), (8, .v I)], [1, 1, 1, 0, 1, 0, 0], []⟩], none⟩
noncomputable abbrev S169 (N : Nat) : Summ := (X169 N).S false (novationref10_Shifted N)
theorem h169_31 (N : Nat) (K ρ) : (X169 N).bd K ρ 31 = novationref10_Shifted.l15b N ((X169 N).kc ρ 9) ((X169 N).kc ρ 15) ((X169 N).kc ρ 31) := by kernel_rfl
theorem o169_31 (N : Nat) (ρ) : (X169 N).kc ((X169 N).sem ρ) 31 = novationref10_Shifted.l15 N ((X169 N).kc ρ 9) ((X169 N).kc ρ 15) N := Fx.okL [] (by kernel_rfl) (fun K ρ => by kernel_rfl) (h169_31 N) ρ (novationref10_Shifted.l15 N ((X169 N).kc ρ 9) ((X169 N).kc ρ 15)) rfl fun n ρ' e d => by rw [e, d 9 rfl, d 15 rfl]; rfl
theorem h169_26 (N : Nat) (K ρ) : (X169 N).bd K ρ 26 = novationref10_Shifted.j13b N ((X169 N).kc K 31) ((X169 N).kc ρ 9) ((X169 N).kc ρ 15) := by kernel_rfl
theorem o169_26 (N : Nat) (ρ) : (X169 N).kc ((X169 N).sem ρ) 26 = novationref10_Shifted.j13 N ((X169 N).kc ρ 9) ((X169 N).kc ρ 15) := (Fx.okJ [31] (by kernel_rfl) (fun K ρ => by kernel_rfl) (h169_26 N) ρ).trans (by rw [o169_31]; rfl)
theorem h169_15 (N : Nat) (K ρ) : (X169 N).bd K ρ 15 = novationref10_Shifted.l7b N ((X169 N).kc K 26) ((X169 N).kc ρ 9) ((X169 N).kc ρ 15) := by kernel_rfl
theorem o169_15 (N : Nat) (ρ) : (X169 N).kc ((X169 N).sem ρ) 15 = novationref10_Shifted.l7 N ((X169 N).kc ρ 9) N := Fx.okL [26, 31] (by kernel_rfl) (fun K ρ => by kernel_rfl) (h169_15 N) ρ (novationref10_Shifted.l7 N ((X169 N).kc ρ 9)) rfl fun n ρ' e d => by rw [o169_26, e, d 9 rfl]; rfl
theorem h169_9 (N : Nat) (K ρ) : (X169 N).bd K ρ 9 = novationref10_Shifted.l4b N ((X169 N).kc K 15) ((X169 N).kc ρ 9) := by kernel_rfl
theorem o169_9 (N : Nat) (ρ) : (X169 N).kc ((X169 N).sem ρ) 9 = novationref10_Shifted.l4 N N := Fx.okL [15] (by kernel_rfl) (fun K ρ => by kernel_rfl) (h169_9 N) ρ (novationref10_Shifted.l4 N) rfl fun n ρ' e d => by rw [o169_15, e]; rfl
theorem h169 (N : Nat) (K) : (X169 N).top K = novationref10_Shifted.b N ((X169 N).kc K 9) := by kernel_rfl
theorem sum169 (N : Nat) : SumOk Tryz.prog 169 (S169 N) := Fx.ok1 (X169 N) tabok Tryz.func169 (by kernel_rfl) ⟨sum21 N, sum26 N, sum204 N, trivial⟩ [9] (fun K => by kernel_rfl) (h169 N) (by rw [o169_9]; rfl)

noncomputable def X205 (N : Nat) : Fx := ⟨53, tab, [(26, S26 N), (21, S21 N), (119, S119 N)], N, Tryz.f205, [.v I, .v I, .v I, .v LtPart], [.v I, .v B], [⟨7, [(0, .v I), (1, .v I), (2, .v I), (3, .v LtPart), (10, .obj tBig), (11, .v B), (12, .v I)], [1, 1, 0, 1, 0, 0], []⟩], none⟩
noncomputable abbrev S205 (N : Nat) : Summ := (X205 N).S true (novationref10_behind N)
theorem h205_7 (N : Nat) (K ρ) : (X205 N).bd K ρ 7 = novationref10_behind.l3b N ((X205 N).kc ρ 7) := by kernel_rfl
theorem o205_7 (N : Nat) (ρ) : (X205 N).kc ((X205 N).sem ρ) 7 = novationref10_behind.l3 N N := Fx.okL [] (by kernel_rfl) (fun K ρ => by kernel_rfl) (h205_7 N) ρ (novationref10_behind.l3 N) rfl fun n ρ' e d => by rw [e]; rfl
theorem h205 (N : Nat) (K) : (X205 N).top K = novationref10_behind.b N ((X205 N).kc K 7) := by kernel_rfl
theorem sum205 (N : Nat) : SumOk Tryz.prog 205 (S205 N) := Fx.ok1 (X205 N) tabok Tryz.func205 (by kernel_rfl) ⟨sum26 N, sum21 N, sum119 N, trivial⟩ [7] (fun K => by kernel_rfl) (h205 N) (by rw [o205_7]; rfl)

noncomputable def X170 (N : Nat) : Fx := ⟨69, tab, [(205, S205 N)], N, Tryz.f170, [.v LtI3, .v LtPart], [.own tI3, .v B], [⟨26, [(0, .v LtI3), (1, .v LtPart), (6, .own tI3), (7, .v I), (8, .v I), (9, .v I), (10, .v I)], [1, 1, 1, 0, 1, 0, 0, 1, 0, 0, 1, 0, 0, 1, 0, 0, 1, 1], [9, 15]⟩, ⟨15, [(0, .v LtI3), (1, .v LtPart), (6, .own tI3), (7, .v I), (8, .v I), (9, .v I)], [1, 1, 1, 0, 1, 0, 0, 1, 0, 0, 1, 0, 0], [9]⟩, ⟨9, [(0, .v LtI3), (1, .v LtPart), (6, .own tI3), (7, .v I), (8, .v I)], [1, 1, 1, 0, 1, 0, 0], []⟩], none⟩
noncomputable abbrev S170 (N : Nat) : Summ := (X170 N).S false (novationref10_Laid N)
theorem h170_26 (N : Nat) (K ρ) : (X170 N).bd K ρ 26 = novationref10_Laid.j13b N ((X170 N).kc ρ 9) ((X170 N).kc ρ 15) := by kernel_rfl
theorem o170_26 (N : Nat) (ρ) : (X170 N).kc ((X170 N).sem ρ) 26 = novationref10_Laid.j13 N ((X170 N).kc ρ 9) ((X170 N).kc ρ 15) := (Fx.okJ [] (by kernel_rfl) (fun K ρ => by kernel_rfl) (h170_26 N) ρ).trans rfl
theorem h170_15 (N : Nat) (K ρ) : (X170 N).bd K ρ 15 = novationref10_Laid.l7b N ((X170 N).kc K 26) ((X170 N).kc ρ 9) ((X170 N).kc ρ 15) := by kernel_rfl
theorem o170_15 (N : Nat) (ρ) : (X170 N).kc ((X170 N).sem ρ) 15 = novationref10_Laid.l7 N ((X170 N).kc ρ 9) N := Fx.okL [26] (by kernel_rfl) (fun K ρ => by kernel_rfl) (h170_15 N) ρ (novationref10_Laid.l7 N ((X170 N).kc ρ 9)) rfl fun n ρ' e d => by rw [o170_26, e, d 9 rfl]; rfl
theorem h170_9 (N : Nat) (K ρ) : (X170 N).bd K ρ 9 = novationref10_Laid.l4b N ((X170 N).kc K 15) ((X170 N).kc ρ 9) := by kernel_rfl
theorem o170_9 (N : Nat) (ρ) : (X170 N).kc ((X170 N).sem ρ) 9 = novationref10_Laid.l4 N N := Fx.okL [15] (by kernel_rfl) (fun K ρ => by kernel_rfl) (h170_9 N) ρ (novationref10_Laid.l4 N) rfl fun n ρ' e d => by rw [o170_15, e]; rfl
theorem h170 (N : Nat) (K) : (X170 N).top K = novationref10_Laid.b N ((X170 N).kc K 9) := by kernel_rfl
theorem sum170 (N : Nat) : SumOk Tryz.prog 170 (S170 N) := Fx.ok1 (X170 N) tabok Tryz.func170 (by kernel_rfl) ⟨sum205 N, trivial⟩ [9] (fun K => by kernel_rfl) (h170 N) (by rw [o170_9]; rfl)

noncomputable def X115 (N : Nat) : Fx := ⟨36, tab, [(169, S169 N), (170, S170 N)], N, Tryz.f115, [.v tBook, .v LtI3, .v LtPart], [.v tBook, .v I], [], none⟩
noncomputable abbrev S115 (N : Nat) : Summ := (X115 N).S false (novationref15_With N)
theorem sum115 (N : Nat) : SumOk Tryz.prog 115 (S115 N) := Fx.ok0 (X115 N) tabok Tryz.func115 (by kernel_rfl) ⟨sum169 N, sum170 N, trivial⟩ (by kernel_rfl)

noncomputable def X107 (N : Nat) : Fx := ⟨41, tab, [(110, S110 N), (106, S106 N), (115, S115 N)], N, Tryz.f107, [.v tConfig, .v tBook], [.v tBook, .v I], [⟨11, [(2, .obj tConfig), (3, .obj tBook), (4, .obj tBook), (6, .own tI3), (7, .v I)], [1, 1, 1, 0, 1, 0, 0], []⟩], none⟩
noncomputable abbrev S107 (N : Nat) : Summ := (X107 N).S false (novationref26_Tear N)
theorem h107_11 (N : Nat) (K ρ) : (X107 N).bd K ρ 11 = novationref26_Tear.l5b N ((X107 N).kc ρ 11) := by kernel_rfl
theorem o107_11 (N : Nat) (ρ) : (X107 N).kc ((X107 N).sem ρ) 11 = novationref26_Tear.l5 N N := Fx.okL [] (by kernel_rfl) (fun K ρ => by kernel_rfl) (h107_11 N) ρ (novationref26_Tear.l5 N) rfl fun n ρ' e d => by rw [e]; rfl
theorem h107 (N : Nat) (K) : (X107 N).top K = novationref26_Tear.b N ((X107 N).kc K 11) := by kernel_rfl
theorem sum107 (N : Nat) : SumOk Tryz.prog 107 (S107 N) := Fx.ok1 (X107 N) tabok Tryz.func107 (by kernel_rfl) ⟨sum110 N, sum106 N, sum115 N, trivial⟩ [11] (fun K => by kernel_rfl) (h107 N) (by rw [o107_11]; rfl)

noncomputable def X101 (N : Nat) : Fx := ⟨26, tab, [], N, Tryz.f101, [.v LtI2, .v LtI2], [.v B], [⟨9, [(0, .v LtI2), (1, .v LtI2), (5, .v I)], [1, 1, 0, 1, 0, 0], []⟩], none⟩
noncomputable abbrev S101 (N : Nat) : Summ := (X101 N).S true (novationhelp_Members N)
theorem h101_9 (N : Nat) (K ρ) : (X101 N).bd K ρ 9 = novationhelp_Members.l4b N ((X101 N).kc ρ 9) := by kernel_rfl
theorem o101_9 (N : Nat) (ρ) : (X101 N).kc ((X101 N).sem ρ) 9 = novationhelp_Members.l4 N N := Fx.okL [] (by kernel_rfl) (fun K ρ => by kernel_rfl) (h101_9 N) ρ (novationhelp_Members.l4 N) rfl fun n ρ' e d => by rw [e]; rfl
theorem h101 (N : Nat) (K) : (X101 N).top K = novationhelp_Members.b N ((X101 N).kc K 9) := by kernel_rfl
theorem sum101 (N : Nat) : SumOk Tryz.prog 101 (S101 N) := Fx.ok1 (X101 N) tabok Tryz.func101 (by kernel_rfl) trivial [9] (fun K => by kernel_rfl) (h101 N) (by rw [o101_9]; rfl)

noncomputable def X37 (N : Nat) : Fx := ⟨26, tab, [], N, Tryz.f37, [.v LtI4, .v LtI4], [.v B], [⟨9, [(0, .v LtI4), (1, .v LtI4), (5, .v I)], [1, 1, 0, 1, 0, 0], []⟩], none⟩
noncomputable abbrev S37 (N : Nat) : Summ := (X37 N).S true (novationhelp_Accs N)
theorem h37_9 (N : Nat) (K ρ) : (X37 N).bd K ρ 9 = novationhelp_Accs.l4b N ((X37 N).kc ρ 9) := by kernel_rfl
theorem o37_9 (N : Nat) (ρ) : (X37 N).kc ((X37 N).sem ρ) 9 = novationhelp_Accs.l4 N N := Fx.okL [] (by kernel_rfl) (fun K ρ => by kernel_rfl) (h37_9 N) ρ (novationhelp_Accs.l4 N) rfl fun n ρ' e d => by rw [e]; rfl
theorem h37 (N : Nat) (K) : (X37 N).top K = novationhelp_Accs.b N ((X37 N).kc K 9) := by kernel_rfl
theorem sum37 (N : Nat) : SumOk Tryz.prog 37 (S37 N) := Fx.ok1 (X37 N) tabok Tryz.func37 (by kernel_rfl) trivial [9] (fun K => by kernel_rfl) (h37 N) (by rw [o37_9]; rfl)

noncomputable def X47 (N : Nat) : Fx := ⟨26, tab, [], N, Tryz.f47, [.v LtI3, .v LtI3], [.v B], [⟨9, [(0, .v LtI3), (1, .v LtI3), (5, .v I)], [1, 1, 0, 1, 0, 0], []⟩], none⟩
noncomputable abbrev S47 (N : Nat) : Summ := (X47 N).S true (novationhelp_Rows N)
theorem h47_9 (N : Nat) (K ρ) : (X47 N).bd K ρ 9 = novationhelp_Rows.l4b N ((X47 N).kc ρ 9) := by kernel_rfl
theorem o47_9 (N : Nat) (ρ) : (X47 N).kc ((X47 N).sem ρ) 9 = novationhelp_Rows.l4 N N := Fx.okL [] (by kernel_rfl) (fun K ρ => by kernel_rfl) (h47_9 N) ρ (novationhelp_Rows.l4 N) rfl fun n ρ' e d => by rw [e]; rfl
theorem h47 (N : Nat) (K) : (X47 N).top K = novationhelp_Rows.b N ((X47 N).kc K 9) := by kernel_rfl
theorem sum47 (N : Nat) : SumOk Tryz.prog 47 (S47 N) := Fx.ok1 (X47 N) tabok Tryz.func47 (by kernel_rfl) trivial [9] (fun K => by kernel_rfl) (h47 N) (by rw [o47_9]; rfl)

noncomputable def X48 (N : Nat) : Fx := ⟨26, tab, [], N, Tryz.f48, [.v LI, .v LI], [.v B], [⟨9, [(0, .v LI), (1, .v LI), (5, .v I)], [1, 1, 0, 1, 0, 0], []⟩], none⟩
noncomputable abbrev S48 (N : Nat) : Summ := (X48 N).S true (novationhelp_Ints N)
theorem h48_9 (N : Nat) (K ρ) : (X48 N).bd K ρ 9 = novationhelp_Ints.l4b N ((X48 N).kc ρ 9) := by kernel_rfl
theorem o48_9 (N : Nat) (ρ) : (X48 N).kc ((X48 N).sem ρ) 9 = novationhelp_Ints.l4 N N := Fx.okL [] (by kernel_rfl) (fun K ρ => by kernel_rfl) (h48_9 N) ρ (novationhelp_Ints.l4 N) rfl fun n ρ' e d => by rw [e]; rfl
theorem h48 (N : Nat) (K) : (X48 N).top K = novationhelp_Ints.b N ((X48 N).kc K 9) := by kernel_rfl
theorem sum48 (N : Nat) : SumOk Tryz.prog 48 (S48 N) := Fx.ok1 (X48 N) tabok Tryz.func48 (by kernel_rfl) trivial [9] (fun K => by kernel_rfl) (h48 N) (by rw [o48_9]; rfl)

noncomputable def X36 (N : Nat) : Fx := ⟨26, tab, [], N, Tryz.f36, [.v LtI6, .v LtI6], [.v B], [⟨9, [(0, .v LtI6), (1, .v LtI6), (5, .v I)], [1, 1, 0, 1, 0, 0], []⟩], none⟩
noncomputable abbrev S36 (N : Nat) : Summ := (X36 N).S true (novationhelp_Orders N)
theorem h36_9 (N : Nat) (K ρ) : (X36 N).bd K ρ 9 = novationhelp_Orders.l4b N ((X36 N).kc ρ 9) := by kernel_rfl
theorem o36_9 (N : Nat) (ρ) : (X36 N).kc ((X36 N).sem ρ) 9 = novationhelp_Orders.l4 N N := Fx.okL [] (by kernel_rfl) (fun K ρ => by kernel_rfl) (h36_9 N) ρ (novationhelp_Orders.l4 N) rfl fun n ρ' e d => by rw [e]; rfl
theorem h36 (N : Nat) (K) : (X36 N).top K = novationhelp_Orders.b N ((X36 N).kc K 9) := by kernel_rfl
theorem sum36 (N : Nat) : SumOk Tryz.prog 36 (S36 N) := Fx.ok1 (X36 N) tabok Tryz.func36 (by kernel_rfl) trivial [9] (fun K => by kernel_rfl) (h36 N) (by rw [o36_9]; rfl)

noncomputable def X41 (N : Nat) : Fx := ⟨45, tab, [(101, S101 N), (37, S37 N), (47, S47 N), (102, S102 N), (48, S48 N), (36, S36 N)], N, Tryz.f41, [.v tBook, .v tBook], [.v B], [], none⟩
noncomputable abbrev S41 (N : Nat) : Summ := (X41 N).S true (novationhelp_Book N)
theorem sum41 (N : Nat) : SumOk Tryz.prog 41 (S41 N) := Fx.ok0 (X41 N) tabok Tryz.func41 (by kernel_rfl) ⟨sum101 N, sum37 N, sum47 N, sum102 N, sum48 N, sum36 N, trivial⟩ (by kernel_rfl)

noncomputable def X43 (N : Nat) : Fx := ⟨59, tab, [(104, S104 N), (106, S106 N), (45, S45 N), (107, S107 N), (105, S105 N), (41, S41 N)], N, Tryz.f43, [.v tConfig, .v tBook, .v I], [.v B], [], none⟩
noncomputable abbrev S43 (N : Nat) : Summ := (X43 N).S true (novationlaw29_told N)
theorem env43 (N : Nat) : EnvOk Tryz.prog (X43 N).E := Fx.envOk (X43 N) tabok ⟨sum104 N, sum106 N, sum45 N, sum107 N, sum105 N, sum41 N, trivial⟩ (by kernel_rfl)
theorem run43 (N : Nat) : ∀ x, evF (X43 N).E (X43 N).fn (X43 N).args (X43 N).res x = uncA (X43 N).args (novationlaw29_told N) x := Fx.run0 (by kernel_rfl)
theorem sum43 (N : Nat) : SumOk Tryz.prog 43 (S43 N) := Fx.ok0 (X43 N) tabok Tryz.func43 (by kernel_rfl) ⟨sum104 N, sum106 N, sum45 N, sum107 N, sum105 N, sum41 N, trivial⟩ (by kernel_rfl)

noncomputable def X12 (N : Nat) : Fx := ⟨53, tab, [(42, S42 N), (43, S43 N)], N, Tryz.f12, [.v tConfig, .v tBook, .v I], [.v B], [], none⟩
noncomputable abbrev S12 (N : Nat) : Summ := (X12 N).S true (novationlaw29_TearAll N)
theorem env12 (N : Nat) : EnvOk Tryz.prog (X12 N).E := Fx.envOk (X12 N) tabok ⟨sum42 N, sum43 N, trivial⟩ (by kernel_rfl)
theorem run12 (N : Nat) : ∀ x, evF (X12 N).E (X12 N).fn (X12 N).args (X12 N).res x = uncA (X12 N).args (novationlaw29_TearAll N) x := Fx.run0 (by kernel_rfl)
theorem sum12 (N : Nat) : SumOk Tryz.prog 12 (S12 N) := Fx.ok0 (X12 N) tabok Tryz.func12 (by kernel_rfl) ⟨sum42 N, sum43 N, trivial⟩ (by kernel_rfl)

end VM.F
