/- A part of the proof of WindAll, of layer 21: each function of the program does what its equation says; printed by a program. -/
import Derived.Test.YtnkhdmeoclffaaaGreatText
import Derived.Test.YtnkhdmeoclffaaaGreatVm7
import Derived.Test.YtnkhdmeoclffaaaGreatProg
import Derived.KernelRfl
set_option linter.all false
namespace VM.F
open Go VM Go.Proofs
set_option linter.unusedVariables false
set_option linter.unusedSimpArgs false
set_option maxRecDepth 100000
abbrev I : Ty := .int .i64
abbrev U : Ty := .int .u64
abbrev B : Ty := .bool
abbrev Z : Ty := .str
abbrev LterrorString : Ty := .slice terrorString
abbrev LterrorAddressString : Ty := .slice terrorAddressString
abbrev LtI2 : Ty := .slice tI2
abbrev LtWide : Ty := .slice tWide
abbrev LtBig : Ty := .slice tBig
abbrev LtDeck : Ty := .slice tDeck
abbrev LtI3 : Ty := .slice tI3
abbrev LtboundsError : Ty := .slice tboundsError
abbrev LtI4 : Ty := .slice tI4
abbrev LtEntry : Ty := .slice tEntry
abbrev LtI5 : Ty := .slice tI5
abbrev LtPart : Ty := .slice tPart
abbrev LtI6 : Ty := .slice tI6
abbrev LtI8 : Ty := .slice tI8
abbrev LtLot : Ty := .slice tLot
abbrev LtReport : Ty := .slice tReport
abbrev LtConfig : Ty := .slice tConfig
abbrev LtBook : Ty := .slice tBook
abbrev LtDefault : Ty := .slice tDefault
abbrev LtState : Ty := .slice tState
abbrev Lttrack : Ty := .slice ttrack
abbrev LI : Ty := .slice I
abbrev LU : Ty := .slice U
def tab : List (Nat × Ty) := [(2, I), (3, I), (4, B), (22, LtI4), (24, tConfig), (25, LtI2), (26, LtI4), (27, LtI3), (28, LtI3), (29, LI), (30, LtI6), (32, tBook), (36, LtI2), (40, LU), (57, I), (64, tBig), (69, tI2), (84, tI4), (90, tI4), (110, LtI3), (111, LtEntry), (113, tI3), (114, U), (116, tWide), (119, tEntry), (125, tI3), (127, tI3), (139, tI6), (171, tI2), (172, LtPart), (196, LtWide), (220, tPart), (228, (.arr 13 B))]
theorem tabok : TabOk Tryz.prog tab := ⟨by kernel_rfl, by kernel_rfl⟩
noncomputable abbrev Ssub64 (N : Nat) : Summ := sub64.S N
noncomputable abbrev Sadd64 (N : Nat) : Summ := add64.S N
theorem sumadd64 (N : Nat) : SumOk Tryz.prog 188 (Sadd64 N) := add64_sum N Tryz.func188 (by kernel_rfl) (by kernel_rfl) (by kernel_rfl) (by kernel_rfl)
theorem sumsub64 (N : Nat) : SumOk Tryz.prog 194 (Ssub64 N) := sub64_sum N Tryz.func194 (by kernel_rfl) (by kernel_rfl) (by kernel_rfl) (by kernel_rfl)
noncomputable abbrev Sclo_176 (N : Nat) : Summ := cloneS (.pair (.int .i64) (.pair (.int .i64) .unit)) N
noncomputable def clo_176.ren : Go.Shelf.Ren := { f := fun i => 0, t := fun i => cond (Nat.beq i 3) 171 (cond (Nat.beq i 4) 4 25), g := fun _ => 0 }
theorem clo_176.lays : CloP Tryz.prog (.pair (.int .i64) (.pair (.int .i64) .unit)) clo_176.ren 176 Tryz.f176 := ⟨Tryz.func176.trans (by kernel_rfl), Tryz.underlying4, Tryz.underlying25, layB_ok (x := .inl 171) (by kernel_rfl), by decide, by kernel_rfl⟩
theorem sumclo_176 (N : Nat) : SumOk Tryz.prog 176 (Sclo_176 N) := clone_sum clo_176.lays (by kernel_rfl) (by kernel_rfl) N
noncomputable abbrev Sclo_177 (N : Nat) : Summ := cloneS (.pair (.int .i64) (.pair (.int .i64) (.pair (.int .i64) (.pair (.int .i64) .unit)))) N
noncomputable def clo_177.ren : Go.Shelf.Ren := { f := fun i => 0, t := fun i => cond (Nat.beq i 3) 84 (cond (Nat.beq i 4) 4 26), g := fun _ => 0 }
theorem clo_177.lays : CloP Tryz.prog (.pair (.int .i64) (.pair (.int .i64) (.pair (.int .i64) (.pair (.int .i64) .unit)))) clo_177.ren 177 Tryz.f177 := ⟨Tryz.func177.trans (by kernel_rfl), Tryz.underlying4, Tryz.underlying26, layB_ok (x := .inl 84) (by kernel_rfl), by decide, by kernel_rfl⟩
theorem sumclo_177 (N : Nat) : SumOk Tryz.prog 177 (Sclo_177 N) := clone_sum clo_177.lays (by kernel_rfl) (by kernel_rfl) N
noncomputable abbrev Sclo_178 (N : Nat) : Summ := cloneS (.pair (.int .i64) (.pair (.int .i64) (.pair (.int .i64) .unit))) N
noncomputable def clo_178.ren : Go.Shelf.Ren := { f := fun i => 0, t := fun i => cond (Nat.beq i 3) 125 (cond (Nat.beq i 4) 4 27), g := fun _ => 0 }
theorem clo_178.lays : CloP Tryz.prog (.pair (.int .i64) (.pair (.int .i64) (.pair (.int .i64) .unit))) clo_178.ren 178 Tryz.f178 := ⟨Tryz.func178.trans (by kernel_rfl), Tryz.underlying4, Tryz.underlying27, layB_ok (x := .inl 125) (by kernel_rfl), by decide, by kernel_rfl⟩
theorem sumclo_178 (N : Nat) : SumOk Tryz.prog 178 (Sclo_178 N) := clone_sum clo_178.lays (by kernel_rfl) (by kernel_rfl) N
noncomputable abbrev Sclo_179 (N : Nat) : Summ := cloneS (.pair (.int .i64) (.pair (.int .i64) (.pair (.int .i64) .unit))) N
noncomputable def clo_179.ren : Go.Shelf.Ren := { f := fun i => 0, t := fun i => cond (Nat.beq i 3) 127 (cond (Nat.beq i 4) 4 28), g := fun _ => 0 }
theorem clo_179.lays : CloP Tryz.prog (.pair (.int .i64) (.pair (.int .i64) (.pair (.int .i64) .unit))) clo_179.ren 179 Tryz.f179 := ⟨Tryz.func179.trans (by kernel_rfl), Tryz.underlying4, Tryz.underlying28, layB_ok (x := .inl 127) (by kernel_rfl), by decide, by kernel_rfl⟩
theorem sumclo_179 (N : Nat) : SumOk Tryz.prog 179 (Sclo_179 N) := clone_sum clo_179.lays (by kernel_rfl) (by kernel_rfl) N
noncomputable abbrev Sclo_180 (N : Nat) : Summ := cloneS (.int .i64) N
noncomputable def clo_180.ren : Go.Shelf.Ren := { f := fun i => 0, t := fun i => cond (Nat.beq i 3) 2 (cond (Nat.beq i 4) 4 29), g := fun _ => 0 }
theorem clo_180.lays : CloP Tryz.prog (.int .i64) clo_180.ren 180 Tryz.f180 := ⟨Tryz.func180.trans (by kernel_rfl), Tryz.underlying4, Tryz.underlying29, layB_ok (x := .inl 2) (by kernel_rfl), by decide, by kernel_rfl⟩
theorem sumclo_180 (N : Nat) : SumOk Tryz.prog 180 (Sclo_180 N) := clone_sum clo_180.lays (by kernel_rfl) (by kernel_rfl) N
noncomputable abbrev Sclo_181 (N : Nat) : Summ := cloneS (.pair (.int .i64) (.pair (.int .i64) (.pair (.int .i64) (.pair (.int .i64) (.pair (.int .i64) (.pair (.int .i64) .unit)))))) N
noncomputable def clo_181.ren : Go.Shelf.Ren := { f := fun i => 0, t := fun i => cond (Nat.beq i 3) 139 (cond (Nat.beq i 4) 4 30), g := fun _ => 0 }
theorem clo_181.lays : CloP Tryz.prog (.pair (.int .i64) (.pair (.int .i64) (.pair (.int .i64) (.pair (.int .i64) (.pair (.int .i64) (.pair (.int .i64) .unit)))))) clo_181.ren 181 Tryz.f181 := ⟨Tryz.func181.trans (by kernel_rfl), Tryz.underlying4, Tryz.underlying30, layB_ok (x := .inl 139) (by kernel_rfl), by decide, by kernel_rfl⟩
theorem sumclo_181 (N : Nat) : SumOk Tryz.prog 181 (Sclo_181 N) := clone_sum clo_181.lays (by kernel_rfl) (by kernel_rfl) N
noncomputable abbrev Sins_184 (N : Nat) : Summ := insertS (.pair (.int .i64) (.pair (.int .i64) (.pair (.int .i64) .unit))) N
noncomputable def ins_184.ren : Go.Shelf.Ren := { f := fun i => cond (Nat.beq i 29) 209 (cond (Nat.beq i 30) 210 0), t := fun i => cond (Nat.beq i 24) 28 (cond (Nat.beq i 9) 127 (cond (Nat.beq i 3) 3 (cond (Nat.beq i 4) 4 0))), g := fun _ => 0 }
theorem ins_184.lays : InsP Tryz.prog (.pair (.int .i64) (.pair (.int .i64) (.pair (.int .i64) .unit))) ins_184.ren 184 Tryz.f184 Tryz.f209 := ⟨Tryz.func184.trans (by kernel_rfl), Tryz.underlying3, Tryz.underlying4, Tryz.underlying28, layB_ok (x := .inl 127) (by kernel_rfl), by decide, by kernel_rfl⟩
theorem sumins_184 (N : Nat) : SumOk Tryz.prog 184 (Sins_184 N) := insert_sum ins_184.lays ⟨Tryz.func209, by kernel_rfl, by kernel_rfl, by kernel_rfl, by kernel_rfl⟩ (by kernel_rfl) (by kernel_rfl) N
noncomputable abbrev Sins_186 (N : Nat) : Summ := insertS (.pair (.int .i64) (.pair (.int .i64) (.pair (.int .i64) .unit))) N
noncomputable def ins_186.ren : Go.Shelf.Ren := { f := fun i => cond (Nat.beq i 29) 211 (cond (Nat.beq i 30) 212 0), t := fun i => cond (Nat.beq i 24) 27 (cond (Nat.beq i 9) 125 (cond (Nat.beq i 3) 3 (cond (Nat.beq i 4) 4 0))), g := fun _ => 0 }
theorem ins_186.lays : InsP Tryz.prog (.pair (.int .i64) (.pair (.int .i64) (.pair (.int .i64) .unit))) ins_186.ren 186 Tryz.f186 Tryz.f211 := ⟨Tryz.func186.trans (by kernel_rfl), Tryz.underlying3, Tryz.underlying4, Tryz.underlying27, layB_ok (x := .inl 125) (by kernel_rfl), by decide, by kernel_rfl⟩
theorem sumins_186 (N : Nat) : SumOk Tryz.prog 186 (Sins_186 N) := insert_sum ins_186.lays ⟨Tryz.func211, by kernel_rfl, by kernel_rfl, by kernel_rfl, by kernel_rfl⟩ (by kernel_rfl) (by kernel_rfl) N
noncomputable def X84 (N : Nat) : Fx := ⟨26, tab, [], N, Tryz.f84, [], [.v tConfig, .v tBook], [], none⟩
noncomputable abbrev S84 (N : Nat) : Summ := (X84 N).S false (novationlaw21_small N)
theorem env84 (N : Nat) : EnvOk Tryz.prog (X84 N).E := Fx.envOk (X84 N) tabok trivial (by kernel_rfl)
theorem run84 (N : Nat) : ∀ x, evF (X84 N).E (X84 N).fn (X84 N).args (X84 N).res x = uncA (X84 N).args (novationlaw21_small N) x := Fx.run0 (by kernel_rfl)
theorem sum84 (N : Nat) : SumOk Tryz.prog 84 (S84 N) := Fx.ok0 (X84 N) tabok Tryz.func84 (by kernel_rfl) trivial (by kernel_rfl)

noncomputable def X132 (N : Nat) : Fx := ⟨15, tab, [], N, Tryz.f132, [.v I, .v I, .v I], [.v B], [], none⟩
noncomputable abbrev S132 (N : Nat) : Summ := (X132 N).S true (plan_in N)
theorem sum132 (N : Nat) : SumOk Tryz.prog 132 (S132 N) := Fx.ok0 (X132 N) tabok Tryz.func132 (by kernel_rfl) trivial (by kernel_rfl)

noncomputable def X73 (N : Nat) : Fx := ⟨68, tab, [(132, S132 N)], N, Tryz.f73, [.v tConfig], [.v B], [⟨9, [(1, .obj tConfig), (11, .v LtI4), (12, .v I), (13, .v I)], [1, 1, 0, 1, 0, 0], []⟩], none⟩
noncomputable abbrev S73 (N : Nat) : Summ := (X73 N).S true (plan_Right N)
theorem h73_9 (N : Nat) (K ρ) : (X73 N).bd K ρ 9 = plan_Right.l4b N ((X73 N).kc ρ 9) := by kernel_rfl
theorem o73_9 (N : Nat) (ρ) : (X73 N).kc ((X73 N).sem ρ) 9 = plan_Right.l4 N N := Fx.okL [] (by kernel_rfl) (fun K ρ => by kernel_rfl) (h73_9 N) ρ (plan_Right.l4 N) rfl fun n ρ' e d => by rw [e]; rfl
theorem h73 (N : Nat) (K) : (X73 N).top K = plan_Right.b N ((X73 N).kc K 9) := by kernel_rfl
theorem sum73 (N : Nat) : SumOk Tryz.prog 73 (S73 N) := Fx.ok1 (X73 N) tabok Tryz.func73 (by kernel_rfl) ⟨sum132 N, trivial⟩ [9] (fun K => by kernel_rfl) (h73 N) (by rw [o73_9]; rfl)

noncomputable def X126 (N : Nat) : Fx := ⟨46, tab, [], N, Tryz.f126, [.v LtI2], [.v B], [⟨5, [(0, .v LtI2), (5, .v LtI2), (6, .v I), (7, .v I)], [1, 0, 1, 0, 0], []⟩], none⟩
noncomputable abbrev S126 (N : Nat) : Summ := (X126 N).S true (roll_Members N)
theorem h126_5 (N : Nat) (K ρ) : (X126 N).bd K ρ 5 = roll_Members.l2b N ((X126 N).kc ρ 5) := by kernel_rfl
theorem o126_5 (N : Nat) (ρ) : (X126 N).kc ((X126 N).sem ρ) 5 = roll_Members.l2 N N := Fx.okL [] (by kernel_rfl) (fun K ρ => by kernel_rfl) (h126_5 N) ρ (roll_Members.l2 N) rfl fun n ρ' e d => by rw [e]; rfl
theorem h126 (N : Nat) (K) : (X126 N).top K = roll_Members.b N ((X126 N).kc K 5) := by kernel_rfl
theorem sum126 (N : Nat) : SumOk Tryz.prog 126 (S126 N) := Fx.ok1 (X126 N) tabok Tryz.func126 (by kernel_rfl) trivial [5] (fun K => by kernel_rfl) (h126 N) (by rw [o126_5]; rfl)

noncomputable def X125 (N : Nat) : Fx := ⟨77, tab, [], N, Tryz.f125, [.v LtI4], [.v B], [⟨7, [(0, .v LtI4), (3, .obj (.arr 13 B)), (6, .v LtI4), (7, .v I), (8, .v I)], [1, 1, 0, 1, 0, 0], []⟩], none⟩
noncomputable abbrev S125 (N : Nat) : Summ := (X125 N).S true (roll_Accs N)
theorem h125_7 (N : Nat) (K ρ) : (X125 N).bd K ρ 7 = roll_Accs.l3b N ((X125 N).kc ρ 7) := by kernel_rfl
theorem o125_7 (N : Nat) (ρ) : (X125 N).kc ((X125 N).sem ρ) 7 = roll_Accs.l3 N N := Fx.okL [] (by kernel_rfl) (fun K ρ => by kernel_rfl) (h125_7 N) ρ (roll_Accs.l3 N) rfl fun n ρ' e d => by rw [e]; rfl
theorem h125 (N : Nat) (K) : (X125 N).top K = roll_Accs.b N ((X125 N).kc K 7) := by kernel_rfl
theorem sum125 (N : Nat) : SumOk Tryz.prog 125 (S125 N) := Fx.ok1 (X125 N) tabok Tryz.func125 (by kernel_rfl) trivial [7] (fun K => by kernel_rfl) (h125 N) (by rw [o125_7]; rfl)

noncomputable def X60 (N : Nat) : Fx := ⟨23, tab, [(126, S126 N)], N, Tryz.f60, [.v LtI2, .v I], [.v I], [⟨9, [(1, .v I), (10, .v LtI2), (11, .v I), (12, .v I)], [1, 1, 0, 1, 0, 0], []⟩], none⟩
noncomputable abbrev S60 (N : Nat) : Summ := (X60 N).S true (roll_Status N)
theorem h60_9 (N : Nat) (K ρ) : (X60 N).bd K ρ 9 = roll_Status.l4b N ((X60 N).kc ρ 9) := by kernel_rfl
theorem o60_9 (N : Nat) (ρ) : (X60 N).kc ((X60 N).sem ρ) 9 = roll_Status.l4 N N := Fx.okL [] (by kernel_rfl) (fun K ρ => by kernel_rfl) (h60_9 N) ρ (roll_Status.l4 N) rfl fun n ρ' e d => by rw [e]; rfl
theorem h60 (N : Nat) (K) : (X60 N).top K = roll_Status.b N ((X60 N).kc K 9) := by kernel_rfl
theorem sum60 (N : Nat) : SumOk Tryz.prog 60 (S60 N) := Fx.ok1 (X60 N) tabok Tryz.func60 (by kernel_rfl) ⟨sum126 N, trivial⟩ [9] (fun K => by kernel_rfl) (h60 N) (by rw [o60_9]; rfl)

noncomputable def X74 (N : Nat) : Fx := ⟨27, tab, [(126, S126 N), (125, S125 N), (60, S60 N)], N, Tryz.f74, [.v LtI2, .v LtI4], [.v B], [⟨9, [(0, .v LtI2), (15, .v LtI4), (16, .v I), (17, .v I)], [1, 1, 0, 1, 0, 0], []⟩], none⟩
noncomputable abbrev S74 (N : Nat) : Summ := (X74 N).S true (roll_Right N)
theorem h74_9 (N : Nat) (K ρ) : (X74 N).bd K ρ 9 = roll_Right.l4b N ((X74 N).kc ρ 9) := by kernel_rfl
theorem o74_9 (N : Nat) (ρ) : (X74 N).kc ((X74 N).sem ρ) 9 = roll_Right.l4 N N := Fx.okL [] (by kernel_rfl) (fun K ρ => by kernel_rfl) (h74_9 N) ρ (roll_Right.l4 N) rfl fun n ρ' e d => by rw [e]; rfl
theorem h74 (N : Nat) (K) : (X74 N).top K = roll_Right.b N ((X74 N).kc K 9) := by kernel_rfl
theorem sum74 (N : Nat) : SumOk Tryz.prog 74 (S74 N) := Fx.ok1 (X74 N) tabok Tryz.func74 (by kernel_rfl) ⟨sum126 N, sum125 N, sum60 N, trivial⟩ [9] (fun K => by kernel_rfl) (h74 N) (by rw [o74_9]; rfl)

noncomputable def X133 (N : Nat) : Fx := ⟨30, tab, [], N, Tryz.f133, [.v I, .v I], [.v B], [], none⟩
noncomputable abbrev S133 (N : Nat) : Summ := (X133 N).S true (ledger_Key N)
theorem sum133 (N : Nat) : SumOk Tryz.prog 133 (S133 N) := Fx.ok0 (X133 N) tabok Tryz.func133 (by kernel_rfl) trivial (by kernel_rfl)

noncomputable def X134 (N : Nat) : Fx := ⟨19, tab, [], N, Tryz.f134, [.v I, .v I, .v tI3], [.v I], [], none⟩
noncomputable abbrev S134 (N : Nat) : Summ := (X134 N).S true (ledger_order N)
theorem sum134 (N : Nat) : SumOk Tryz.prog 134 (S134 N) := Fx.ok0 (X134 N) tabok Tryz.func134 (by kernel_rfl) trivial (by kernel_rfl)

noncomputable def X75 (N : Nat) : Fx := ⟨41, tab, [(133, S133 N), (134, S134 N)], N, Tryz.f75, [.v LtI3], [.v B], [⟨5, [(0, .v LtI3), (5, .v LtI3), (6, .v I), (7, .v I)], [1, 0, 1, 0, 0], []⟩], none⟩
noncomputable abbrev S75 (N : Nat) : Summ := (X75 N).S true (ledger_Right N)
theorem h75_5 (N : Nat) (K ρ) : (X75 N).bd K ρ 5 = ledger_Right.l2b N ((X75 N).kc ρ 5) := by kernel_rfl
theorem o75_5 (N : Nat) (ρ) : (X75 N).kc ((X75 N).sem ρ) 5 = ledger_Right.l2 N N := Fx.okL [] (by kernel_rfl) (fun K ρ => by kernel_rfl) (h75_5 N) ρ (ledger_Right.l2 N) rfl fun n ρ' e d => by rw [e]; rfl
theorem h75 (N : Nat) (K) : (X75 N).top K = ledger_Right.b N ((X75 N).kc K 5) := by kernel_rfl
theorem sum75 (N : Nat) : SumOk Tryz.prog 75 (S75 N) := Fx.ok1 (X75 N) tabok Tryz.func75 (by kernel_rfl) ⟨sum133 N, sum134 N, trivial⟩ [5] (fun K => by kernel_rfl) (h75 N) (by rw [o75_5]; rfl)

noncomputable def X61 (N : Nat) : Fx := ⟨8, tab, [], N, Tryz.f61, [.v I], [.v tWide], [], none⟩
noncomputable abbrev S61 (N : Nat) : Summ := (X61 N).S true (wide_Of N)
theorem sum61 (N : Nat) : SumOk Tryz.prog 61 (S61 N) := Fx.ok0 (X61 N) tabok Tryz.func61 (by kernel_rfl) trivial (by kernel_rfl)

noncomputable def X136 (N : Nat) : Fx := ⟨51, tab, [(188, Sadd64 N)], N, Tryz.f136, [.v LtWide], [.v tWide, .v B], [⟨7, [(2, .obj tWide), (4, .v I), (5, .v U), (6, .v U), (10, .v LtWide), (11, .v I), (12, .v I)], [1, 1, 0, 1, 0, 0], []⟩], none⟩
noncomputable abbrev S136 (N : Nat) : Summ := (X136 N).S true (wide_Sum N)
theorem h136_7 (N : Nat) (K ρ) : (X136 N).bd K ρ 7 = wide_Sum.l3b N ((X136 N).kc ρ 7) := by kernel_rfl
theorem o136_7 (N : Nat) (ρ) : (X136 N).kc ((X136 N).sem ρ) 7 = wide_Sum.l3 N N := Fx.okL [] (by kernel_rfl) (fun K ρ => by kernel_rfl) (h136_7 N) ρ (wide_Sum.l3 N) rfl fun n ρ' e d => by rw [e]; rfl
theorem h136 (N : Nat) (K) : (X136 N).top K = wide_Sum.b N ((X136 N).kc K 7) := by kernel_rfl
theorem sum136 (N : Nat) : SumOk Tryz.prog 136 (S136 N) := Fx.ok1 (X136 N) tabok Tryz.func136 (by kernel_rfl) ⟨sumadd64 N, trivial⟩ [7] (fun K => by kernel_rfl) (h136 N) (by rw [o136_7]; rfl)

noncomputable def X77 (N : Nat) : Fx := ⟨31, tab, [(75, S75 N), (61, S61 N), (136, S136 N)], N, Tryz.f77, [.v LtI3], [.v tWide], [⟨11, [(2, .obj tWide), (3, .own tWide), (12, .v LtI3), (13, .v I), (14, .v I)], [1, 1, 1, 0, 1, 0, 0], []⟩], none⟩
noncomputable abbrev S77 (N : Nat) : Summ := (X77 N).S true (ledger_Total N)
theorem h77_11 (N : Nat) (K ρ) : (X77 N).bd K ρ 11 = ledger_Total.l5b N ((X77 N).kc ρ 11) := by kernel_rfl
theorem o77_11 (N : Nat) (ρ) : (X77 N).kc ((X77 N).sem ρ) 11 = ledger_Total.l5 N N := Fx.okL [] (by kernel_rfl) (fun K ρ => by kernel_rfl) (h77_11 N) ρ (ledger_Total.l5 N) rfl fun n ρ' e d => by rw [e]; rfl
theorem h77 (N : Nat) (K) : (X77 N).top K = ledger_Total.b N ((X77 N).kc K 11) := by kernel_rfl
theorem sum77 (N : Nat) : SumOk Tryz.prog 77 (S77 N) := Fx.ok1 (X77 N) tabok Tryz.func77 (by kernel_rfl) ⟨sum75 N, sum61 N, sum136 N, trivial⟩ [11] (fun K => by kernel_rfl) (h77 N) (by rw [o77_11]; rfl)

noncomputable def X135 (N : Nat) : Fx := ⟨27, tab, [], N, Tryz.f135, [.v tWide, .v tWide], [.v I], [], none⟩
noncomputable abbrev S135 (N : Nat) : Summ := (X135 N).S true (wide_Cmp N)
theorem sum135 (N : Nat) : SumOk Tryz.prog 135 (S135 N) := Fx.ok0 (X135 N) tabok Tryz.func135 (by kernel_rfl) trivial (by kernel_rfl)

noncomputable def X76 (N : Nat) : Fx := ⟨6, tab, [(135, S135 N)], N, Tryz.f76, [.v tWide], [.v I], [], none⟩
noncomputable abbrev S76 (N : Nat) : Summ := (X76 N).S true (wide_Sign N)
theorem sum76 (N : Nat) : SumOk Tryz.prog 76 (S76 N) := Fx.ok0 (X76 N) tabok Tryz.func76 (by kernel_rfl) ⟨sum135 N, trivial⟩ (by kernel_rfl)

noncomputable def X150 (N : Nat) : Fx := ⟨19, tab, [], N, Tryz.f150, [.v I, .v I], [.v B], [], none⟩
noncomputable abbrev S150 (N : Nat) : Summ := (X150 N).S true (stock_key N)
theorem sum150 (N : Nat) : SumOk Tryz.prog 150 (S150 N) := Fx.ok0 (X150 N) tabok Tryz.func150 (by kernel_rfl) trivial (by kernel_rfl)

noncomputable def X173 (N : Nat) : Fx := ⟨5, tab, [], N, Tryz.f173, [.v I], [.v B], [], none⟩
noncomputable abbrev S173 (N : Nat) : Summ := (X173 N).S true (stock_Quantity N)
theorem sum173 (N : Nat) : SumOk Tryz.prog 173 (S173 N) := Fx.ok0 (X173 N) tabok Tryz.func173 (by kernel_rfl) trivial (by kernel_rfl)

noncomputable def X183 (N : Nat) : Fx := ⟨19, tab, [], N, Tryz.f183, [.v I, .v I, .v tI3], [.v I], [], none⟩
noncomputable abbrev S183 (N : Nat) : Summ := (X183 N).S true (stock_order N)
theorem sum183 (N : Nat) : SumOk Tryz.prog 183 (S183 N) := Fx.ok0 (X183 N) tabok Tryz.func183 (by kernel_rfl) trivial (by kernel_rfl)

noncomputable def X138 (N : Nat) : Fx := ⟨47, tab, [(150, S150 N), (173, S173 N), (183, S183 N)], N, Tryz.f138, [.v LtI3], [.v B], [⟨5, [(0, .v LtI3), (5, .v LtI3), (6, .v I), (7, .v I)], [1, 0, 1, 0, 0], []⟩], none⟩
noncomputable abbrev S138 (N : Nat) : Summ := (X138 N).S true (stock_Right N)
theorem h138_5 (N : Nat) (K ρ) : (X138 N).bd K ρ 5 = stock_Right.l2b N ((X138 N).kc ρ 5) := by kernel_rfl
theorem o138_5 (N : Nat) (ρ) : (X138 N).kc ((X138 N).sem ρ) 5 = stock_Right.l2 N N := Fx.okL [] (by kernel_rfl) (fun K ρ => by kernel_rfl) (h138_5 N) ρ (stock_Right.l2 N) rfl fun n ρ' e d => by rw [e]; rfl
theorem h138 (N : Nat) (K) : (X138 N).top K = stock_Right.b N ((X138 N).kc K 5) := by kernel_rfl
theorem sum138 (N : Nat) : SumOk Tryz.prog 138 (S138 N) := Fx.ok1 (X138 N) tabok Tryz.func138 (by kernel_rfl) ⟨sum150 N, sum173 N, sum183 N, trivial⟩ [5] (fun K => by kernel_rfl) (h138 N) (by rw [o138_5]; rfl)

noncomputable def X137 (N : Nat) : Fx := ⟨37, tab, [(138, S138 N), (61, S61 N), (136, S136 N)], N, Tryz.f137, [.v LtI3, .v I], [.v tWide], [⟨11, [(1, .v I), (4, .obj tWide), (5, .own tWide), (14, .v LtI3), (15, .v I), (16, .v I)], [1, 1, 1, 0, 1, 0, 0], []⟩], none⟩
noncomputable abbrev S137 (N : Nat) : Summ := (X137 N).S true (stock_Sum N)
theorem h137_11 (N : Nat) (K ρ) : (X137 N).bd K ρ 11 = stock_Sum.l5b N ((X137 N).kc ρ 11) := by kernel_rfl
theorem o137_11 (N : Nat) (ρ) : (X137 N).kc ((X137 N).sem ρ) 11 = stock_Sum.l5 N N := Fx.okL [] (by kernel_rfl) (fun K ρ => by kernel_rfl) (h137_11 N) ρ (stock_Sum.l5 N) rfl fun n ρ' e d => by rw [e]; rfl
theorem h137 (N : Nat) (K) : (X137 N).top K = stock_Sum.b N ((X137 N).kc K 11) := by kernel_rfl
theorem sum137 (N : Nat) : SumOk Tryz.prog 137 (S137 N) := Fx.ok1 (X137 N) tabok Tryz.func137 (by kernel_rfl) ⟨sum138 N, sum61 N, sum136 N, trivial⟩ [11] (fun K => by kernel_rfl) (h137 N) (by rw [o137_11]; rfl)

noncomputable def X78 (N : Nat) : Fx := ⟨15, tab, [(137, S137 N), (76, S76 N), (138, S138 N)], N, Tryz.f78, [.v LtI3], [.v B], [⟨5, [(0, .v LtI3), (4, .v I)], [1, 0, 1, 0, 0], []⟩], none⟩
noncomputable abbrev S78 (N : Nat) : Summ := (X78 N).S true (stock_Flat N)
theorem h78_5 (N : Nat) (K ρ) : (X78 N).bd K ρ 5 = stock_Flat.l2b N ((X78 N).kc ρ 5) := by kernel_rfl
theorem o78_5 (N : Nat) (ρ) : (X78 N).kc ((X78 N).sem ρ) 5 = stock_Flat.l2 N N := Fx.okL [] (by kernel_rfl) (fun K ρ => by kernel_rfl) (h78_5 N) ρ (stock_Flat.l2 N) rfl fun n ρ' e d => by rw [e]; rfl
theorem h78 (N : Nat) (K) : (X78 N).top K = stock_Flat.b N ((X78 N).kc K 5) := by kernel_rfl
theorem sum78 (N : Nat) : SumOk Tryz.prog 78 (S78 N) := Fx.ok1 (X78 N) tabok Tryz.func78 (by kernel_rfl) ⟨sum137 N, sum76 N, sum138 N, trivial⟩ [5] (fun K => by kernel_rfl) (h78 N) (by rw [o78_5]; rfl)

noncomputable def X139 (N : Nat) : Fx := ⟨61, tab, [], N, Tryz.f139, [.v tI6], [.v B], [], none⟩
noncomputable abbrev S139 (N : Nat) : Summ := (X139 N).S true (queue_Order N)
theorem sum139 (N : Nat) : SumOk Tryz.prog 139 (S139 N) := Fx.ok0 (X139 N) tabok Tryz.func139 (by kernel_rfl) trivial (by kernel_rfl)

noncomputable def X79 (N : Nat) : Fx := ⟨34, tab, [(139, S139 N)], N, Tryz.f79, [.v LtI6], [.v B], [⟨5, [(0, .v LtI6), (5, .v LtI6), (6, .v I), (7, .v I)], [1, 0, 1, 0, 0], []⟩], none⟩
noncomputable abbrev S79 (N : Nat) : Summ := (X79 N).S true (queue_Right N)
theorem h79_5 (N : Nat) (K ρ) : (X79 N).bd K ρ 5 = queue_Right.l2b N ((X79 N).kc ρ 5) := by kernel_rfl
theorem o79_5 (N : Nat) (ρ) : (X79 N).kc ((X79 N).sem ρ) 5 = queue_Right.l2 N N := Fx.okL [] (by kernel_rfl) (fun K ρ => by kernel_rfl) (h79_5 N) ρ (queue_Right.l2 N) rfl fun n ρ' e d => by rw [e]; rfl
theorem h79 (N : Nat) (K) : (X79 N).top K = queue_Right.b N ((X79 N).kc K 5) := by kernel_rfl
theorem sum79 (N : Nat) : SumOk Tryz.prog 79 (S79 N) := Fx.ok1 (X79 N) tabok Tryz.func79 (by kernel_rfl) ⟨sum139 N, trivial⟩ [5] (fun K => by kernel_rfl) (h79 N) (by rw [o79_5]; rfl)

noncomputable def X140 (N : Nat) : Fx := ⟨25, tab, [(125, S125 N)], N, Tryz.f140, [.v LtI4, .v I], [.v tI4, .v B], [⟨9, [(1, .v I), (4, .obj tI4), (12, .v LtI4), (13, .v I), (14, .v I)], [1, 1, 0, 1, 0, 0], []⟩], none⟩
noncomputable abbrev S140 (N : Nat) : Summ := (X140 N).S true (roll_Find N)
theorem h140_9 (N : Nat) (K ρ) : (X140 N).bd K ρ 9 = roll_Find.l4b N ((X140 N).kc ρ 9) := by kernel_rfl
theorem o140_9 (N : Nat) (ρ) : (X140 N).kc ((X140 N).sem ρ) 9 = roll_Find.l4 N N := Fx.okL [] (by kernel_rfl) (fun K ρ => by kernel_rfl) (h140_9 N) ρ (roll_Find.l4 N) rfl fun n ρ' e d => by rw [e]; rfl
theorem h140 (N : Nat) (K) : (X140 N).top K = roll_Find.b N ((X140 N).kc K 9) := by kernel_rfl
theorem sum140 (N : Nat) : SumOk Tryz.prog 140 (S140 N) := Fx.ok1 (X140 N) tabok Tryz.func140 (by kernel_rfl) ⟨sum125 N, trivial⟩ [9] (fun K => by kernel_rfl) (h140 N) (by rw [o140_9]; rfl)

noncomputable def X80 (N : Nat) : Fx := ⟨15, tab, [(140, S140 N)], N, Tryz.f80, [.v tBook, .v I], [.v B], [], none⟩
noncomputable abbrev S80 (N : Nat) : Summ := (X80 N).S true (book_Acc N)
theorem sum80 (N : Nat) : SumOk Tryz.prog 80 (S80 N) := Fx.ok0 (X80 N) tabok Tryz.func80 (by kernel_rfl) ⟨sum140 N, trivial⟩ (by kernel_rfl)

noncomputable def X83 (N : Nat) : Fx := ⟨9, tab, [], N, Tryz.f83, [.v I], [.v B], [], none⟩
noncomputable abbrev S83 (N : Nat) : Summ := (X83 N).S true (mark_Price N)
theorem sum83 (N : Nat) : SumOk Tryz.prog 83 (S83 N) := Fx.ok0 (X83 N) tabok Tryz.func83 (by kernel_rfl) trivial (by kernel_rfl)

noncomputable def X82 (N : Nat) : Fx := ⟨6, tab, [(83, S83 N)], N, Tryz.f82, [.v I], [.v B], [], none⟩
noncomputable abbrev S82 (N : Nat) : Summ := (X82 N).S true (book_Right_1 N)
theorem sum82 (N : Nat) : SumOk Tryz.prog 82 (S82 N) := Fx.ok0 (X82 N) tabok Tryz.func82 (by kernel_rfl) ⟨sum83 N, trivial⟩ (by kernel_rfl)

noncomputable def X141 (N : Nat) : Fx := ⟨19, tab, [(82, S82 N)], N, Tryz.f141, [.v LI, .fn 82 .unit], [.v I], [⟨5, [(0, .v LI), (1, .fn 82 .unit), (7, .v I), (8, .v I)], [1, 0, 1, 0, 0], []⟩], none⟩
noncomputable abbrev S141 (N : Nat) : Summ := (X141 N).S true (slices_IndexFunc_int64__book_Right_1 N)
theorem h141_5 (N : Nat) (K ρ) : (X141 N).bd K ρ 5 = slices_IndexFunc_int64__book_Right_1.l2b N ((X141 N).kc ρ 5) := by kernel_rfl
theorem o141_5 (N : Nat) (ρ) : (X141 N).kc ((X141 N).sem ρ) 5 = slices_IndexFunc_int64__book_Right_1.l2 N N := Fx.okL [] (by kernel_rfl) (fun K ρ => by kernel_rfl) (h141_5 N) ρ (slices_IndexFunc_int64__book_Right_1.l2 N) rfl fun n ρ' e d => by rw [e]; rfl
theorem h141 (N : Nat) (K) : (X141 N).top K = slices_IndexFunc_int64__book_Right_1.b N ((X141 N).kc K 5) := by kernel_rfl
theorem sum141 (N : Nat) : SumOk Tryz.prog 141 (S141 N) := Fx.ok1 (X141 N) tabok Tryz.func141 (by kernel_rfl) ⟨sum82 N, trivial⟩ [5] (fun K => by kernel_rfl) (h141 N) (by rw [o141_5]; rfl)

noncomputable def X81 (N : Nat) : Fx := ⟨9, tab, [(141, S141 N)], N, Tryz.f81, [.v LI, .fn 82 .unit], [.v B], [], none⟩
noncomputable abbrev S81 (N : Nat) : Summ := (X81 N).S true (slices_ContainsFunc_int64__book_Right_1 N)
theorem sum81 (N : Nat) : SumOk Tryz.prog 81 (S81 N) := Fx.ok0 (X81 N) tabok Tryz.func81 (by kernel_rfl) ⟨sum141 N, trivial⟩ (by kernel_rfl)

noncomputable def X28 (N : Nat) : Fx := ⟨133, tab, [(73, S73 N), (74, S74 N), (75, S75 N), (77, S77 N), (76, S76 N), (78, S78 N), (79, S79 N), (80, S80 N), (60, S60 N), (81, S81 N)], N, Tryz.f28, [.v tConfig, .v tBook], [.v B], [⟨45, [(2, .obj tConfig), (3, .obj tBook), (109, .v LtI6), (110, .v I), (111, .v I)], [1, 1, 1, 1, 0, 1, 0, 0], []⟩, ⟨33, [(2, .obj tConfig), (3, .obj tBook), (83, .v LtI3), (84, .v I), (85, .v I)], [1, 1, 1, 0, 1, 0, 0], []⟩, ⟨9, [(2, .obj tConfig), (3, .obj tBook), (57, .v LtI3), (58, .v I), (59, .v I)], [1, 1, 0, 1, 0, 0], []⟩], none⟩
noncomputable abbrev S28 (N : Nat) : Summ := (X28 N).S true (book_Right N)
theorem h28_45 (N : Nat) (K ρ) : (X28 N).bd K ρ 45 = book_Right.l22b N ((X28 N).kc ρ 45) := by kernel_rfl
theorem o28_45 (N : Nat) (ρ) : (X28 N).kc ((X28 N).sem ρ) 45 = book_Right.l22 N N := Fx.okL [] (by kernel_rfl) (fun K ρ => by kernel_rfl) (h28_45 N) ρ (book_Right.l22 N) rfl fun n ρ' e d => by rw [e]; rfl
theorem h28_33 (N : Nat) (K ρ) : (X28 N).bd K ρ 33 = book_Right.l16b N ((X28 N).kc K 45) ((X28 N).kc ρ 33) := by kernel_rfl
theorem o28_33 (N : Nat) (ρ) : (X28 N).kc ((X28 N).sem ρ) 33 = book_Right.l16 N N := Fx.okL [45] (by kernel_rfl) (fun K ρ => by kernel_rfl) (h28_33 N) ρ (book_Right.l16 N) rfl fun n ρ' e d => by rw [o28_45, e]; rfl
theorem h28_9 (N : Nat) (K ρ) : (X28 N).bd K ρ 9 = book_Right.l4b N ((X28 N).kc K 33) ((X28 N).kc ρ 9) := by kernel_rfl
theorem o28_9 (N : Nat) (ρ) : (X28 N).kc ((X28 N).sem ρ) 9 = book_Right.l4 N N := Fx.okL [33, 45] (by kernel_rfl) (fun K ρ => by kernel_rfl) (h28_9 N) ρ (book_Right.l4 N) rfl fun n ρ' e d => by rw [o28_33, e]; rfl
theorem h28 (N : Nat) (K) : (X28 N).top K = book_Right.b N ((X28 N).kc K 9) := by kernel_rfl
theorem sum28 (N : Nat) : SumOk Tryz.prog 28 (S28 N) := Fx.ok1 (X28 N) tabok Tryz.func28 (by kernel_rfl) ⟨sum73 N, sum74 N, sum75 N, sum77 N, sum76 N, sum78 N, sum79 N, sum80 N, sum60 N, sum81 N, trivial⟩ [9, 33, 45] (fun K => by kernel_rfl) (h28 N) (by rw [o28_9]; rfl)

noncomputable def X91 (N : Nat) : Fx := ⟨31, tab, [(75, S75 N)], N, Tryz.f91, [.v LtI3, .v I, .v I], [.v I], [⟨9, [(1, .v I), (2, .v I), (12, .v LtI3), (13, .v I), (14, .v I)], [1, 1, 0, 1, 0, 0], []⟩], none⟩
noncomputable abbrev S91 (N : Nat) : Summ := (X91 N).S true (ledger_Get N)
theorem h91_9 (N : Nat) (K ρ) : (X91 N).bd K ρ 9 = ledger_Get.l4b N ((X91 N).kc ρ 9) := by kernel_rfl
theorem o91_9 (N : Nat) (ρ) : (X91 N).kc ((X91 N).sem ρ) 9 = ledger_Get.l4 N N := Fx.okL [] (by kernel_rfl) (fun K ρ => by kernel_rfl) (h91_9 N) ρ (ledger_Get.l4 N) rfl fun n ρ' e d => by rw [e]; rfl
theorem h91 (N : Nat) (K) : (X91 N).top K = ledger_Get.b N ((X91 N).kc K 9) := by kernel_rfl
theorem sum91 (N : Nat) : SumOk Tryz.prog 91 (S91 N) := Fx.ok1 (X91 N) tabok Tryz.func91 (by kernel_rfl) ⟨sum75 N, trivial⟩ [9] (fun K => by kernel_rfl) (h91 N) (by rw [o91_9]; rfl)

noncomputable def X97 (N : Nat) : Fx := ⟨31, tab, [(138, S138 N)], N, Tryz.f97, [.v LtI3, .v I], [.own tI2], [⟨11, [(1, .v I), (5, .own tI2), (11, .v LtI3), (12, .v I), (13, .v I)], [1, 1, 1, 0, 1, 0, 0], []⟩], none⟩
noncomputable abbrev S97 (N : Nat) : Summ := (X97 N).S false (stock_Of N)
theorem h97_11 (N : Nat) (K ρ) : (X97 N).bd K ρ 11 = stock_Of.l5b N ((X97 N).kc ρ 11) := by kernel_rfl
theorem o97_11 (N : Nat) (ρ) : (X97 N).kc ((X97 N).sem ρ) 11 = stock_Of.l5 N N := Fx.okL [] (by kernel_rfl) (fun K ρ => by kernel_rfl) (h97_11 N) ρ (stock_Of.l5 N) rfl fun n ρ' e d => by rw [e]; rfl
theorem h97 (N : Nat) (K) : (X97 N).top K = stock_Of.b N ((X97 N).kc K 11) := by kernel_rfl
theorem sum97 (N : Nat) : SumOk Tryz.prog 97 (S97 N) := Fx.ok1 (X97 N) tabok Tryz.func97 (by kernel_rfl) ⟨sum138 N, trivial⟩ [11] (fun K => by kernel_rfl) (h97 N) (by rw [o97_11]; rfl)

noncomputable def X120 (N : Nat) : Fx := ⟨54, tab, [(173, S173 N), (73, S73 N)], N, Tryz.f120, [.v tConfig, .v LtI2], [.v B], [⟨5, [(1, .v LtI2), (2, .obj tConfig), (7, .v LtI2), (8, .v I), (9, .v I)], [1, 0, 1, 0, 0], []⟩], none⟩
noncomputable abbrev S120 (N : Nat) : Summ := (X120 N).S true (need_Legs N)
theorem h120_5 (N : Nat) (K ρ) : (X120 N).bd K ρ 5 = need_Legs.l2b N ((X120 N).kc ρ 5) := by kernel_rfl
theorem o120_5 (N : Nat) (ρ) : (X120 N).kc ((X120 N).sem ρ) 5 = need_Legs.l2 N N := Fx.okL [] (by kernel_rfl) (fun K ρ => by kernel_rfl) (h120_5 N) ρ (need_Legs.l2 N) rfl fun n ρ' e d => by rw [e]; rfl
theorem h120 (N : Nat) (K) : (X120 N).top K = need_Legs.b N ((X120 N).kc K 5) := by kernel_rfl
theorem sum120 (N : Nat) : SumOk Tryz.prog 120 (S120 N) := Fx.ok1 (X120 N) tabok Tryz.func120 (by kernel_rfl) ⟨sum173 N, sum73 N, trivial⟩ [5] (fun K => by kernel_rfl) (h120 N) (by rw [o120_5]; rfl)

noncomputable def X154 (N : Nat) : Fx := ⟨10, tab, [], N, Tryz.f154, [.v I], [.v U], [], none⟩
noncomputable abbrev S154 (N : Nat) : Summ := (X154 N).S true (amount_Size N)
theorem sum154 (N : Nat) : SumOk Tryz.prog 154 (S154 N) := Fx.ok0 (X154 N) tabok Tryz.func154 (by kernel_rfl) trivial (by kernel_rfl)

noncomputable def X152 (N : Nat) : Fx := ⟨5, tab, [], N, Tryz.f152, [.v tI4], [.v I], [], none⟩
noncomputable abbrev S152 (N : Nat) : Summ := (X152 N).S true (need_Slip_1 N)
theorem sum152 (N : Nat) : SumOk Tryz.prog 152 (S152 N) := Fx.ok0 (X152 N) tabok Tryz.func152 (by kernel_rfl) trivial (by kernel_rfl)

noncomputable def X233 (N : Nat) : Fx := ⟨51, tab, [], N, Tryz.f233, [.v U, .v U], [.v U, .v U], [], none⟩
noncomputable abbrev S233 (N : Nat) : Summ := (X233 N).S true (bits_Mul64 N)
theorem sum233 (N : Nat) : SumOk Tryz.prog 233 (S233 N) := Fx.ok0 (X233 N) tabok Tryz.func233 (by kernel_rfl) trivial (by kernel_rfl)

noncomputable def X234 (N : Nat) : Fx := ⟨47, tab, [(194, Ssub64 N)], N, Tryz.f234, [.v B, .v U, .v U], [.v tWide, .v B], [⟨14, [(1, .v U), (2, .v U), (6, .obj tWide)], [1, 1, 1], []⟩], none⟩
noncomputable abbrev S234 (N : Nat) : Summ := (X234 N).S true (wide_signed N)
theorem h234_14 (N : Nat) (K ρ) : (X234 N).bd K ρ 14 = wide_signed.j7b N := by kernel_rfl
theorem o234_14 (N : Nat) (ρ) : (X234 N).kc ((X234 N).sem ρ) 14 = wide_signed.j7 N := (Fx.okJ [] (by kernel_rfl) (fun K ρ => by kernel_rfl) (h234_14 N) ρ).trans rfl
theorem h234 (N : Nat) (K) : (X234 N).top K = wide_signed.b N ((X234 N).kc K 14) := by kernel_rfl
theorem sum234 (N : Nat) : SumOk Tryz.prog 234 (S234 N) := Fx.ok1 (X234 N) tabok Tryz.func234 (by kernel_rfl) ⟨sumsub64 N, trivial⟩ [14] (fun K => by kernel_rfl) (h234 N) (by rw [o234_14]; rfl)

noncomputable def X195 (N : Nat) : Fx := ⟨29, tab, [(154, S154 N), (233, S233 N), (234, S234 N)], N, Tryz.f195, [.v I, .v I], [.v tWide], [], none⟩
noncomputable abbrev S195 (N : Nat) : Summ := (X195 N).S true (wide_Mul N)
theorem sum195 (N : Nat) : SumOk Tryz.prog 195 (S195 N) := Fx.ok0 (X195 N) tabok Tryz.func195 (by kernel_rfl) ⟨sum154 N, sum233 N, sum234 N, trivial⟩ (by kernel_rfl)

noncomputable def X151 (N : Nat) : Fx := ⟨47, tab, [(120, S120 N), (154, S154 N), (152, S152 N), (195, S195 N), (136, S136 N)], N, Tryz.f151, [.v tConfig, .v LtI2, .fn 152 .unit], [.v tWide, .v I], [⟨11, [(2, .fn 152 .unit), (3, .obj tConfig), (6, .obj tWide), (8, .own tWide), (18, .v LtI2), (19, .v I), (20, .v I)], [1, 1, 1, 0, 1, 0, 0], []⟩], none⟩
noncomputable abbrev S151 (N : Nat) : Summ := (X151 N).S true (need_by__need_Slip_1 N)
theorem h151_11 (N : Nat) (K ρ) : (X151 N).bd K ρ 11 = need_by__need_Slip_1.l5b N ((X151 N).kc ρ 11) := by kernel_rfl
theorem o151_11 (N : Nat) (ρ) : (X151 N).kc ((X151 N).sem ρ) 11 = need_by__need_Slip_1.l5 N N := Fx.okL [] (by kernel_rfl) (fun K ρ => by kernel_rfl) (h151_11 N) ρ (need_by__need_Slip_1.l5 N) rfl fun n ρ' e d => by rw [e]; rfl
theorem h151 (N : Nat) (K) : (X151 N).top K = need_by__need_Slip_1.b N ((X151 N).kc K 11) := by kernel_rfl
theorem sum151 (N : Nat) : SumOk Tryz.prog 151 (S151 N) := Fx.ok1 (X151 N) tabok Tryz.func151 (by kernel_rfl) ⟨sum120 N, sum154 N, sum152 N, sum195 N, sum136 N, trivial⟩ [11] (fun K => by kernel_rfl) (h151 N) (by rw [o151_11]; rfl)

noncomputable def X96 (N : Nat) : Fx := ⟨11, tab, [(151, S151 N)], N, Tryz.f96, [.v tConfig, .v LtI2], [.v tWide, .v I], [], none⟩
noncomputable abbrev S96 (N : Nat) : Summ := (X96 N).S true (need_Slip N)
theorem sum96 (N : Nat) : SumOk Tryz.prog 96 (S96 N) := Fx.ok0 (X96 N) tabok Tryz.func96 (by kernel_rfl) ⟨sum151 N, trivial⟩ (by kernel_rfl)

noncomputable def X98 (N : Nat) : Fx := ⟨10, tab, [(61, S61 N), (135, S135 N)], N, Tryz.f98, [.v I, .v tWide], [.v B], [], none⟩
noncomputable abbrev S98 (N : Nat) : Summ := (X98 N).S true (need_Covers N)
theorem sum98 (N : Nat) : SumOk Tryz.prog 98 (S98 N) := Fx.ok0 (X98 N) tabok Tryz.func98 (by kernel_rfl) ⟨sum61 N, sum135 N, trivial⟩ (by kernel_rfl)

noncomputable def X99 (N : Nat) : Fx := ⟨14, tab, [], N, Tryz.f99, [.v tWide], [.v I, .v B], [], none⟩
noncomputable abbrev S99 (N : Nat) : Summ := (X99 N).S true (wide_Int N)
theorem sum99 (N : Nat) : SumOk Tryz.prog 99 (S99 N) := Fx.ok0 (X99 N) tabok Tryz.func99 (by kernel_rfl) trivial (by kernel_rfl)

noncomputable def X38 (N : Nat) : Fx := ⟨44, tab, [(28, S28 N), (80, S80 N), (91, S91 N), (97, S97 N), (96, S96 N), (98, S98 N), (99, S99 N)], N, Tryz.f38, [.v tConfig, .v tBook, .v I], [.v I, .v I], [], none⟩
noncomputable abbrev S38 (N : Nat) : Summ := (X38 N).S true (wind_Charge N)
theorem sum38 (N : Nat) : SumOk Tryz.prog 38 (S38 N) := Fx.ok0 (X38 N) tabok Tryz.func38 (by kernel_rfl) ⟨sum28 N, sum80 N, sum91 N, sum97 N, sum96 N, sum98 N, sum99 N, trivial⟩ (by kernel_rfl)

noncomputable def X149 (N : Nat) : Fx := ⟨52, tab, [(194, Ssub64 N)], N, Tryz.f149, [.v tWide, .v tWide], [.v tWide, .v B], [], none⟩
noncomputable abbrev S149 (N : Nat) : Summ := (X149 N).S true (wide_Sub N)
theorem sum149 (N : Nat) : SumOk Tryz.prog 149 (S149 N) := Fx.ok0 (X149 N) tabok Tryz.func149 (by kernel_rfl) ⟨sumsub64 N, trivial⟩ (by kernel_rfl)

noncomputable def X92 (N : Nat) : Fx := ⟨9, tab, [(149, S149 N)], N, Tryz.f92, [.v tWide], [.v tWide, .v B], [], none⟩
noncomputable abbrev S92 (N : Nat) : Summ := (X92 N).S true (wide_Neg N)
theorem sum92 (N : Nat) : SumOk Tryz.prog 92 (S92 N) := Fx.ok0 (X92 N) tabok Tryz.func92 (by kernel_rfl) ⟨sum149 N, trivial⟩ (by kernel_rfl)

noncomputable def X93 (N : Nat) : Fx := ⟨54, tab, [(138, S138 N), (150, S150 N), (97, S97 N)], N, Tryz.f93, [.v LtI3, .v I, .v I], [.own tI3], [⟨11, [(1, .v I), (2, .v I), (7, .own tI3), (30, .own tI2), (31, .v I), (32, .v I)], [1, 1, 1, 0, 1, 0, 0], []⟩], none⟩
noncomputable abbrev S93 (N : Nat) : Summ := (X93 N).S false (stock_All N)
theorem h93_11 (N : Nat) (K ρ) : (X93 N).bd K ρ 11 = stock_All.l5b N ((X93 N).kc ρ 11) := by kernel_rfl
theorem o93_11 (N : Nat) (ρ) : (X93 N).kc ((X93 N).sem ρ) 11 = stock_All.l5 N N := Fx.okL [] (by kernel_rfl) (fun K ρ => by kernel_rfl) (h93_11 N) ρ (stock_All.l5 N) rfl fun n ρ' e d => by rw [e]; rfl
theorem h93 (N : Nat) (K) : (X93 N).top K = stock_All.b N ((X93 N).kc K 11) := by kernel_rfl
theorem sum93 (N : Nat) : SumOk Tryz.prog 93 (S93 N) := Fx.ok1 (X93 N) tabok Tryz.func93 (by kernel_rfl) ⟨sum138 N, sum150 N, sum97 N, trivial⟩ [11] (fun K => by kernel_rfl) (h93 N) (by rw [o93_11]; rfl)

noncomputable def X127 (N : Nat) : Fx := ⟨22, tab, [(176, Sclo_176 N), (177, Sclo_177 N), (178, Sclo_178 N), (179, Sclo_179 N), (180, Sclo_180 N), (181, Sclo_181 N)], N, Tryz.f127, [.v tBook], [.v tBook], [], none⟩
noncomputable abbrev S127 (N : Nat) : Summ := (X127 N).S false (book_Copy N)
theorem sum127 (N : Nat) : SumOk Tryz.prog 127 (S127 N) := Fx.ok0 (X127 N) tabok Tryz.func127 (by kernel_rfl) ⟨sumclo_176 N, sumclo_177 N, sumclo_178 N, sumclo_179 N, sumclo_180 N, sumclo_181 N, trivial⟩ (by kernel_rfl)

noncomputable def X182 (N : Nat) : Fx := ⟨42, tab, [(61, S61 N), (136, S136 N), (76, S76 N)], N, Tryz.f182, [.v LtI3], [.v B], [⟨13, [(0, .v LtI3), (3, .v I), (4, .own tWide), (9, .v I), (12, .v LtI3), (13, .v I), (14, .v I)], [1, 0, 1, 0, 0, 1, 1, 0, 0, 1, 1, 0, 1, 0, 0], [5]⟩, ⟨5, [(0, .v LtI3), (9, .v I)], [1, 0, 1, 0, 0], []⟩], none⟩
noncomputable abbrev S182 (N : Nat) : Summ := (X182 N).S true (stock_flat N)
theorem h182_13 (N : Nat) (K ρ) : (X182 N).bd K ρ 13 = stock_flat.l6b N ((X182 N).kc ρ 5) ((X182 N).kc ρ 13) := by kernel_rfl
theorem o182_13 (N : Nat) (ρ) : (X182 N).kc ((X182 N).sem ρ) 13 = stock_flat.l6 N ((X182 N).kc ρ 5) N := Fx.okL [] (by kernel_rfl) (fun K ρ => by kernel_rfl) (h182_13 N) ρ (stock_flat.l6 N ((X182 N).kc ρ 5)) rfl fun n ρ' e d => by rw [e, d 5 rfl]; rfl
theorem h182_5 (N : Nat) (K ρ) : (X182 N).bd K ρ 5 = stock_flat.l2b N ((X182 N).kc K 13) ((X182 N).kc ρ 5) := by kernel_rfl
theorem o182_5 (N : Nat) (ρ) : (X182 N).kc ((X182 N).sem ρ) 5 = stock_flat.l2 N N := Fx.okL [13] (by kernel_rfl) (fun K ρ => by kernel_rfl) (h182_5 N) ρ (stock_flat.l2 N) rfl fun n ρ' e d => by rw [o182_13, e]; rfl
theorem h182 (N : Nat) (K) : (X182 N).top K = stock_flat.b N ((X182 N).kc K 5) := by kernel_rfl
theorem sum182 (N : Nat) : SumOk Tryz.prog 182 (S182 N) := Fx.ok1 (X182 N) tabok Tryz.func182 (by kernel_rfl) ⟨sum61 N, sum136 N, sum76 N, trivial⟩ [5] (fun K => by kernel_rfl) (h182 N) (by rw [o182_5]; rfl)

noncomputable def X185 (N : Nat) : Fx := ⟨9, tab, [], N, Tryz.f185, [.v LtI3], [.v LtI3], [], none⟩
noncomputable abbrev S185 (N : Nat) : Summ := (X185 N).S false (slices_Clip_Pos N)
theorem sum185 (N : Nat) : SumOk Tryz.prog 185 (S185 N) := Fx.ok0 (X185 N) tabok Tryz.func185 (by kernel_rfl) trivial (by kernel_rfl)

noncomputable def X128 (N : Nat) : Fx := ⟨173, tab, [(138, S138 N), (150, S150 N), (173, S173 N), (182, S182 N), (179, Sclo_179 N), (183, S183 N), (184, Sins_184 N), (61, S61 N), (136, S136 N), (99, S99 N), (185, S185 N)], N, Tryz.f128, [.v LtI3, .v LtI3], [.v LtI3, .v I], [⟨36, [(1, .v LtI3), (8, .own tI3), (10, .obj tI3), (11, .v I), (54, .v LtI3), (55, .v I), (56, .v I)], [1, 1, 1, 1, 1, 0, 1, 0, 0, 1, 1, 0, 0, 1, 1, 1], [27]⟩, ⟨33, [(1, .v LtI3), (8, .own tI3), (10, .obj tI3), (11, .v I), (54, .v LtI3), (55, .v I), (56, .v I)], [1, 1, 1, 1, 1, 0, 1, 0, 0, 1, 1, 0, 0, 1, 1, 0, 0, 0], [27]⟩, ⟨55, [(1, .v LtI3), (12, .own tI3), (14, .obj tI3), (15, .own tWide), (107, .own tI3), (108, .v I), (109, .v I), (117, .v LtI3), (118, .v I), (119, .v I)], [1, 1, 1, 1, 1, 1, 1, 0, 1, 0, 0, 1, 1, 0, 0, 1, 1, 0, 1, 0, 0], [47]⟩, ⟨47, [(1, .v LtI3), (12, .own tI3), (107, .own tI3), (108, .v I), (109, .v I)], [1, 1, 1, 1, 1, 1, 1, 0, 1, 0, 0], []⟩, ⟨27, [(1, .v LtI3), (8, .own tI3), (54, .v LtI3), (55, .v I), (56, .v I)], [1, 1, 1, 1, 1, 0, 1, 0, 0], []⟩, ⟨9, [(0, .v LtI3), (1, .v LtI3), (30, .v LtI3), (31, .v I), (32, .v I)], [1, 1, 0, 1, 0, 0], []⟩], none⟩
noncomputable abbrev S128 (N : Nat) : Summ := (X128 N).S false (stock_Post N)
theorem h128_36 (N : Nat) (K ρ) : (X128 N).bd K ρ 36 = stock_Post.j18b N ((X128 N).kc ρ 27) := by kernel_rfl
theorem o128_36 (N : Nat) (ρ) : (X128 N).kc ((X128 N).sem ρ) 36 = stock_Post.j18 N ((X128 N).kc ρ 27) := (Fx.okJ [47] (by kernel_rfl) (fun K ρ => by kernel_rfl) (h128_36 N) ρ).trans rfl
theorem h128_33 (N : Nat) (K ρ) : (X128 N).bd K ρ 33 = stock_Post.l16b N ((X128 N).kc K 36) ((X128 N).kc ρ 27) ((X128 N).kc ρ 33) := by kernel_rfl
theorem o128_33 (N : Nat) (ρ) : (X128 N).kc ((X128 N).sem ρ) 33 = stock_Post.l16 N ((X128 N).kc ρ 27) N := Fx.okL [47, 36] (by kernel_rfl) (fun K ρ => by kernel_rfl) (h128_33 N) ρ (stock_Post.l16 N ((X128 N).kc ρ 27)) rfl fun n ρ' e d => by rw [o128_36, e, d 27 rfl]; rfl
theorem h128_55 (N : Nat) (K ρ) : (X128 N).bd K ρ 55 = stock_Post.l27b N ((X128 N).kc ρ 47) ((X128 N).kc ρ 55) := by kernel_rfl
theorem o128_55 (N : Nat) (ρ) : (X128 N).kc ((X128 N).sem ρ) 55 = stock_Post.l27 N ((X128 N).kc ρ 47) N := Fx.okL [] (by kernel_rfl) (fun K ρ => by kernel_rfl) (h128_55 N) ρ (stock_Post.l27 N ((X128 N).kc ρ 47)) rfl fun n ρ' e d => by rw [e, d 47 rfl]; rfl
theorem h128_47 (N : Nat) (K ρ) : (X128 N).bd K ρ 47 = stock_Post.l23b N ((X128 N).kc K 55) ((X128 N).kc ρ 47) := by kernel_rfl
theorem o128_47 (N : Nat) (ρ) : (X128 N).kc ((X128 N).sem ρ) 47 = stock_Post.l23 N N := Fx.okL [55] (by kernel_rfl) (fun K ρ => by kernel_rfl) (h128_47 N) ρ (stock_Post.l23 N) rfl fun n ρ' e d => by rw [o128_55, e]; rfl
theorem h128_27 (N : Nat) (K ρ) : (X128 N).bd K ρ 27 = stock_Post.l13b N ((X128 N).kc K 33) ((X128 N).kc K 47) ((X128 N).kc ρ 27) := by kernel_rfl
theorem o128_27 (N : Nat) (ρ) : (X128 N).kc ((X128 N).sem ρ) 27 = stock_Post.l13 N N := Fx.okL [47, 33, 36] (by kernel_rfl) (fun K ρ => by kernel_rfl) (h128_27 N) ρ (stock_Post.l13 N) rfl fun n ρ' e d => by rw [o128_33, o128_47, e]; rfl
theorem h128_9 (N : Nat) (K ρ) : (X128 N).bd K ρ 9 = stock_Post.l4b N ((X128 N).kc K 27) ((X128 N).kc ρ 9) := by kernel_rfl
theorem o128_9 (N : Nat) (ρ) : (X128 N).kc ((X128 N).sem ρ) 9 = stock_Post.l4 N N := Fx.okL [27, 47] (by kernel_rfl) (fun K ρ => by kernel_rfl) (h128_9 N) ρ (stock_Post.l4 N) rfl fun n ρ' e d => by rw [o128_27, e]; rfl
theorem h128 (N : Nat) (K) : (X128 N).top K = stock_Post.b N ((X128 N).kc K 9) := by kernel_rfl
theorem sum128 (N : Nat) : SumOk Tryz.prog 128 (S128 N) := Fx.ok1 (X128 N) tabok Tryz.func128 (by kernel_rfl) ⟨sum138 N, sum150 N, sum173 N, sum182 N, sumclo_179 N, sum183 N, sumins_184 N, sum61 N, sum136 N, sum99 N, sum185 N, trivial⟩ [9, 27, 47] (fun K => by kernel_rfl) (h128 N) (by rw [o128_9]; rfl)

noncomputable def X187 (N : Nat) : Fx := ⟨9, tab, [], N, Tryz.f187, [.v LtI3], [.v LtI3], [], none⟩
noncomputable abbrev S187 (N : Nat) : Summ := (X187 N).S false (slices_Clip_Row N)
theorem sum187 (N : Nat) : SumOk Tryz.prog 187 (S187 N) := Fx.ok0 (X187 N) tabok Tryz.func187 (by kernel_rfl) trivial (by kernel_rfl)

noncomputable def X129 (N : Nat) : Fx := ⟨185, tab, [(75, S75 N), (133, S133 N), (136, S136 N), (76, S76 N), (178, Sclo_178 N), (134, S134 N), (186, Sins_186 N), (61, S61 N), (99, S99 N), (187, S187 N)], N, Tryz.f129, [.v LtI3, .v LtEntry], [.v LtI3, .v I], [⟨42, [(1, .v LtEntry), (11, .own tI3), (13, .obj tEntry), (14, .v I), (68, .v LtEntry), (69, .v I), (70, .v I)], [1, 1, 1, 1, 1, 1, 0, 1, 0, 0, 1, 1, 0, 0, 1, 1, 1], [33]⟩, ⟨39, [(1, .v LtEntry), (11, .own tI3), (13, .obj tEntry), (14, .v I), (68, .v LtEntry), (69, .v I), (70, .v I)], [1, 1, 1, 1, 1, 1, 0, 1, 0, 0, 1, 1, 0, 0, 1, 1, 0, 0, 0], [33]⟩, ⟨61, [(1, .v LtEntry), (15, .own tI3), (17, .obj tI3), (18, .own tWide), (121, .own tI3), (122, .v I), (123, .v I), (131, .v LtEntry), (132, .v I), (133, .v I)], [1, 1, 1, 1, 1, 1, 1, 1, 0, 1, 0, 0, 1, 1, 0, 0, 1, 1, 0, 1, 0, 0], [53]⟩, ⟨53, [(1, .v LtEntry), (15, .own tI3), (121, .own tI3), (122, .v I), (123, .v I)], [1, 1, 1, 1, 1, 1, 1, 1, 0, 1, 0, 0], []⟩, ⟨33, [(1, .v LtEntry), (11, .own tI3), (68, .v LtEntry), (69, .v I), (70, .v I)], [1, 1, 1, 1, 1, 1, 0, 1, 0, 0], []⟩, ⟨11, [(0, .v LtI3), (1, .v LtEntry), (6, .own tWide), (36, .v LtEntry), (37, .v I), (38, .v I)], [1, 1, 1, 0, 1, 0, 0], []⟩], none⟩
noncomputable abbrev S129 (N : Nat) : Summ := (X129 N).S false (ledger_Post N)
theorem h129_42 (N : Nat) (K ρ) : (X129 N).bd K ρ 42 = ledger_Post.j21b N ((X129 N).kc ρ 33) := by kernel_rfl
theorem o129_42 (N : Nat) (ρ) : (X129 N).kc ((X129 N).sem ρ) 42 = ledger_Post.j21 N ((X129 N).kc ρ 33) := (Fx.okJ [53] (by kernel_rfl) (fun K ρ => by kernel_rfl) (h129_42 N) ρ).trans rfl
theorem h129_39 (N : Nat) (K ρ) : (X129 N).bd K ρ 39 = ledger_Post.l19b N ((X129 N).kc K 42) ((X129 N).kc ρ 33) ((X129 N).kc ρ 39) := by kernel_rfl
theorem o129_39 (N : Nat) (ρ) : (X129 N).kc ((X129 N).sem ρ) 39 = ledger_Post.l19 N ((X129 N).kc ρ 33) N := Fx.okL [53, 42] (by kernel_rfl) (fun K ρ => by kernel_rfl) (h129_39 N) ρ (ledger_Post.l19 N ((X129 N).kc ρ 33)) rfl fun n ρ' e d => by rw [o129_42, e, d 33 rfl]; rfl
theorem h129_61 (N : Nat) (K ρ) : (X129 N).bd K ρ 61 = ledger_Post.l30b N ((X129 N).kc ρ 53) ((X129 N).kc ρ 61) := by kernel_rfl
theorem o129_61 (N : Nat) (ρ) : (X129 N).kc ((X129 N).sem ρ) 61 = ledger_Post.l30 N ((X129 N).kc ρ 53) N := Fx.okL [] (by kernel_rfl) (fun K ρ => by kernel_rfl) (h129_61 N) ρ (ledger_Post.l30 N ((X129 N).kc ρ 53)) rfl fun n ρ' e d => by rw [e, d 53 rfl]; rfl
theorem h129_53 (N : Nat) (K ρ) : (X129 N).bd K ρ 53 = ledger_Post.l26b N ((X129 N).kc K 61) ((X129 N).kc ρ 53) := by kernel_rfl
theorem o129_53 (N : Nat) (ρ) : (X129 N).kc ((X129 N).sem ρ) 53 = ledger_Post.l26 N N := Fx.okL [61] (by kernel_rfl) (fun K ρ => by kernel_rfl) (h129_53 N) ρ (ledger_Post.l26 N) rfl fun n ρ' e d => by rw [o129_61, e]; rfl
theorem h129_33 (N : Nat) (K ρ) : (X129 N).bd K ρ 33 = ledger_Post.l16b N ((X129 N).kc K 39) ((X129 N).kc K 53) ((X129 N).kc ρ 33) := by kernel_rfl
theorem o129_33 (N : Nat) (ρ) : (X129 N).kc ((X129 N).sem ρ) 33 = ledger_Post.l16 N N := Fx.okL [53, 39, 42] (by kernel_rfl) (fun K ρ => by kernel_rfl) (h129_33 N) ρ (ledger_Post.l16 N) rfl fun n ρ' e d => by rw [o129_39, o129_53, e]; rfl
theorem h129_11 (N : Nat) (K ρ) : (X129 N).bd K ρ 11 = ledger_Post.l5b N ((X129 N).kc K 33) ((X129 N).kc ρ 11) := by kernel_rfl
theorem o129_11 (N : Nat) (ρ) : (X129 N).kc ((X129 N).sem ρ) 11 = ledger_Post.l5 N N := Fx.okL [33, 53] (by kernel_rfl) (fun K ρ => by kernel_rfl) (h129_11 N) ρ (ledger_Post.l5 N) rfl fun n ρ' e d => by rw [o129_33, e]; rfl
theorem h129 (N : Nat) (K) : (X129 N).top K = ledger_Post.b N ((X129 N).kc K 11) := by kernel_rfl
theorem sum129 (N : Nat) : SumOk Tryz.prog 129 (S129 N) := Fx.ok1 (X129 N) tabok Tryz.func129 (by kernel_rfl) ⟨sum75 N, sum133 N, sum136 N, sum76 N, sumclo_178 N, sum134 N, sumins_186 N, sum61 N, sum99 N, sum187 N, trivial⟩ [11, 33, 53] (fun K => by kernel_rfl) (h129 N) (by rw [o129_11]; rfl)

noncomputable def X62 (N : Nat) : Fx := ⟨37, tab, [(127, S127 N), (128, S128 N), (129, S129 N)], N, Tryz.f62, [.v tBook, .v LtI3, .v LtEntry], [.v tBook, .v I], [], none⟩
noncomputable abbrev S62 (N : Nat) : Summ := (X62 N).S false (book_Moved N)
theorem sum62 (N : Nat) : SumOk Tryz.prog 62 (S62 N) := Fx.ok0 (X62 N) tabok Tryz.func62 (by kernel_rfl) ⟨sum127 N, sum128 N, sum129 N, trivial⟩ (by kernel_rfl)

noncomputable def X34 (N : Nat) : Fx := ⟨89, tab, [(28, S28 N), (60, S60 N), (38, S38 N), (91, S91 N), (61, S61 N), (92, S92 N), (93, S93 N), (62, S62 N)], N, Tryz.f34, [.v tConfig, .v tBook, .v I], [.v tBook, .v I], [⟨28, [(2, .v I), (3, .obj tConfig), (4, .obj tBook), (6, .obj tBook), (8, .own tI3), (9, .own tEntry), (11, .obj tI4), (12, .v I), (30, .v LtI4), (31, .v I), (32, .v I)], [1, 1, 1, 1, 0, 1, 0, 0, 1, 1, 0, 0, 1, 1, 1, 1], [17]⟩, ⟨17, [(2, .v I), (3, .obj tConfig), (4, .obj tBook), (6, .obj tBook), (8, .own tI3), (9, .own tEntry), (30, .v LtI4), (31, .v I), (32, .v I)], [1, 1, 1, 1, 0, 1, 0, 0], []⟩], none⟩
noncomputable abbrev S34 (N : Nat) : Summ := (X34 N).S false (wind_Wind N)
theorem h34_28 (N : Nat) (K ρ) : (X34 N).bd K ρ 28 = wind_Wind.j14b N ((X34 N).kc ρ 17) := by kernel_rfl
theorem o34_28 (N : Nat) (ρ) : (X34 N).kc ((X34 N).sem ρ) 28 = wind_Wind.j14 N ((X34 N).kc ρ 17) := (Fx.okJ [] (by kernel_rfl) (fun K ρ => by kernel_rfl) (h34_28 N) ρ).trans rfl
theorem h34_17 (N : Nat) (K ρ) : (X34 N).bd K ρ 17 = wind_Wind.l8b N ((X34 N).kc K 28) ((X34 N).kc ρ 17) := by kernel_rfl
theorem o34_17 (N : Nat) (ρ) : (X34 N).kc ((X34 N).sem ρ) 17 = wind_Wind.l8 N N := Fx.okL [28] (by kernel_rfl) (fun K ρ => by kernel_rfl) (h34_17 N) ρ (wind_Wind.l8 N) rfl fun n ρ' e d => by rw [o34_28, e]; rfl
theorem h34 (N : Nat) (K) : (X34 N).top K = wind_Wind.b N ((X34 N).kc K 17) := by kernel_rfl
theorem sum34 (N : Nat) : SumOk Tryz.prog 34 (S34 N) := Fx.ok1 (X34 N) tabok Tryz.func34 (by kernel_rfl) ⟨sum28 N, sum60 N, sum38 N, sum91 N, sum61 N, sum92 N, sum93 N, sum62 N, trivial⟩ [17] (fun K => by kernel_rfl) (h34 N) (by rw [o34_17]; rfl)

noncomputable def X66 (N : Nat) : Fx := ⟨78, tab, [], N, Tryz.f66, [.v LtI3], [.v B], [⟨5, [(0, .v LtI3), (3, .v I)], [1, 0, 1, 0, 0], []⟩], none⟩
noncomputable abbrev S66 (N : Nat) : Summ := (X66 N).S true (novationref10_Stock N)
theorem h66_5 (N : Nat) (K ρ) : (X66 N).bd K ρ 5 = novationref10_Stock.l2b N ((X66 N).kc ρ 5) := by kernel_rfl
theorem o66_5 (N : Nat) (ρ) : (X66 N).kc ((X66 N).sem ρ) 5 = novationref10_Stock.l2 N N := Fx.okL [] (by kernel_rfl) (fun K ρ => by kernel_rfl) (h66_5 N) ρ (novationref10_Stock.l2 N) rfl fun n ρ' e d => by rw [e]; rfl
theorem h66 (N : Nat) (K) : (X66 N).top K = novationref10_Stock.b N ((X66 N).kc K 5) := by kernel_rfl
theorem sum66 (N : Nat) : SumOk Tryz.prog 66 (S66 N) := Fx.ok1 (X66 N) tabok Tryz.func66 (by kernel_rfl) trivial [5] (fun K => by kernel_rfl) (h66 N) (by rw [o66_5]; rfl)

noncomputable def X23 (N : Nat) : Fx := ⟨38, tab, [(66, S66 N)], N, Tryz.f23, [.v LtI3, .v I, .v I], [.v I], [⟨9, [(0, .v LtI3), (1, .v I), (2, .v I), (7, .v I)], [1, 1, 0, 1, 0, 0], []⟩], none⟩
noncomputable abbrev S23 (N : Nat) : Summ := (X23 N).S true (novationref10_Held N)
theorem h23_9 (N : Nat) (K ρ) : (X23 N).bd K ρ 9 = novationref10_Held.l4b N ((X23 N).kc ρ 9) := by kernel_rfl
theorem o23_9 (N : Nat) (ρ) : (X23 N).kc ((X23 N).sem ρ) 9 = novationref10_Held.l4 N N := Fx.okL [] (by kernel_rfl) (fun K ρ => by kernel_rfl) (h23_9 N) ρ (novationref10_Held.l4 N) rfl fun n ρ' e d => by rw [e]; rfl
theorem h23 (N : Nat) (K) : (X23 N).top K = novationref10_Held.b N ((X23 N).kc K 9) := by kernel_rfl
theorem sum23 (N : Nat) : SumOk Tryz.prog 23 (S23 N) := Fx.ok1 (X23 N) tabok Tryz.func23 (by kernel_rfl) ⟨sum66 N, trivial⟩ [9] (fun K => by kernel_rfl) (h23 N) (by rw [o23_9]; rfl)

noncomputable def X131 (N : Nat) : Fx := ⟨30, tab, [], N, Tryz.f131, [.v I, .v I], [.v B], [], none⟩
noncomputable abbrev S131 (N : Nat) : Summ := (X131 N).S true (novationref10_Key N)
theorem sum131 (N : Nat) : SumOk Tryz.prog 131 (S131 N) := Fx.ok0 (X131 N) tabok Tryz.func131 (by kernel_rfl) trivial (by kernel_rfl)

noncomputable def X65 (N : Nat) : Fx := ⟨74, tab, [(131, S131 N)], N, Tryz.f65, [.v LtI3], [.v B], [⟨5, [(0, .v LtI3), (3, .v I)], [1, 0, 1, 0, 0], []⟩], none⟩
noncomputable abbrev S65 (N : Nat) : Summ := (X65 N).S true (novationref10_Rows N)
theorem h65_5 (N : Nat) (K ρ) : (X65 N).bd K ρ 5 = novationref10_Rows.l2b N ((X65 N).kc ρ 5) := by kernel_rfl
theorem o65_5 (N : Nat) (ρ) : (X65 N).kc ((X65 N).sem ρ) 5 = novationref10_Rows.l2 N N := Fx.okL [] (by kernel_rfl) (fun K ρ => by kernel_rfl) (h65_5 N) ρ (novationref10_Rows.l2 N) rfl fun n ρ' e d => by rw [e]; rfl
theorem h65 (N : Nat) (K) : (X65 N).top K = novationref10_Rows.b N ((X65 N).kc K 5) := by kernel_rfl
theorem sum65 (N : Nat) : SumOk Tryz.prog 65 (S65 N) := Fx.ok1 (X65 N) tabok Tryz.func65 (by kernel_rfl) ⟨sum131 N, trivial⟩ [5] (fun K => by kernel_rfl) (h65 N) (by rw [o65_5]; rfl)

noncomputable def X22 (N : Nat) : Fx := ⟨38, tab, [(65, S65 N)], N, Tryz.f22, [.v LtI3, .v I, .v I], [.v I], [⟨9, [(0, .v LtI3), (1, .v I), (2, .v I), (7, .v I)], [1, 1, 0, 1, 0, 0], []⟩], none⟩
noncomputable abbrev S22 (N : Nat) : Summ := (X22 N).S true (novationref10_Get N)
theorem h22_9 (N : Nat) (K ρ) : (X22 N).bd K ρ 9 = novationref10_Get.l4b N ((X22 N).kc ρ 9) := by kernel_rfl
theorem o22_9 (N : Nat) (ρ) : (X22 N).kc ((X22 N).sem ρ) 9 = novationref10_Get.l4 N N := Fx.okL [] (by kernel_rfl) (fun K ρ => by kernel_rfl) (h22_9 N) ρ (novationref10_Get.l4 N) rfl fun n ρ' e d => by rw [e]; rfl
theorem h22 (N : Nat) (K) : (X22 N).top K = novationref10_Get.b N ((X22 N).kc K 9) := by kernel_rfl
theorem sum22 (N : Nat) : SumOk Tryz.prog 22 (S22 N) := Fx.ok1 (X22 N) tabok Tryz.func22 (by kernel_rfl) ⟨sum65 N, trivial⟩ [9] (fun K => by kernel_rfl) (h22 N) (by rw [o22_9]; rfl)

noncomputable def X29 (N : Nat) : Fx := ⟨69, tab, [(84, S84 N), (38, S38 N), (34, S34 N), (23, S23 N), (22, S22 N)], N, Tryz.f29, [], [.v B], [], none⟩
noncomputable abbrev S29 (N : Nat) : Summ := (X29 N).S true (novationlaw21_known N)
theorem env29 (N : Nat) : EnvOk Tryz.prog (X29 N).E := Fx.envOk (X29 N) tabok ⟨sum84 N, sum38 N, sum34 N, sum23 N, sum22 N, trivial⟩ (by kernel_rfl)
theorem run29 (N : Nat) : ∀ x, evF (X29 N).E (X29 N).fn (X29 N).args (X29 N).res x = uncA (X29 N).args (novationlaw21_known N) x := Fx.run0 (by kernel_rfl)
theorem sum29 (N : Nat) : SumOk Tryz.prog 29 (S29 N) := Fx.ok0 (X29 N) tabok Tryz.func29 (by kernel_rfl) ⟨sum84 N, sum38 N, sum34 N, sum23 N, sum22 N, trivial⟩ (by kernel_rfl)

noncomputable def X201 (N : Nat) : Fx := ⟨15, tab, [], N, Tryz.f201, [.v I, .v I, .v I], [.v B], [], none⟩
noncomputable abbrev S201 (N : Nat) : Summ := (X201 N).S true (novationref4_within N)
theorem sum201 (N : Nat) : SumOk Tryz.prog 201 (S201 N) := Fx.ok0 (X201 N) tabok Tryz.func201 (by kernel_rfl) trivial (by kernel_rfl)

noncomputable def X160 (N : Nat) : Fx := ⟨77, tab, [(201, S201 N)], N, Tryz.f160, [.v tConfig], [.v B], [⟨9, [(1, .obj tConfig), (3, .v I)], [1, 1, 0, 1, 0, 0], []⟩], none⟩
noncomputable abbrev S160 (N : Nat) : Summ := (X160 N).S true (novationref4_RightPlan N)
theorem h160_9 (N : Nat) (K ρ) : (X160 N).bd K ρ 9 = novationref4_RightPlan.l4b N ((X160 N).kc ρ 9) := by kernel_rfl
theorem o160_9 (N : Nat) (ρ) : (X160 N).kc ((X160 N).sem ρ) 9 = novationref4_RightPlan.l4 N N := Fx.okL [] (by kernel_rfl) (fun K ρ => by kernel_rfl) (h160_9 N) ρ (novationref4_RightPlan.l4 N) rfl fun n ρ' e d => by rw [e]; rfl
theorem h160 (N : Nat) (K) : (X160 N).top K = novationref4_RightPlan.b N ((X160 N).kc K 9) := by kernel_rfl
theorem sum160 (N : Nat) : SumOk Tryz.prog 160 (S160 N) := Fx.ok1 (X160 N) tabok Tryz.func160 (by kernel_rfl) ⟨sum201 N, trivial⟩ [9] (fun K => by kernel_rfl) (h160 N) (by rw [o160_9]; rfl)

noncomputable def X94 (N : Nat) : Fx := ⟨58, tab, [], N, Tryz.f94, [.v LtI2], [.v B], [⟨5, [(0, .v LtI2), (3, .v I)], [1, 0, 1, 0, 0], []⟩], none⟩
noncomputable abbrev S94 (N : Nat) : Summ := (X94 N).S true (novationref10_Members N)
theorem h94_5 (N : Nat) (K ρ) : (X94 N).bd K ρ 5 = novationref10_Members.l2b N ((X94 N).kc ρ 5) := by kernel_rfl
theorem o94_5 (N : Nat) (ρ) : (X94 N).kc ((X94 N).sem ρ) 5 = novationref10_Members.l2 N N := Fx.okL [] (by kernel_rfl) (fun K ρ => by kernel_rfl) (h94_5 N) ρ (novationref10_Members.l2 N) rfl fun n ρ' e d => by rw [e]; rfl
theorem h94 (N : Nat) (K) : (X94 N).top K = novationref10_Members.b N ((X94 N).kc K 5) := by kernel_rfl
theorem sum94 (N : Nat) : SumOk Tryz.prog 94 (S94 N) := Fx.ok1 (X94 N) tabok Tryz.func94 (by kernel_rfl) trivial [5] (fun K => by kernel_rfl) (h94 N) (by rw [o94_5]; rfl)

noncomputable def X68 (N : Nat) : Fx := ⟨95, tab, [], N, Tryz.f68, [.v LtI4], [.v B], [⟨17, [(0, .v LtI4), (3, .v I), (4, .obj tI4), (5, .v I)], [1, 0, 1, 0, 0, 1, 0, 0, 1, 1, 1, 0, 0], [5]⟩, ⟨14, [(0, .v LtI4), (3, .v I), (4, .obj tI4)], [1, 0, 1, 0, 0, 1, 0, 0, 1, 1], [5]⟩, ⟨5, [(0, .v LtI4), (3, .v I)], [1, 0, 1, 0, 0], []⟩], none⟩
noncomputable abbrev S68 (N : Nat) : Summ := (X68 N).S true (novationref10_Accs N)
theorem h68_17 (N : Nat) (K ρ) : (X68 N).bd K ρ 17 = novationref10_Accs.l8b N ((X68 N).kc ρ 5) ((X68 N).kc ρ 17) := by kernel_rfl
theorem o68_17 (N : Nat) (ρ) : (X68 N).kc ((X68 N).sem ρ) 17 = novationref10_Accs.l8 N ((X68 N).kc ρ 5) N := Fx.okL [] (by kernel_rfl) (fun K ρ => by kernel_rfl) (h68_17 N) ρ (novationref10_Accs.l8 N ((X68 N).kc ρ 5)) rfl fun n ρ' e d => by rw [e, d 5 rfl]; rfl
theorem h68_14 (N : Nat) (K ρ) : (X68 N).bd K ρ 14 = novationref10_Accs.j7b N ((X68 N).kc K 17) ((X68 N).kc ρ 5) := by kernel_rfl
theorem o68_14 (N : Nat) (ρ) : (X68 N).kc ((X68 N).sem ρ) 14 = novationref10_Accs.j7 N ((X68 N).kc ρ 5) := (Fx.okJ [17] (by kernel_rfl) (fun K ρ => by kernel_rfl) (h68_14 N) ρ).trans (by rw [o68_17]; rfl)
theorem h68_5 (N : Nat) (K ρ) : (X68 N).bd K ρ 5 = novationref10_Accs.l2b N ((X68 N).kc K 14) ((X68 N).kc ρ 5) := by kernel_rfl
theorem o68_5 (N : Nat) (ρ) : (X68 N).kc ((X68 N).sem ρ) 5 = novationref10_Accs.l2 N N := Fx.okL [14, 17] (by kernel_rfl) (fun K ρ => by kernel_rfl) (h68_5 N) ρ (novationref10_Accs.l2 N) rfl fun n ρ' e d => by rw [o68_14, e]; rfl
theorem h68 (N : Nat) (K) : (X68 N).top K = novationref10_Accs.b N ((X68 N).kc K 5) := by kernel_rfl
theorem sum68 (N : Nat) : SumOk Tryz.prog 68 (S68 N) := Fx.ok1 (X68 N) tabok Tryz.func68 (by kernel_rfl) trivial [5] (fun K => by kernel_rfl) (h68 N) (by rw [o68_5]; rfl)

noncomputable def X95 (N : Nat) : Fx := ⟨24, tab, [], N, Tryz.f95, [.v LtI2, .v I], [.v I], [⟨5, [(0, .v LtI2), (1, .v I), (5, .v I)], [1, 0, 1, 0, 0], []⟩], none⟩
noncomputable abbrev S95 (N : Nat) : Summ := (X95 N).S true (novationref10_status N)
theorem h95_5 (N : Nat) (K ρ) : (X95 N).bd K ρ 5 = novationref10_status.l2b N ((X95 N).kc ρ 5) := by kernel_rfl
theorem o95_5 (N : Nat) (ρ) : (X95 N).kc ((X95 N).sem ρ) 5 = novationref10_status.l2 N N := Fx.okL [] (by kernel_rfl) (fun K ρ => by kernel_rfl) (h95_5 N) ρ (novationref10_status.l2 N) rfl fun n ρ' e d => by rw [e]; rfl
theorem h95 (N : Nat) (K) : (X95 N).top K = novationref10_status.b N ((X95 N).kc K 5) := by kernel_rfl
theorem sum95 (N : Nat) : SumOk Tryz.prog 95 (S95 N) := Fx.ok1 (X95 N) tabok Tryz.func95 (by kernel_rfl) trivial [5] (fun K => by kernel_rfl) (h95 N) (by rw [o95_5]; rfl)

noncomputable def X161 (N : Nat) : Fx := ⟨28, tab, [(94, S94 N), (68, S68 N), (95, S95 N)], N, Tryz.f161, [.v LtI2, .v LtI4], [.v B], [⟨9, [(0, .v LtI2), (1, .v LtI4), (5, .v I)], [1, 1, 0, 1, 0, 0], []⟩], none⟩
noncomputable abbrev S161 (N : Nat) : Summ := (X161 N).S true (novationref10_RightRoll N)
theorem h161_9 (N : Nat) (K ρ) : (X161 N).bd K ρ 9 = novationref10_RightRoll.l4b N ((X161 N).kc ρ 9) := by kernel_rfl
theorem o161_9 (N : Nat) (ρ) : (X161 N).kc ((X161 N).sem ρ) 9 = novationref10_RightRoll.l4 N N := Fx.okL [] (by kernel_rfl) (fun K ρ => by kernel_rfl) (h161_9 N) ρ (novationref10_RightRoll.l4 N) rfl fun n ρ' e d => by rw [e]; rfl
theorem h161 (N : Nat) (K) : (X161 N).top K = novationref10_RightRoll.b N ((X161 N).kc K 9) := by kernel_rfl
theorem sum161 (N : Nat) : SumOk Tryz.prog 161 (S161 N) := Fx.ok1 (X161 N) tabok Tryz.func161 (by kernel_rfl) ⟨sum94 N, sum68 N, sum95 N, trivial⟩ [9] (fun K => by kernel_rfl) (h161 N) (by rw [o161_9]; rfl)

noncomputable def X130 (N : Nat) : Fx := ⟨22, tab, [], N, Tryz.f130, [.v LU], [.v LU], [⟨5, [(0, .v LU), (3, .v I)], [1, 1, 0, 0, 0], []⟩], none⟩
noncomputable abbrev S130 (N : Nat) : Summ := (X130 N).S false (novationref1_trim N)
theorem h130_5 (N : Nat) (K ρ) : (X130 N).bd K ρ 5 = novationref1_trim.l2b N ((X130 N).kc ρ 5) := by kernel_rfl
theorem o130_5 (N : Nat) (ρ) : (X130 N).kc ((X130 N).sem ρ) 5 = novationref1_trim.l2 N N := Fx.okL [] (by kernel_rfl) (fun K ρ => by kernel_rfl) (h130_5 N) ρ (novationref1_trim.l2 N) rfl fun n ρ' e d => by rw [e]; rfl
theorem h130 (N : Nat) (K) : (X130 N).top K = novationref1_trim.b N ((X130 N).kc K 5) := by kernel_rfl
theorem sum130 (N : Nat) : SumOk Tryz.prog 130 (S130 N) := Fx.ok1 (X130 N) tabok Tryz.func130 (by kernel_rfl) trivial [5] (fun K => by kernel_rfl) (h130 N) (by rw [o130_5]; rfl)

noncomputable def X64 (N : Nat) : Fx := ⟨9, tab, [(130, S130 N)], N, Tryz.f64, [.v U], [.v LU], [], none⟩
noncomputable abbrev S64 (N : Nat) : Summ := (X64 N).S false (novationref1_size N)
theorem sum64 (N : Nat) : SumOk Tryz.prog 64 (S64 N) := Fx.ok0 (X64 N) tabok Tryz.func64 (by kernel_rfl) ⟨sum130 N, trivial⟩ (by kernel_rfl)

noncomputable def X63 (N : Nat) : Fx := ⟨15, tab, [(130, S130 N)], N, Tryz.f63, [.v B, .v LU], [.v tBig], [], none⟩
noncomputable abbrev S63 (N : Nat) : Summ := (X63 N).S false (novationref1_made N)
theorem sum63 (N : Nat) : SumOk Tryz.prog 63 (S63 N) := Fx.ok0 (X63 N) tabok Tryz.func63 (by kernel_rfl) ⟨sum130 N, trivial⟩ (by kernel_rfl)

noncomputable def X21 (N : Nat) : Fx := ⟨15, tab, [(64, S64 N), (63, S63 N)], N, Tryz.f21, [.v I], [.v tBig], [], none⟩
noncomputable abbrev S21 (N : Nat) : Summ := (X21 N).S false (novationref1_Whole N)
theorem sum21 (N : Nat) : SumOk Tryz.prog 21 (S21 N) := Fx.ok0 (X21 N) tabok Tryz.func21 (by kernel_rfl) ⟨sum64 N, sum63 N, trivial⟩ (by kernel_rfl)

noncomputable def X100 (N : Nat) : Fx := ⟨13, tab, [], N, Tryz.f100, [.v LU, .v I], [.v U], [], none⟩
noncomputable abbrev S100 (N : Nat) : Summ := (X100 N).S true (novationref1_digit N)
theorem sum100 (N : Nat) : SumOk Tryz.prog 100 (S100 N) := Fx.ok0 (X100 N) tabok Tryz.func100 (by kernel_rfl) trivial (by kernel_rfl)

noncomputable def X69 (N : Nat) : Fx := ⟨41, tab, [(100, S100 N)], N, Tryz.f69, [.v LU, .v LU], [.own U], [⟨12, [(0, .v LU), (1, .v LU), (5, .own U), (6, .v U), (7, .v I)], [1, 1, 1, 0, 1, 0, 0, 1], [9]⟩, ⟨9, [(0, .v LU), (1, .v LU), (5, .own U), (6, .v U), (7, .v I)], [1, 1, 1, 0, 1, 0, 0], []⟩], none⟩
noncomputable abbrev S69 (N : Nat) : Summ := (X69 N).S false (novationref1_addSizes N)
theorem h69_12 (N : Nat) (K ρ) : (X69 N).bd K ρ 12 = novationref1_addSizes.j6b N ((X69 N).kc ρ 9) := by kernel_rfl
theorem o69_12 (N : Nat) (ρ) : (X69 N).kc ((X69 N).sem ρ) 12 = novationref1_addSizes.j6 N ((X69 N).kc ρ 9) := (Fx.okJ [] (by kernel_rfl) (fun K ρ => by kernel_rfl) (h69_12 N) ρ).trans rfl
theorem h69_9 (N : Nat) (K ρ) : (X69 N).bd K ρ 9 = novationref1_addSizes.l4b N ((X69 N).kc K 12) ((X69 N).kc ρ 9) := by kernel_rfl
theorem o69_9 (N : Nat) (ρ) : (X69 N).kc ((X69 N).sem ρ) 9 = novationref1_addSizes.l4 N N := Fx.okL [12] (by kernel_rfl) (fun K ρ => by kernel_rfl) (h69_9 N) ρ (novationref1_addSizes.l4 N) rfl fun n ρ' e d => by rw [o69_12, e]; rfl
theorem h69 (N : Nat) (K) : (X69 N).top K = novationref1_addSizes.b N ((X69 N).kc K 9) := by kernel_rfl
theorem sum69 (N : Nat) : SumOk Tryz.prog 69 (S69 N) := Fx.ok1 (X69 N) tabok Tryz.func69 (by kernel_rfl) ⟨sum100 N, trivial⟩ [9] (fun K => by kernel_rfl) (h69 N) (by rw [o69_9]; rfl)

noncomputable def X70 (N : Nat) : Fx := ⟨41, tab, [], N, Tryz.f70, [.v LU, .v LU], [.v I], [⟨13, [(0, .v LU), (1, .v LU), (5, .v I)], [1, 1, 0, 1, 0, 0], []⟩], none⟩
noncomputable abbrev S70 (N : Nat) : Summ := (X70 N).S true (novationref1_cmpSizes N)
theorem h70_13 (N : Nat) (K ρ) : (X70 N).bd K ρ 13 = novationref1_cmpSizes.l6b N ((X70 N).kc ρ 13) := by kernel_rfl
theorem o70_13 (N : Nat) (ρ) : (X70 N).kc ((X70 N).sem ρ) 13 = novationref1_cmpSizes.l6 N N := Fx.okL [] (by kernel_rfl) (fun K ρ => by kernel_rfl) (h70_13 N) ρ (novationref1_cmpSizes.l6 N) rfl fun n ρ' e d => by rw [e]; rfl
theorem h70 (N : Nat) (K) : (X70 N).top K = novationref1_cmpSizes.b N ((X70 N).kc K 13) := by kernel_rfl
theorem sum70 (N : Nat) : SumOk Tryz.prog 70 (S70 N) := Fx.ok1 (X70 N) tabok Tryz.func70 (by kernel_rfl) trivial [13] (fun K => by kernel_rfl) (h70 N) (by rw [o70_13]; rfl)

noncomputable def X71 (N : Nat) : Fx := ⟨37, tab, [(100, S100 N)], N, Tryz.f71, [.v LU, .v LU], [.own U], [⟨9, [(0, .v LU), (1, .v LU), (5, .own U), (6, .v U), (7, .v I)], [1, 1, 1, 0, 1, 0, 0], []⟩], none⟩
noncomputable abbrev S71 (N : Nat) : Summ := (X71 N).S false (novationref1_subSizes N)
theorem h71_9 (N : Nat) (K ρ) : (X71 N).bd K ρ 9 = novationref1_subSizes.l4b N ((X71 N).kc ρ 9) := by kernel_rfl
theorem o71_9 (N : Nat) (ρ) : (X71 N).kc ((X71 N).sem ρ) 9 = novationref1_subSizes.l4 N N := Fx.okL [] (by kernel_rfl) (fun K ρ => by kernel_rfl) (h71_9 N) ρ (novationref1_subSizes.l4 N) rfl fun n ρ' e d => by rw [e]; rfl
theorem h71 (N : Nat) (K) : (X71 N).top K = novationref1_subSizes.b N ((X71 N).kc K 9) := by kernel_rfl
theorem sum71 (N : Nat) : SumOk Tryz.prog 71 (S71 N) := Fx.ok1 (X71 N) tabok Tryz.func71 (by kernel_rfl) ⟨sum100 N, trivial⟩ [9] (fun K => by kernel_rfl) (h71 N) (by rw [o71_9]; rfl)

noncomputable def X26 (N : Nat) : Fx := ⟨40, tab, [(69, S69 N), (63, S63 N), (70, S70 N), (71, S71 N)], N, Tryz.f26, [.v tBig, .v tBig], [.v tBig], [], none⟩
noncomputable abbrev S26 (N : Nat) : Summ := (X26 N).S false (novationref1_Plus N)
theorem sum26 (N : Nat) : SumOk Tryz.prog 26 (S26 N) := Fx.ok0 (X26 N) tabok Tryz.func26 (by kernel_rfl) ⟨sum69 N, sum63 N, sum70 N, sum71 N, trivial⟩ (by kernel_rfl)

noncomputable def X202 (N : Nat) : Fx := ⟨33, tab, [(66, S66 N), (21, S21 N), (26, S26 N)], N, Tryz.f202, [.v LtI3, .v I], [.v tBig], [⟨11, [(0, .v LtI3), (1, .v I), (4, .obj tBig), (5, .obj tBig), (6, .v I)], [1, 1, 1, 0, 1, 0, 0], []⟩], none⟩
noncomputable abbrev S202 (N : Nat) : Summ := (X202 N).S false (novationref10_SumInst N)
theorem h202_11 (N : Nat) (K ρ) : (X202 N).bd K ρ 11 = novationref10_SumInst.l5b N ((X202 N).kc ρ 11) := by kernel_rfl
theorem o202_11 (N : Nat) (ρ) : (X202 N).kc ((X202 N).sem ρ) 11 = novationref10_SumInst.l5 N N := Fx.okL [] (by kernel_rfl) (fun K ρ => by kernel_rfl) (h202_11 N) ρ (novationref10_SumInst.l5 N) rfl fun n ρ' e d => by rw [e]; rfl
theorem h202 (N : Nat) (K) : (X202 N).top K = novationref10_SumInst.b N ((X202 N).kc K 11) := by kernel_rfl
theorem sum202 (N : Nat) : SumOk Tryz.prog 202 (S202 N) := Fx.ok1 (X202 N) tabok Tryz.func202 (by kernel_rfl) ⟨sum66 N, sum21 N, sum26 N, trivial⟩ [11] (fun K => by kernel_rfl) (h202 N) (by rw [o202_11]; rfl)

noncomputable def X72 (N : Nat) : Fx := ⟨9, tab, [], N, Tryz.f72, [.v tBig], [.v I], [], none⟩
noncomputable abbrev S72 (N : Nat) : Summ := (X72 N).S true (novationref1_Sign N)
theorem sum72 (N : Nat) : SumOk Tryz.prog 72 (S72 N) := Fx.ok0 (X72 N) tabok Tryz.func72 (by kernel_rfl) trivial (by kernel_rfl)

noncomputable def X162 (N : Nat) : Fx := ⟨15, tab, [(202, S202 N), (72, S72 N), (66, S66 N)], N, Tryz.f162, [.v LtI3], [.v B], [⟨5, [(0, .v LtI3), (3, .v I)], [1, 0, 1, 0, 0], []⟩], none⟩
noncomputable abbrev S162 (N : Nat) : Summ := (X162 N).S true (novationref10_Flat N)
theorem h162_5 (N : Nat) (K ρ) : (X162 N).bd K ρ 5 = novationref10_Flat.l2b N ((X162 N).kc ρ 5) := by kernel_rfl
theorem o162_5 (N : Nat) (ρ) : (X162 N).kc ((X162 N).sem ρ) 5 = novationref10_Flat.l2 N N := Fx.okL [] (by kernel_rfl) (fun K ρ => by kernel_rfl) (h162_5 N) ρ (novationref10_Flat.l2 N) rfl fun n ρ' e d => by rw [e]; rfl
theorem h162 (N : Nat) (K) : (X162 N).top K = novationref10_Flat.b N ((X162 N).kc K 5) := by kernel_rfl
theorem sum162 (N : Nat) : SumOk Tryz.prog 162 (S162 N) := Fx.ok1 (X162 N) tabok Tryz.func162 (by kernel_rfl) ⟨sum202 N, sum72 N, sum66 N, trivial⟩ [5] (fun K => by kernel_rfl) (h162 N) (by rw [o162_5]; rfl)

noncomputable def X166 (N : Nat) : Fx := ⟨9, tab, [], N, Tryz.f166, [.v I], [.v B], [], none⟩
noncomputable abbrev S166 (N : Nat) : Summ := (X166 N).S true (novationref15_price N)
theorem sum166 (N : Nat) : SumOk Tryz.prog 166 (S166 N) := Fx.ok0 (X166 N) tabok Tryz.func166 (by kernel_rfl) trivial (by kernel_rfl)

noncomputable def X203 (N : Nat) : Fx := ⟨56, tab, [(166, S166 N)], N, Tryz.f203, [.v tI6], [.v B], [], none⟩
noncomputable abbrev S203 (N : Nat) : Summ := (X203 N).S true (novationref15_RightOrder N)
theorem sum203 (N : Nat) : SumOk Tryz.prog 203 (S203 N) := Fx.ok0 (X203 N) tabok Tryz.func203 (by kernel_rfl) ⟨sum166 N, trivial⟩ (by kernel_rfl)

noncomputable def X163 (N : Nat) : Fx := ⟨37, tab, [(203, S203 N)], N, Tryz.f163, [.v LtI6], [.v B], [⟨9, [(0, .v LtI6), (3, .v I)], [1, 1, 0, 1, 0, 0], []⟩], none⟩
noncomputable abbrev S163 (N : Nat) : Summ := (X163 N).S true (novationref15_Orders N)
theorem h163_9 (N : Nat) (K ρ) : (X163 N).bd K ρ 9 = novationref15_Orders.l4b N ((X163 N).kc ρ 9) := by kernel_rfl
theorem o163_9 (N : Nat) (ρ) : (X163 N).kc ((X163 N).sem ρ) 9 = novationref15_Orders.l4 N N := Fx.okL [] (by kernel_rfl) (fun K ρ => by kernel_rfl) (h163_9 N) ρ (novationref15_Orders.l4 N) rfl fun n ρ' e d => by rw [e]; rfl
theorem h163 (N : Nat) (K) : (X163 N).top K = novationref15_Orders.b N ((X163 N).kc K 9) := by kernel_rfl
theorem sum163 (N : Nat) : SumOk Tryz.prog 163 (S163 N) := Fx.ok1 (X163 N) tabok Tryz.func163 (by kernel_rfl) ⟨sum203 N, trivial⟩ [9] (fun K => by kernel_rfl) (h163 N) (by rw [o163_9]; rfl)

noncomputable def X164 (N : Nat) : Fx := ⟨24, tab, [(65, S65 N), (21, S21 N), (26, S26 N)], N, Tryz.f164, [.v LtI3], [.v tBig], [⟨11, [(0, .v LtI3), (2, .obj tBig), (3, .obj tBig), (4, .v I)], [1, 1, 1, 0, 1, 0, 0], []⟩], none⟩
noncomputable abbrev S164 (N : Nat) : Summ := (X164 N).S false (novationref10_Total N)
theorem h164_11 (N : Nat) (K ρ) : (X164 N).bd K ρ 11 = novationref10_Total.l5b N ((X164 N).kc ρ 11) := by kernel_rfl
theorem o164_11 (N : Nat) (ρ) : (X164 N).kc ((X164 N).sem ρ) 11 = novationref10_Total.l5 N N := Fx.okL [] (by kernel_rfl) (fun K ρ => by kernel_rfl) (h164_11 N) ρ (novationref10_Total.l5 N) rfl fun n ρ' e d => by rw [e]; rfl
theorem h164 (N : Nat) (K) : (X164 N).top K = novationref10_Total.b N ((X164 N).kc K 11) := by kernel_rfl
theorem sum164 (N : Nat) : SumOk Tryz.prog 164 (S164 N) := Fx.ok1 (X164 N) tabok Tryz.func164 (by kernel_rfl) ⟨sum65 N, sum21 N, sum26 N, trivial⟩ [11] (fun K => by kernel_rfl) (h164 N) (by rw [o164_11]; rfl)

noncomputable def X189 (N : Nat) : Fx := ⟨25, tab, [], N, Tryz.f189, [.v LtI4, .v I], [.v tI4, .v B], [⟨5, [(0, .v LtI4), (1, .v I), (4, .obj tI4), (6, .v I)], [1, 0, 1, 0, 0], []⟩], none⟩
noncomputable abbrev S189 (N : Nat) : Summ := (X189 N).S true (novationref10_find N)
theorem h189_5 (N : Nat) (K ρ) : (X189 N).bd K ρ 5 = novationref10_find.l2b N ((X189 N).kc ρ 5) := by kernel_rfl
theorem o189_5 (N : Nat) (ρ) : (X189 N).kc ((X189 N).sem ρ) 5 = novationref10_find.l2 N N := Fx.okL [] (by kernel_rfl) (fun K ρ => by kernel_rfl) (h189_5 N) ρ (novationref10_find.l2 N) rfl fun n ρ' e d => by rw [e]; rfl
theorem h189 (N : Nat) (K) : (X189 N).top K = novationref10_find.b N ((X189 N).kc K 5) := by kernel_rfl
theorem sum189 (N : Nat) : SumOk Tryz.prog 189 (S189 N) := Fx.ok1 (X189 N) tabok Tryz.func189 (by kernel_rfl) trivial [5] (fun K => by kernel_rfl) (h189 N) (by rw [o189_5]; rfl)

noncomputable def X142 (N : Nat) : Fx := ⟨15, tab, [(68, S68 N), (189, S189 N)], N, Tryz.f142, [.v LtI4, .v I], [.v tI4, .v B], [], none⟩
noncomputable abbrev S142 (N : Nat) : Summ := (X142 N).S true (novationref10_Find N)
theorem sum142 (N : Nat) : SumOk Tryz.prog 142 (S142 N) := Fx.ok0 (X142 N) tabok Tryz.func142 (by kernel_rfl) ⟨sum68 N, sum189 N, trivial⟩ (by kernel_rfl)

noncomputable def X165 (N : Nat) : Fx := ⟨19, tab, [(142, S142 N)], N, Tryz.f165, [.v tBook, .v I], [.v B], [], none⟩
noncomputable abbrev S165 (N : Nat) : Summ := (X165 N).S true (novationref15_there N)
theorem sum165 (N : Nat) : SumOk Tryz.prog 165 (S165 N) := Fx.ok0 (X165 N) tabok Tryz.func165 (by kernel_rfl) ⟨sum142 N, trivial⟩ (by kernel_rfl)

noncomputable def X35 (N : Nat) : Fx := ⟨11, tab, [(94, S94 N), (95, S95 N)], N, Tryz.f35, [.v LtI2, .v I], [.v I], [], none⟩
noncomputable abbrev S35 (N : Nat) : Summ := (X35 N).S true (novationref10_Status N)
theorem sum35 (N : Nat) : SumOk Tryz.prog 35 (S35 N) := Fx.ok0 (X35 N) tabok Tryz.func35 (by kernel_rfl) ⟨sum94 N, sum95 N, trivial⟩ (by kernel_rfl)

noncomputable def X110 (N : Nat) : Fx := ⟨163, tab, [(160, S160 N), (161, S161 N), (65, S65 N), (162, S162 N), (163, S163 N), (164, S164 N), (72, S72 N), (165, S165 N), (35, S35 N), (166, S166 N)], N, Tryz.f110, [.v tConfig, .v tBook], [.v B], [⟨45, [(2, .obj tConfig), (3, .obj tBook), (9, .v I)], [1, 1, 1, 1, 1, 1, 0, 1, 0, 0], []⟩, ⟨35, [(2, .obj tConfig), (3, .obj tBook), (8, .v I)], [1, 1, 1, 1, 1, 0, 1, 0, 0], []⟩, ⟨25, [(2, .obj tConfig), (3, .obj tBook), (7, .v I)], [1, 1, 1, 1, 0, 1, 0, 0], []⟩, ⟨13, [(2, .obj tConfig), (3, .obj tBook), (5, .v I)], [1, 1, 1, 0, 1, 0, 0], []⟩], none⟩
noncomputable abbrev S110 (N : Nat) : Summ := (X110 N).S true (novationref15_RightBook N)
theorem h110_45 (N : Nat) (K ρ) : (X110 N).bd K ρ 45 = novationref15_RightBook.l22b N ((X110 N).kc ρ 45) := by kernel_rfl
theorem o110_45 (N : Nat) (ρ) : (X110 N).kc ((X110 N).sem ρ) 45 = novationref15_RightBook.l22 N N := Fx.okL [] (by kernel_rfl) (fun K ρ => by kernel_rfl) (h110_45 N) ρ (novationref15_RightBook.l22 N) rfl fun n ρ' e d => by rw [e]; rfl
theorem h110_35 (N : Nat) (K ρ) : (X110 N).bd K ρ 35 = novationref15_RightBook.l17b N ((X110 N).kc K 45) ((X110 N).kc ρ 35) := by kernel_rfl
theorem o110_35 (N : Nat) (ρ) : (X110 N).kc ((X110 N).sem ρ) 35 = novationref15_RightBook.l17 N N := Fx.okL [45] (by kernel_rfl) (fun K ρ => by kernel_rfl) (h110_35 N) ρ (novationref15_RightBook.l17 N) rfl fun n ρ' e d => by rw [o110_45, e]; rfl
theorem h110_25 (N : Nat) (K ρ) : (X110 N).bd K ρ 25 = novationref15_RightBook.l12b N ((X110 N).kc K 35) ((X110 N).kc ρ 25) := by kernel_rfl
theorem o110_25 (N : Nat) (ρ) : (X110 N).kc ((X110 N).sem ρ) 25 = novationref15_RightBook.l12 N N := Fx.okL [35, 45] (by kernel_rfl) (fun K ρ => by kernel_rfl) (h110_25 N) ρ (novationref15_RightBook.l12 N) rfl fun n ρ' e d => by rw [o110_35, e]; rfl
theorem h110_13 (N : Nat) (K ρ) : (X110 N).bd K ρ 13 = novationref15_RightBook.l6b N ((X110 N).kc K 25) ((X110 N).kc ρ 13) := by kernel_rfl
theorem o110_13 (N : Nat) (ρ) : (X110 N).kc ((X110 N).sem ρ) 13 = novationref15_RightBook.l6 N N := Fx.okL [25, 35, 45] (by kernel_rfl) (fun K ρ => by kernel_rfl) (h110_13 N) ρ (novationref15_RightBook.l6 N) rfl fun n ρ' e d => by rw [o110_25, e]; rfl
theorem h110 (N : Nat) (K) : (X110 N).top K = novationref15_RightBook.b N ((X110 N).kc K 13) := by kernel_rfl
theorem sum110 (N : Nat) : SumOk Tryz.prog 110 (S110 N) := Fx.ok1 (X110 N) tabok Tryz.func110 (by kernel_rfl) ⟨sum160 N, sum161 N, sum65 N, sum162 N, sum163 N, sum164 N, sum72 N, sum165 N, sum35 N, sum166 N, trivial⟩ [13, 25, 35, 45] (fun K => by kernel_rfl) (h110 N) (by rw [o110_13]; rfl)

noncomputable def X46 (N : Nat) : Fx := ⟨39, tab, [(66, S66 N)], N, Tryz.f46, [.v LtI3, .v I], [.own tI2], [⟨11, [(0, .v LtI3), (1, .v I), (5, .own tI2), (6, .v I)], [1, 1, 1, 0, 1, 0, 0], []⟩], none⟩
noncomputable abbrev S46 (N : Nat) : Summ := (X46 N).S false (novationref10_Of N)
theorem h46_11 (N : Nat) (K ρ) : (X46 N).bd K ρ 11 = novationref10_Of.l5b N ((X46 N).kc ρ 11) := by kernel_rfl
theorem o46_11 (N : Nat) (ρ) : (X46 N).kc ((X46 N).sem ρ) 11 = novationref10_Of.l5 N N := Fx.okL [] (by kernel_rfl) (fun K ρ => by kernel_rfl) (h46_11 N) ρ (novationref10_Of.l5 N) rfl fun n ρ' e d => by rw [e]; rfl
theorem h46 (N : Nat) (K) : (X46 N).top K = novationref10_Of.b N ((X46 N).kc K 11) := by kernel_rfl
theorem sum46 (N : Nat) : SumOk Tryz.prog 46 (S46 N) := Fx.ok1 (X46 N) tabok Tryz.func46 (by kernel_rfl) ⟨sum66 N, trivial⟩ [11] (fun K => by kernel_rfl) (h46 N) (by rw [o46_11]; rfl)

noncomputable def X167 (N : Nat) : Fx := ⟨66, tab, [(160, S160 N)], N, Tryz.f167, [.v tConfig, .v LtI2], [.v B], [⟨9, [(1, .v LtI2), (2, .obj tConfig), (5, .v I)], [1, 1, 0, 1, 0, 0], []⟩], none⟩
noncomputable abbrev S167 (N : Nat) : Summ := (X167 N).S true (novationref10_Legs N)
theorem h167_9 (N : Nat) (K ρ) : (X167 N).bd K ρ 9 = novationref10_Legs.l4b N ((X167 N).kc ρ 9) := by kernel_rfl
theorem o167_9 (N : Nat) (ρ) : (X167 N).kc ((X167 N).sem ρ) 9 = novationref10_Legs.l4 N N := Fx.okL [] (by kernel_rfl) (fun K ρ => by kernel_rfl) (h167_9 N) ρ (novationref10_Legs.l4 N) rfl fun n ρ' e d => by rw [e]; rfl
theorem h167 (N : Nat) (K) : (X167 N).top K = novationref10_Legs.b N ((X167 N).kc K 9) := by kernel_rfl
theorem sum167 (N : Nat) : SumOk Tryz.prog 167 (S167 N) := Fx.ok1 (X167 N) tabok Tryz.func167 (by kernel_rfl) ⟨sum160 N, trivial⟩ [9] (fun K => by kernel_rfl) (h167 N) (by rw [o167_9]; rfl)

noncomputable def X40 (N : Nat) : Fx := ⟨6, tab, [(63, S63 N)], N, Tryz.f40, [.v tBig], [.v tBig], [], none⟩
noncomputable abbrev S40 (N : Nat) : Summ := (X40 N).S false (novationref1_Sized N)
theorem sum40 (N : Nat) : SumOk Tryz.prog 40 (S40 N) := Fx.ok0 (X40 N) tabok Tryz.func40 (by kernel_rfl) ⟨sum63 N, trivial⟩ (by kernel_rfl)

noncomputable def X39 (N : Nat) : Fx := ⟨71, tab, [(100, S100 N), (63, S63 N)], N, Tryz.f39, [.v tBig, .v tBig], [.v tBig], [⟨18, [(2, .obj tBig), (3, .obj tBig), (4, .obj tBig), (5, .own U), (6, .v I), (7, .v U), (8, .v I)], [1, 1, 0, 1, 0, 0, 1, 0, 0, 1, 1, 0, 0, 1], [7, 15]⟩, ⟨15, [(2, .obj tBig), (3, .obj tBig), (4, .obj tBig), (5, .own U), (6, .v I), (7, .v U), (8, .v I)], [1, 1, 0, 1, 0, 0, 1, 0, 0, 1, 1, 0, 0], [7]⟩, ⟨7, [(2, .obj tBig), (3, .obj tBig), (4, .obj tBig), (5, .own U), (6, .v I)], [1, 1, 0, 1, 0, 0], []⟩], none⟩
noncomputable abbrev S39 (N : Nat) : Summ := (X39 N).S false (novationref1_Times N)
theorem h39_18 (N : Nat) (K ρ) : (X39 N).bd K ρ 18 = novationref1_Times.j9b N ((X39 N).kc ρ 7) ((X39 N).kc ρ 15) := by kernel_rfl
theorem o39_18 (N : Nat) (ρ) : (X39 N).kc ((X39 N).sem ρ) 18 = novationref1_Times.j9 N ((X39 N).kc ρ 7) ((X39 N).kc ρ 15) := (Fx.okJ [] (by kernel_rfl) (fun K ρ => by kernel_rfl) (h39_18 N) ρ).trans rfl
theorem h39_15 (N : Nat) (K ρ) : (X39 N).bd K ρ 15 = novationref1_Times.l7b N ((X39 N).kc K 18) ((X39 N).kc ρ 7) ((X39 N).kc ρ 15) := by kernel_rfl
theorem o39_15 (N : Nat) (ρ) : (X39 N).kc ((X39 N).sem ρ) 15 = novationref1_Times.l7 N ((X39 N).kc ρ 7) N := Fx.okL [18] (by kernel_rfl) (fun K ρ => by kernel_rfl) (h39_15 N) ρ (novationref1_Times.l7 N ((X39 N).kc ρ 7)) rfl fun n ρ' e d => by rw [o39_18, e, d 7 rfl]; rfl
theorem h39_7 (N : Nat) (K ρ) : (X39 N).bd K ρ 7 = novationref1_Times.l3b N ((X39 N).kc K 15) ((X39 N).kc ρ 7) := by kernel_rfl
theorem o39_7 (N : Nat) (ρ) : (X39 N).kc ((X39 N).sem ρ) 7 = novationref1_Times.l3 N N := Fx.okL [15] (by kernel_rfl) (fun K ρ => by kernel_rfl) (h39_7 N) ρ (novationref1_Times.l3 N) rfl fun n ρ' e d => by rw [o39_15, e]; rfl
theorem h39 (N : Nat) (K) : (X39 N).top K = novationref1_Times.b N ((X39 N).kc K 7) := by kernel_rfl
theorem sum39 (N : Nat) : SumOk Tryz.prog 39 (S39 N) := Fx.ok1 (X39 N) tabok Tryz.func39 (by kernel_rfl) ⟨sum100 N, sum63 N, trivial⟩ [7] (fun K => by kernel_rfl) (h39 N) (by rw [o39_7]; rfl)

noncomputable def X172 (N : Nat) : Fx := ⟨56, tab, [(167, S167 N), (21, S21 N), (40, S40 N), (39, S39 N), (26, S26 N)], N, Tryz.f172, [.v tConfig, .v LtI2, .v B], [.v tBig, .v I], [⟨11, [(1, .v LtI2), (2, .v B), (3, .obj tConfig), (6, .obj tBig), (8, .obj tBig), (9, .v I)], [1, 1, 1, 0, 1, 0, 0], []⟩], none⟩
noncomputable abbrev S172 (N : Nat) : Summ := (X172 N).S false (novationref10_byRate N)
theorem h172_11 (N : Nat) (K ρ) : (X172 N).bd K ρ 11 = novationref10_byRate.l5b N ((X172 N).kc ρ 11) := by kernel_rfl
theorem o172_11 (N : Nat) (ρ) : (X172 N).kc ((X172 N).sem ρ) 11 = novationref10_byRate.l5 N N := Fx.okL [] (by kernel_rfl) (fun K ρ => by kernel_rfl) (h172_11 N) ρ (novationref10_byRate.l5 N) rfl fun n ρ' e d => by rw [e]; rfl
theorem h172 (N : Nat) (K) : (X172 N).top K = novationref10_byRate.b N ((X172 N).kc K 11) := by kernel_rfl
theorem sum172 (N : Nat) : SumOk Tryz.prog 172 (S172 N) := Fx.ok1 (X172 N) tabok Tryz.func172 (by kernel_rfl) ⟨sum167 N, sum21 N, sum40 N, sum39 N, sum26 N, trivial⟩ [11] (fun K => by kernel_rfl) (h172 N) (by rw [o172_11]; rfl)

noncomputable def X118 (N : Nat) : Fx := ⟨11, tab, [(172, S172 N)], N, Tryz.f118, [.v tConfig, .v LtI2], [.v tBig, .v I], [], none⟩
noncomputable abbrev S118 (N : Nat) : Summ := (X118 N).S false (novationref10_Slip N)
theorem sum118 (N : Nat) : SumOk Tryz.prog 118 (S118 N) := Fx.ok0 (X118 N) tabok Tryz.func118 (by kernel_rfl) ⟨sum172 N, trivial⟩ (by kernel_rfl)

noncomputable def X143 (N : Nat) : Fx := ⟨9, tab, [(22, S22 N)], N, Tryz.f143, [.v tBook, .v I], [.v I], [], none⟩
noncomputable abbrev S143 (N : Nat) : Summ := (X143 N).S true (novationref20_margin N)
theorem sum143 (N : Nat) : SumOk Tryz.prog 143 (S143 N) := Fx.ok0 (X143 N) tabok Tryz.func143 (by kernel_rfl) ⟨sum22 N, trivial⟩ (by kernel_rfl)

noncomputable def X119 (N : Nat) : Fx := ⟨28, tab, [(100, S100 N)], N, Tryz.f119, [.v tBig], [.v I, .v B], [], none⟩
noncomputable abbrev S119 (N : Nat) : Summ := (X119 N).S true (novationref1_Int N)
theorem sum119 (N : Nat) : SumOk Tryz.prog 119 (S119 N) := Fx.ok0 (X119 N) tabok Tryz.func119 (by kernel_rfl) ⟨sum100 N, trivial⟩ (by kernel_rfl)

noncomputable def X85 (N : Nat) : Fx := ⟨55, tab, [(110, S110 N), (142, S142 N), (46, S46 N), (118, S118 N), (143, S143 N), (119, S119 N)], N, Tryz.f85, [.v tConfig, .v tBook, .v I], [.v I, .v I], [], none⟩
noncomputable abbrev S85 (N : Nat) : Summ := (X85 N).S true (novationref20_Charge N)
theorem sum85 (N : Nat) : SumOk Tryz.prog 85 (S85 N) := Fx.ok0 (X85 N) tabok Tryz.func85 (by kernel_rfl) ⟨sum110 N, sum142 N, sum46 N, sum118 N, sum143 N, sum119 N, trivial⟩ (by kernel_rfl)

noncomputable def X113 (N : Nat) : Fx := ⟨9, tab, [(35, S35 N)], N, Tryz.f113, [.v tBook, .v I], [.v I], [], none⟩
noncomputable abbrev S113 (N : Nat) : Summ := (X113 N).S true (novationref20_member N)
theorem sum113 (N : Nat) : SumOk Tryz.prog 113 (S113 N) := Fx.ok0 (X113 N) tabok Tryz.func113 (by kernel_rfl) ⟨sum35 N, trivial⟩ (by kernel_rfl)

noncomputable def X67 (N : Nat) : Fx := ⟨9, tab, [(63, S63 N)], N, Tryz.f67, [.v tBig], [.v tBig], [], none⟩
noncomputable abbrev S67 (N : Nat) : Summ := (X67 N).S false (novationref1_Turned N)
theorem sum67 (N : Nat) : SumOk Tryz.prog 67 (S67 N) := Fx.ok0 (X67 N) tabok Tryz.func67 (by kernel_rfl) ⟨sum63 N, trivial⟩ (by kernel_rfl)

noncomputable def X114 (N : Nat) : Fx := ⟨21, tab, [(67, S67 N)], N, Tryz.f114, [.v I, .v I, .v I, .v I, .v tBig], [.own tPart], [], none⟩
noncomputable abbrev S114 (N : Nat) : Summ := (X114 N).S false (novationref10_Both N)
theorem sum114 (N : Nat) : SumOk Tryz.prog 114 (S114 N) := Fx.ok0 (X114 N) tabok Tryz.func114 (by kernel_rfl) ⟨sum67 N, trivial⟩ (by kernel_rfl)

noncomputable def X144 (N : Nat) : Fx := ⟨76, tab, [(66, S66 N)], N, Tryz.f144, [.v LtI3, .v I, .v I], [.own tI3], [⟨11, [(0, .v LtI3), (1, .v I), (2, .v I), (7, .own tI3), (8, .v I)], [1, 1, 1, 0, 1, 0, 0], []⟩], none⟩
noncomputable abbrev S144 (N : Nat) : Summ := (X144 N).S false (novationref10_All N)
theorem h144_11 (N : Nat) (K ρ) : (X144 N).bd K ρ 11 = novationref10_All.l5b N ((X144 N).kc ρ 11) := by kernel_rfl
theorem o144_11 (N : Nat) (ρ) : (X144 N).kc ((X144 N).sem ρ) 11 = novationref10_All.l5 N N := Fx.okL [] (by kernel_rfl) (fun K ρ => by kernel_rfl) (h144_11 N) ρ (novationref10_All.l5 N) rfl fun n ρ' e d => by rw [e]; rfl
theorem h144 (N : Nat) (K) : (X144 N).top K = novationref10_All.b N ((X144 N).kc K 11) := by kernel_rfl
theorem sum144 (N : Nat) : SumOk Tryz.prog 144 (S144 N) := Fx.ok1 (X144 N) tabok Tryz.func144 (by kernel_rfl) ⟨sum66 N, trivial⟩ [11] (fun K => by kernel_rfl) (h144 N) (by rw [o144_11]; rfl)

noncomputable def X204 (N : Nat) : Fx := ⟨18, tab, [(119, S119 N)], N, Tryz.f204, [.v tBig], [.v I, .v B], [], none⟩
noncomputable abbrev S204 (N : Nat) : Summ := (X204 N).S true (novationref1_Quantity N)
theorem sum204 (N : Nat) : SumOk Tryz.prog 204 (S204 N) := Fx.ok0 (X204 N) tabok Tryz.func204 (by kernel_rfl) ⟨sum119 N, trivial⟩ (by kernel_rfl)

noncomputable def X169 (N : Nat) : Fx := ⟨106, tab, [(21, S21 N), (26, S26 N), (204, S204 N)], N, Tryz.f169, [.v LtI3, .v LtI3], [.own tI3, .v B], [⟨31, [(0, .v LtI3), (1, .v LtI3), (6, .own tI3), (7, .v I), (8, .v I), (9, .v I), (10, .v I), (11, .v B), (12, .obj tBig), (13, .v I)], [1, 1, 1, 0, 1, 0, 0, 1, 0, 0, 1, 0, 0, 1, 0, 0, 1, 1, 1, 0, 1, 0, 0], [9, 15]⟩, ⟨26, [(0, .v LtI3), (1, .v LtI3), (6, .own tI3), (7, .v I), (8, .v I), (9, .v I), (10, .v I), (11, .v B)], [1, 1, 1, 0, 1, 0, 0, 1, 0, 0, 1, 0, 0, 1, 0, 0, 1, 1], [9, 15]⟩, ⟨15, [(0, .v LtI3), (1, .v LtI3), (6, .own tI3), (7, .v I), (8, .v I), (9, .v I)], [1, 1, 1, 0, 1, 0, 0, 1, 0, 0, 1, 0, 0], [9]⟩, ⟨9, [(0, .v LtI3), (1, .v LtI3), (6, .own tI3), (7, .v I), (8, .v I)], [1, 1, 1, 0, 1, 0, 0], []⟩], none⟩
noncomputable abbrev S169 (N : Nat) : Summ := (X169 N).S false (novationref10_Shifted N)
theorem h169_31 (N : Nat) (K ρ) : (X169 N).bd K ρ 31 = novationref10_Shifted.l15b N ((X169 N).kc ρ 9) ((X169 N).kc ρ 15) ((X169 N).kc ρ 31) := by kernel_rfl
theorem o169_31 (N : Nat) (ρ) : (X169 N).kc ((X169 N).sem ρ) 31 = novationref10_Shifted.l15 N ((X169 N).kc ρ 9) ((X169 N).kc ρ 15) N := Fx.okL [] (by kernel_rfl) (fun K ρ => by kernel_rfl) (h169_31 N) ρ (novationref10_Shifted.l15 N ((X169 N).kc ρ 9) ((X169 N).kc ρ 15)) rfl fun n ρ' e d => by rw [e, d 9 rfl, d 15 rfl]; rfl
theorem h169_26 (N : Nat) (K ρ) : (X169 N).bd K ρ 26 = novationref10_Shifted.j13b N ((X169 N).kc K 31) ((X169 N).kc ρ 9) ((X169 N).kc ρ 15) := by kernel_rfl
theorem o169_26 (N : Nat) (ρ) : (X169 N).kc ((X169 N).sem ρ) 26 = novationref10_Shifted.j13 N ((X169 N).kc ρ 9) ((X169 N).kc ρ 15) := (Fx.okJ [31] (by kernel_rfl) (fun K ρ => by kernel_rfl) (h169_26 N) ρ).trans (by rw [o169_31]; rfl)
theorem h169_15 (N : Nat) (K ρ) : (X169 N).bd K ρ 15 = novationref10_Shifted.l7b N ((X169 N).kc K 26) ((X169 N).kc ρ 9) ((X169 N).kc ρ 15) := by kernel_rfl
theorem o169_15 (N : Nat) (ρ) : (X169 N).kc ((X169 N).sem ρ) 15 = novationref10_Shifted.l7 N ((X169 N).kc ρ 9) N := Fx.okL [26, 31] (by kernel_rfl) (fun K ρ => by kernel_rfl) (h169_15 N) ρ (novationref10_Shifted.l7 N ((X169 N).kc ρ 9)) rfl fun n ρ' e d => by rw [o169_26, e, d 9 rfl]; rfl
theorem h169_9 (N : Nat) (K ρ) : (X169 N).bd K ρ 9 = novationref10_Shifted.l4b N ((X169 N).kc K 15) ((X169 N).kc ρ 9) := by kernel_rfl
theorem o169_9 (N : Nat) (ρ) : (X169 N).kc ((X169 N).sem ρ) 9 = novationref10_Shifted.l4 N N := Fx.okL [15] (by kernel_rfl) (fun K ρ => by kernel_rfl) (h169_9 N) ρ (novationref10_Shifted.l4 N) rfl fun n ρ' e d => by rw [o169_15, e]; rfl
theorem h169 (N : Nat) (K) : (X169 N).top K = novationref10_Shifted.b N ((X169 N).kc K 9) := by kernel_rfl
theorem sum169 (N : Nat) : SumOk Tryz.prog 169 (S169 N) := Fx.ok1 (X169 N) tabok Tryz.func169 (by kernel_rfl) ⟨sum21 N, sum26 N, sum204 N, trivial⟩ [9] (fun K => by kernel_rfl) (h169 N) (by rw [o169_9]; rfl)

noncomputable def X205 (N : Nat) : Fx := ⟨53, tab, [(26, S26 N), (21, S21 N), (119, S119 N)], N, Tryz.f205, [.v I, .v I, .v I, .v LtPart], [.v I, .v B], [⟨7, [(0, .v I), (1, .v I), (2, .v I), (3, .v LtPart), (10, .obj tBig), (11, .v B), (12, .v I)], [1, 1, 0, 1, 0, 0], []⟩], none⟩
noncomputable abbrev S205 (N : Nat) : Summ := (X205 N).S true (novationref10_behind N)
theorem h205_7 (N : Nat) (K ρ) : (X205 N).bd K ρ 7 = novationref10_behind.l3b N ((X205 N).kc ρ 7) := by kernel_rfl
theorem o205_7 (N : Nat) (ρ) : (X205 N).kc ((X205 N).sem ρ) 7 = novationref10_behind.l3 N N := Fx.okL [] (by kernel_rfl) (fun K ρ => by kernel_rfl) (h205_7 N) ρ (novationref10_behind.l3 N) rfl fun n ρ' e d => by rw [e]; rfl
theorem h205 (N : Nat) (K) : (X205 N).top K = novationref10_behind.b N ((X205 N).kc K 7) := by kernel_rfl
theorem sum205 (N : Nat) : SumOk Tryz.prog 205 (S205 N) := Fx.ok1 (X205 N) tabok Tryz.func205 (by kernel_rfl) ⟨sum26 N, sum21 N, sum119 N, trivial⟩ [7] (fun K => by kernel_rfl) (h205 N) (by rw [o205_7]; rfl)

noncomputable def X170 (N : Nat) : Fx := ⟨69, tab, [(205, S205 N)], N, Tryz.f170, [.v LtI3, .v LtPart], [.own tI3, .v B], [⟨26, [(0, .v LtI3), (1, .v LtPart), (6, .own tI3), (7, .v I), (8, .v I), (9, .v I), (10, .v I)], [1, 1, 1, 0, 1, 0, 0, 1, 0, 0, 1, 0, 0, 1, 0, 0, 1, 1], [9, 15]⟩, ⟨15, [(0, .v LtI3), (1, .v LtPart), (6, .own tI3), (7, .v I), (8, .v I), (9, .v I)], [1, 1, 1, 0, 1, 0, 0, 1, 0, 0, 1, 0, 0], [9]⟩, ⟨9, [(0, .v LtI3), (1, .v LtPart), (6, .own tI3), (7, .v I), (8, .v I)], [1, 1, 1, 0, 1, 0, 0], []⟩], none⟩
noncomputable abbrev S170 (N : Nat) : Summ := (X170 N).S false (novationref10_Laid N)
theorem h170_26 (N : Nat) (K ρ) : (X170 N).bd K ρ 26 = novationref10_Laid.j13b N ((X170 N).kc ρ 9) ((X170 N).kc ρ 15) := by kernel_rfl
theorem o170_26 (N : Nat) (ρ) : (X170 N).kc ((X170 N).sem ρ) 26 = novationref10_Laid.j13 N ((X170 N).kc ρ 9) ((X170 N).kc ρ 15) := (Fx.okJ [] (by kernel_rfl) (fun K ρ => by kernel_rfl) (h170_26 N) ρ).trans rfl
theorem h170_15 (N : Nat) (K ρ) : (X170 N).bd K ρ 15 = novationref10_Laid.l7b N ((X170 N).kc K 26) ((X170 N).kc ρ 9) ((X170 N).kc ρ 15) := by kernel_rfl
theorem o170_15 (N : Nat) (ρ) : (X170 N).kc ((X170 N).sem ρ) 15 = novationref10_Laid.l7 N ((X170 N).kc ρ 9) N := Fx.okL [26] (by kernel_rfl) (fun K ρ => by kernel_rfl) (h170_15 N) ρ (novationref10_Laid.l7 N ((X170 N).kc ρ 9)) rfl fun n ρ' e d => by rw [o170_26, e, d 9 rfl]; rfl
theorem h170_9 (N : Nat) (K ρ) : (X170 N).bd K ρ 9 = novationref10_Laid.l4b N ((X170 N).kc K 15) ((X170 N).kc ρ 9) := by kernel_rfl
theorem o170_9 (N : Nat) (ρ) : (X170 N).kc ((X170 N).sem ρ) 9 = novationref10_Laid.l4 N N := Fx.okL [15] (by kernel_rfl) (fun K ρ => by kernel_rfl) (h170_9 N) ρ (novationref10_Laid.l4 N) rfl fun n ρ' e d => by rw [o170_15, e]; rfl
theorem h170 (N : Nat) (K) : (X170 N).top K = novationref10_Laid.b N ((X170 N).kc K 9) := by kernel_rfl
theorem sum170 (N : Nat) : SumOk Tryz.prog 170 (S170 N) := Fx.ok1 (X170 N) tabok Tryz.func170 (by kernel_rfl) ⟨sum205 N, trivial⟩ [9] (fun K => by kernel_rfl) (h170 N) (by rw [o170_9]; rfl)

noncomputable def X115 (N : Nat) : Fx := ⟨36, tab, [(169, S169 N), (170, S170 N)], N, Tryz.f115, [.v tBook, .v LtI3, .v LtPart], [.v tBook, .v I], [], none⟩
noncomputable abbrev S115 (N : Nat) : Summ := (X115 N).S false (novationref15_With N)
theorem sum115 (N : Nat) : SumOk Tryz.prog 115 (S115 N) := Fx.ok0 (X115 N) tabok Tryz.func115 (by kernel_rfl) ⟨sum169 N, sum170 N, trivial⟩ (by kernel_rfl)

noncomputable def X86 (N : Nat) : Fx := ⟨86, tab, [(110, S110 N), (113, S113 N), (85, S85 N), (21, S21 N), (114, S114 N), (143, S143 N), (67, S67 N), (144, S144 N), (115, S115 N)], N, Tryz.f86, [.v tConfig, .v tBook, .v I], [.v tBook, .v I], [⟨30, [(2, .v I), (3, .obj tConfig), (4, .obj tBook), (6, .obj tBook), (8, .own tI3), (9, .own tPart), (10, .v I), (11, .obj tI4)], [1, 1, 1, 1, 1, 0, 1, 0, 0, 1, 0, 0, 1, 1, 1], [17]⟩, ⟨17, [(2, .v I), (3, .obj tConfig), (4, .obj tBook), (6, .obj tBook), (8, .own tI3), (9, .own tPart), (10, .v I)], [1, 1, 1, 1, 1, 0, 1, 0, 0], []⟩], none⟩
noncomputable abbrev S86 (N : Nat) : Summ := (X86 N).S false (novationref20_Wind N)
theorem h86_30 (N : Nat) (K ρ) : (X86 N).bd K ρ 30 = novationref20_Wind.j15b N ((X86 N).kc ρ 17) := by kernel_rfl
theorem o86_30 (N : Nat) (ρ) : (X86 N).kc ((X86 N).sem ρ) 30 = novationref20_Wind.j15 N ((X86 N).kc ρ 17) := (Fx.okJ [] (by kernel_rfl) (fun K ρ => by kernel_rfl) (h86_30 N) ρ).trans rfl
theorem h86_17 (N : Nat) (K ρ) : (X86 N).bd K ρ 17 = novationref20_Wind.l8b N ((X86 N).kc K 30) ((X86 N).kc ρ 17) := by kernel_rfl
theorem o86_17 (N : Nat) (ρ) : (X86 N).kc ((X86 N).sem ρ) 17 = novationref20_Wind.l8 N N := Fx.okL [30] (by kernel_rfl) (fun K ρ => by kernel_rfl) (h86_17 N) ρ (novationref20_Wind.l8 N) rfl fun n ρ' e d => by rw [o86_30, e]; rfl
theorem h86 (N : Nat) (K) : (X86 N).top K = novationref20_Wind.b N ((X86 N).kc K 17) := by kernel_rfl
theorem sum86 (N : Nat) : SumOk Tryz.prog 86 (S86 N) := Fx.ok1 (X86 N) tabok Tryz.func86 (by kernel_rfl) ⟨sum110 N, sum113 N, sum85 N, sum21 N, sum114 N, sum143 N, sum67 N, sum144 N, sum115 N, trivial⟩ [17] (fun K => by kernel_rfl) (h86 N) (by rw [o86_17]; rfl)

noncomputable def X101 (N : Nat) : Fx := ⟨26, tab, [], N, Tryz.f101, [.v LtI2, .v LtI2], [.v B], [⟨9, [(0, .v LtI2), (1, .v LtI2), (5, .v I)], [1, 1, 0, 1, 0, 0], []⟩], none⟩
noncomputable abbrev S101 (N : Nat) : Summ := (X101 N).S true (novationhelp_Members N)
theorem h101_9 (N : Nat) (K ρ) : (X101 N).bd K ρ 9 = novationhelp_Members.l4b N ((X101 N).kc ρ 9) := by kernel_rfl
theorem o101_9 (N : Nat) (ρ) : (X101 N).kc ((X101 N).sem ρ) 9 = novationhelp_Members.l4 N N := Fx.okL [] (by kernel_rfl) (fun K ρ => by kernel_rfl) (h101_9 N) ρ (novationhelp_Members.l4 N) rfl fun n ρ' e d => by rw [e]; rfl
theorem h101 (N : Nat) (K) : (X101 N).top K = novationhelp_Members.b N ((X101 N).kc K 9) := by kernel_rfl
theorem sum101 (N : Nat) : SumOk Tryz.prog 101 (S101 N) := Fx.ok1 (X101 N) tabok Tryz.func101 (by kernel_rfl) trivial [9] (fun K => by kernel_rfl) (h101 N) (by rw [o101_9]; rfl)

noncomputable def X37 (N : Nat) : Fx := ⟨26, tab, [], N, Tryz.f37, [.v LtI4, .v LtI4], [.v B], [⟨9, [(0, .v LtI4), (1, .v LtI4), (5, .v I)], [1, 1, 0, 1, 0, 0], []⟩], none⟩
noncomputable abbrev S37 (N : Nat) : Summ := (X37 N).S true (novationhelp_Accs N)
theorem h37_9 (N : Nat) (K ρ) : (X37 N).bd K ρ 9 = novationhelp_Accs.l4b N ((X37 N).kc ρ 9) := by kernel_rfl
theorem o37_9 (N : Nat) (ρ) : (X37 N).kc ((X37 N).sem ρ) 9 = novationhelp_Accs.l4 N N := Fx.okL [] (by kernel_rfl) (fun K ρ => by kernel_rfl) (h37_9 N) ρ (novationhelp_Accs.l4 N) rfl fun n ρ' e d => by rw [e]; rfl
theorem h37 (N : Nat) (K) : (X37 N).top K = novationhelp_Accs.b N ((X37 N).kc K 9) := by kernel_rfl
theorem sum37 (N : Nat) : SumOk Tryz.prog 37 (S37 N) := Fx.ok1 (X37 N) tabok Tryz.func37 (by kernel_rfl) trivial [9] (fun K => by kernel_rfl) (h37 N) (by rw [o37_9]; rfl)

noncomputable def X47 (N : Nat) : Fx := ⟨26, tab, [], N, Tryz.f47, [.v LtI3, .v LtI3], [.v B], [⟨9, [(0, .v LtI3), (1, .v LtI3), (5, .v I)], [1, 1, 0, 1, 0, 0], []⟩], none⟩
noncomputable abbrev S47 (N : Nat) : Summ := (X47 N).S true (novationhelp_Rows N)
theorem h47_9 (N : Nat) (K ρ) : (X47 N).bd K ρ 9 = novationhelp_Rows.l4b N ((X47 N).kc ρ 9) := by kernel_rfl
theorem o47_9 (N : Nat) (ρ) : (X47 N).kc ((X47 N).sem ρ) 9 = novationhelp_Rows.l4 N N := Fx.okL [] (by kernel_rfl) (fun K ρ => by kernel_rfl) (h47_9 N) ρ (novationhelp_Rows.l4 N) rfl fun n ρ' e d => by rw [e]; rfl
theorem h47 (N : Nat) (K) : (X47 N).top K = novationhelp_Rows.b N ((X47 N).kc K 9) := by kernel_rfl
theorem sum47 (N : Nat) : SumOk Tryz.prog 47 (S47 N) := Fx.ok1 (X47 N) tabok Tryz.func47 (by kernel_rfl) trivial [9] (fun K => by kernel_rfl) (h47 N) (by rw [o47_9]; rfl)

noncomputable def X102 (N : Nat) : Fx := ⟨26, tab, [], N, Tryz.f102, [.v LtI3, .v LtI3], [.v B], [⟨9, [(0, .v LtI3), (1, .v LtI3), (5, .v I)], [1, 1, 0, 1, 0, 0], []⟩], none⟩
noncomputable abbrev S102 (N : Nat) : Summ := (X102 N).S true (novationhelp_Stock N)
theorem h102_9 (N : Nat) (K ρ) : (X102 N).bd K ρ 9 = novationhelp_Stock.l4b N ((X102 N).kc ρ 9) := by kernel_rfl
theorem o102_9 (N : Nat) (ρ) : (X102 N).kc ((X102 N).sem ρ) 9 = novationhelp_Stock.l4 N N := Fx.okL [] (by kernel_rfl) (fun K ρ => by kernel_rfl) (h102_9 N) ρ (novationhelp_Stock.l4 N) rfl fun n ρ' e d => by rw [e]; rfl
theorem h102 (N : Nat) (K) : (X102 N).top K = novationhelp_Stock.b N ((X102 N).kc K 9) := by kernel_rfl
theorem sum102 (N : Nat) : SumOk Tryz.prog 102 (S102 N) := Fx.ok1 (X102 N) tabok Tryz.func102 (by kernel_rfl) trivial [9] (fun K => by kernel_rfl) (h102 N) (by rw [o102_9]; rfl)

noncomputable def X48 (N : Nat) : Fx := ⟨26, tab, [], N, Tryz.f48, [.v LI, .v LI], [.v B], [⟨9, [(0, .v LI), (1, .v LI), (5, .v I)], [1, 1, 0, 1, 0, 0], []⟩], none⟩
noncomputable abbrev S48 (N : Nat) : Summ := (X48 N).S true (novationhelp_Ints N)
theorem h48_9 (N : Nat) (K ρ) : (X48 N).bd K ρ 9 = novationhelp_Ints.l4b N ((X48 N).kc ρ 9) := by kernel_rfl
theorem o48_9 (N : Nat) (ρ) : (X48 N).kc ((X48 N).sem ρ) 9 = novationhelp_Ints.l4 N N := Fx.okL [] (by kernel_rfl) (fun K ρ => by kernel_rfl) (h48_9 N) ρ (novationhelp_Ints.l4 N) rfl fun n ρ' e d => by rw [e]; rfl
theorem h48 (N : Nat) (K) : (X48 N).top K = novationhelp_Ints.b N ((X48 N).kc K 9) := by kernel_rfl
theorem sum48 (N : Nat) : SumOk Tryz.prog 48 (S48 N) := Fx.ok1 (X48 N) tabok Tryz.func48 (by kernel_rfl) trivial [9] (fun K => by kernel_rfl) (h48 N) (by rw [o48_9]; rfl)

noncomputable def X36 (N : Nat) : Fx := ⟨26, tab, [], N, Tryz.f36, [.v LtI6, .v LtI6], [.v B], [⟨9, [(0, .v LtI6), (1, .v LtI6), (5, .v I)], [1, 1, 0, 1, 0, 0], []⟩], none⟩
noncomputable abbrev S36 (N : Nat) : Summ := (X36 N).S true (novationhelp_Orders N)
theorem h36_9 (N : Nat) (K ρ) : (X36 N).bd K ρ 9 = novationhelp_Orders.l4b N ((X36 N).kc ρ 9) := by kernel_rfl
theorem o36_9 (N : Nat) (ρ) : (X36 N).kc ((X36 N).sem ρ) 9 = novationhelp_Orders.l4 N N := Fx.okL [] (by kernel_rfl) (fun K ρ => by kernel_rfl) (h36_9 N) ρ (novationhelp_Orders.l4 N) rfl fun n ρ' e d => by rw [e]; rfl
theorem h36 (N : Nat) (K) : (X36 N).top K = novationhelp_Orders.b N ((X36 N).kc K 9) := by kernel_rfl
theorem sum36 (N : Nat) : SumOk Tryz.prog 36 (S36 N) := Fx.ok1 (X36 N) tabok Tryz.func36 (by kernel_rfl) trivial [9] (fun K => by kernel_rfl) (h36 N) (by rw [o36_9]; rfl)

noncomputable def X41 (N : Nat) : Fx := ⟨45, tab, [(101, S101 N), (37, S37 N), (47, S47 N), (102, S102 N), (48, S48 N), (36, S36 N)], N, Tryz.f41, [.v tBook, .v tBook], [.v B], [], none⟩
noncomputable abbrev S41 (N : Nat) : Summ := (X41 N).S true (novationhelp_Book N)
theorem sum41 (N : Nat) : SumOk Tryz.prog 41 (S41 N) := Fx.ok0 (X41 N) tabok Tryz.func41 (by kernel_rfl) ⟨sum101 N, sum37 N, sum47 N, sum102 N, sum48 N, sum36 N, trivial⟩ (by kernel_rfl)

noncomputable def X30 (N : Nat) : Fx := ⟨63, tab, [(38, S38 N), (85, S85 N), (34, S34 N), (86, S86 N), (41, S41 N)], N, Tryz.f30, [.v tConfig, .v tBook, .v I, .v I], [.v B], [], none⟩
noncomputable abbrev S30 (N : Nat) : Summ := (X30 N).S true (novationlaw21_told N)
theorem env30 (N : Nat) : EnvOk Tryz.prog (X30 N).E := Fx.envOk (X30 N) tabok ⟨sum38 N, sum85 N, sum34 N, sum86 N, sum41 N, trivial⟩ (by kernel_rfl)
theorem run30 (N : Nat) : ∀ x, evF (X30 N).E (X30 N).fn (X30 N).args (X30 N).res x = uncA (X30 N).args (novationlaw21_told N) x := Fx.run0 (by kernel_rfl)
theorem sum30 (N : Nat) : SumOk Tryz.prog 30 (S30 N) := Fx.ok0 (X30 N) tabok Tryz.func30 (by kernel_rfl) ⟨sum38 N, sum85 N, sum34 N, sum86 N, sum41 N, trivial⟩ (by kernel_rfl)

noncomputable def X7 (N : Nat) : Fx := ⟨56, tab, [(29, S29 N), (30, S30 N)], N, Tryz.f7, [.v tConfig, .v tBook, .v I, .v I], [.v B], [], none⟩
noncomputable abbrev S7 (N : Nat) : Summ := (X7 N).S true (novationlaw21_WindAll N)
theorem env7 (N : Nat) : EnvOk Tryz.prog (X7 N).E := Fx.envOk (X7 N) tabok ⟨sum29 N, sum30 N, trivial⟩ (by kernel_rfl)
theorem run7 (N : Nat) : ∀ x, evF (X7 N).E (X7 N).fn (X7 N).args (X7 N).res x = uncA (X7 N).args (novationlaw21_WindAll N) x := Fx.run0 (by kernel_rfl)
theorem sum7 (N : Nat) : SumOk Tryz.prog 7 (S7 N) := Fx.ok0 (X7 N) tabok Tryz.func7 (by kernel_rfl) ⟨sum29 N, sum30 N, trivial⟩ (by kernel_rfl)

end VM.F
