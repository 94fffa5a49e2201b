/- A part of the proof of HedgeAll of layer 22: each function of the program does what its equation says; printed by a program. -/
import Derived.Test.YthpchkeghefokaaGreatText
import Derived.Test.YthpchkeghefokaaGreatVm7
import Derived.Test.YthpchkeghefokaaGreatProg
import Derived.KernelRfl
set_option linter.all false
namespace VM.F
open Go VM Go.Proofs
set_option linter.unusedVariables false
set_option linter.unusedSimpArgs false
set_option maxRecDepth 100000
abbrev I : Ty := .int .i64
abbrev U : Ty := .int .u64
abbrev B : Ty := .bool
abbrev Z : Ty := .str
abbrev LterrorString : Ty := .slice terrorString
abbrev LterrorAddressString : Ty := .slice terrorAddressString
abbrev LtI2 : Ty := .slice tI2
abbrev LtWide : Ty := .slice tWide
abbrev LtBig : Ty := .slice tBig
abbrev LtI3 : Ty := .slice tI3
abbrev LtboundsError : Ty := .slice tboundsError
abbrev LtI4 : Ty := .slice tI4
abbrev LtEntry : Ty := .slice tEntry
abbrev LtI5 : Ty := .slice tI5
abbrev LtPart : Ty := .slice tPart
abbrev LtI6 : Ty := .slice tI6
abbrev LtLot : Ty := .slice tLot
abbrev LtConfig : Ty := .slice tConfig
abbrev LtBook : Ty := .slice tBook
abbrev LI : Ty := .slice I
abbrev LU : Ty := .slice U
def tab : List (Nat × Ty) := [(2, I), (3, I), (4, B), (5, (.int .u8)), (9, Z), (22, LtI4), (24, tConfig), (25, LtI2), (26, LtI4), (27, LtI3), (28, LtI3), (29, LI), (30, LtI6), (32, tBook), (35, LtI2), (39, LtI5), (41, I), (47, tI6), (50, tI4), (60, tI2), (63, U), (65, tWide), (70, tI5), (71, LtEntry), (83, tI3), (85, tI4), (90, LtPart), (93, LU), (95, tBig), (107, LtWide), (110, LtI4), (116, LtBig), (121, tI2), (123, tI4), (125, tI3), (141, U), (151, LtI3), (152, tI3), (159, LtI3), (164, LI), (181, tEntry), (183, tPart), (220, (.arr 2 I)), (229, tI3), (275, (.arr 13 B))]
theorem tabok : TabOk Tryz.prog tab := ⟨by kernel_rfl, by kernel_rfl⟩
section
variable (N : Nat)
noncomputable abbrev Ssub64 : Summ := sub64.S N
noncomputable abbrev Sadd64 : Summ := add64.S N
theorem sumadd64 : SumOk Tryz.prog 160 (Sadd64 N) := add64_sum N Tryz.func160 (by kernel_rfl) (by kernel_rfl) (by kernel_rfl) (by kernel_rfl)
theorem sumsub64 : SumOk Tryz.prog 224 (Ssub64 N) := sub64_sum N Tryz.func224 (by kernel_rfl) (by kernel_rfl) (by kernel_rfl) (by kernel_rfl)
noncomputable abbrev Sclo_185 : Summ := cloneS (.pair (.int .i64) (.pair (.int .i64) .unit)) N
noncomputable def clo_185.ren : Go.Shelf.Ren := { f := fun i => 0, t := fun i => cond (Nat.beq i 3) 121 (cond (Nat.beq i 4) 4 25), g := fun _ => 0 }
theorem clo_185.lays : CloP Tryz.prog (.pair (.int .i64) (.pair (.int .i64) .unit)) clo_185.ren 185 Tryz.f185 := ⟨Tryz.func185.trans (by kernel_rfl), Tryz.underlying4, Tryz.underlying25, layB_ok (x := .inl 121) (by kernel_rfl), by decide, by kernel_rfl⟩
theorem sumclo_185 : SumOk Tryz.prog 185 (Sclo_185 N) := clone_sum clo_185.lays (by kernel_rfl) (by kernel_rfl) N
noncomputable abbrev Sclo_186 : Summ := cloneS (.pair (.int .i64) (.pair (.int .i64) (.pair (.int .i64) (.pair (.int .i64) .unit)))) N
noncomputable def clo_186.ren : Go.Shelf.Ren := { f := fun i => 0, t := fun i => cond (Nat.beq i 3) 123 (cond (Nat.beq i 4) 4 26), g := fun _ => 0 }
theorem clo_186.lays : CloP Tryz.prog (.pair (.int .i64) (.pair (.int .i64) (.pair (.int .i64) (.pair (.int .i64) .unit)))) clo_186.ren 186 Tryz.f186 := ⟨Tryz.func186.trans (by kernel_rfl), Tryz.underlying4, Tryz.underlying26, layB_ok (x := .inl 123) (by kernel_rfl), by decide, by kernel_rfl⟩
theorem sumclo_186 : SumOk Tryz.prog 186 (Sclo_186 N) := clone_sum clo_186.lays (by kernel_rfl) (by kernel_rfl) N
noncomputable abbrev Sclo_187 : Summ := cloneS (.pair (.int .i64) (.pair (.int .i64) (.pair (.int .i64) .unit))) N
noncomputable def clo_187.ren : Go.Shelf.Ren := { f := fun i => 0, t := fun i => cond (Nat.beq i 3) 83 (cond (Nat.beq i 4) 4 27), g := fun _ => 0 }
theorem clo_187.lays : CloP Tryz.prog (.pair (.int .i64) (.pair (.int .i64) (.pair (.int .i64) .unit))) clo_187.ren 187 Tryz.f187 := ⟨Tryz.func187.trans (by kernel_rfl), Tryz.underlying4, Tryz.underlying27, layB_ok (x := .inl 83) (by kernel_rfl), by decide, by kernel_rfl⟩
theorem sumclo_187 : SumOk Tryz.prog 187 (Sclo_187 N) := clone_sum clo_187.lays (by kernel_rfl) (by kernel_rfl) N
noncomputable abbrev Sclo_188 : Summ := cloneS (.pair (.int .i64) (.pair (.int .i64) (.pair (.int .i64) .unit))) N
noncomputable def clo_188.ren : Go.Shelf.Ren := { f := fun i => 0, t := fun i => cond (Nat.beq i 3) 125 (cond (Nat.beq i 4) 4 28), g := fun _ => 0 }
theorem clo_188.lays : CloP Tryz.prog (.pair (.int .i64) (.pair (.int .i64) (.pair (.int .i64) .unit))) clo_188.ren 188 Tryz.f188 := ⟨Tryz.func188.trans (by kernel_rfl), Tryz.underlying4, Tryz.underlying28, layB_ok (x := .inl 125) (by kernel_rfl), by decide, by kernel_rfl⟩
theorem sumclo_188 : SumOk Tryz.prog 188 (Sclo_188 N) := clone_sum clo_188.lays (by kernel_rfl) (by kernel_rfl) N
noncomputable abbrev Sclo_189 : Summ := cloneS (.int .i64) N
noncomputable def clo_189.ren : Go.Shelf.Ren := { f := fun i => 0, t := fun i => cond (Nat.beq i 3) 2 (cond (Nat.beq i 4) 4 29), g := fun _ => 0 }
theorem clo_189.lays : CloP Tryz.prog (.int .i64) clo_189.ren 189 Tryz.f189 := ⟨Tryz.func189.trans (by kernel_rfl), Tryz.underlying4, Tryz.underlying29, layB_ok (x := .inl 2) (by kernel_rfl), by decide, by kernel_rfl⟩
theorem sumclo_189 : SumOk Tryz.prog 189 (Sclo_189 N) := clone_sum clo_189.lays (by kernel_rfl) (by kernel_rfl) N
noncomputable abbrev Sclo_190 : Summ := cloneS (.pair (.int .i64) (.pair (.int .i64) (.pair (.int .i64) (.pair (.int .i64) (.pair (.int .i64) (.pair (.int .i64) .unit)))))) N
noncomputable def clo_190.ren : Go.Shelf.Ren := { f := fun i => 0, t := fun i => cond (Nat.beq i 3) 47 (cond (Nat.beq i 4) 4 30), g := fun _ => 0 }
theorem clo_190.lays : CloP Tryz.prog (.pair (.int .i64) (.pair (.int .i64) (.pair (.int .i64) (.pair (.int .i64) (.pair (.int .i64) (.pair (.int .i64) .unit)))))) clo_190.ren 190 Tryz.f190 := ⟨Tryz.func190.trans (by kernel_rfl), Tryz.underlying4, Tryz.underlying30, layB_ok (x := .inl 47) (by kernel_rfl), by decide, by kernel_rfl⟩
theorem sumclo_190 : SumOk Tryz.prog 190 (Sclo_190 N) := clone_sum clo_190.lays (by kernel_rfl) (by kernel_rfl) N
noncomputable abbrev Sins_212 : Summ := insertS (.pair (.int .i64) (.pair (.int .i64) (.pair (.int .i64) .unit))) N
noncomputable def ins_212.ren : Go.Shelf.Ren := { f := fun i => cond (Nat.beq i 29) 241 (cond (Nat.beq i 30) 242 0), t := fun i => cond (Nat.beq i 24) 159 (cond (Nat.beq i 9) 229 (cond (Nat.beq i 3) 3 (cond (Nat.beq i 4) 4 0))), g := fun _ => 0 }
theorem ins_212.lays : InsP Tryz.prog (.pair (.int .i64) (.pair (.int .i64) (.pair (.int .i64) .unit))) ins_212.ren 212 Tryz.f212 Tryz.f241 := ⟨Tryz.func212.trans (by kernel_rfl), Tryz.underlying3, Tryz.underlying4, Tryz.underlying159, layB_ok (x := .inl 229) (by kernel_rfl), by decide, by kernel_rfl⟩
theorem sumins_212 : SumOk Tryz.prog 212 (Sins_212 N) := insert_sum ins_212.lays ⟨Tryz.func241, by kernel_rfl, by kernel_rfl, by kernel_rfl, by kernel_rfl⟩ (by kernel_rfl) (by kernel_rfl) N
noncomputable abbrev Sins_230 : Summ := insertS (.pair (.int .i64) (.pair (.int .i64) (.pair (.int .i64) .unit))) N
noncomputable def ins_230.ren : Go.Shelf.Ren := { f := fun i => cond (Nat.beq i 29) 249 (cond (Nat.beq i 30) 250 0), t := fun i => cond (Nat.beq i 24) 28 (cond (Nat.beq i 9) 125 (cond (Nat.beq i 3) 3 (cond (Nat.beq i 4) 4 0))), g := fun _ => 0 }
theorem ins_230.lays : InsP Tryz.prog (.pair (.int .i64) (.pair (.int .i64) (.pair (.int .i64) .unit))) ins_230.ren 230 Tryz.f230 Tryz.f249 := ⟨Tryz.func230.trans (by kernel_rfl), Tryz.underlying3, Tryz.underlying4, Tryz.underlying28, layB_ok (x := .inl 125) (by kernel_rfl), by decide, by kernel_rfl⟩
theorem sumins_230 : SumOk Tryz.prog 230 (Sins_230 N) := insert_sum ins_230.lays ⟨Tryz.func249, by kernel_rfl, by kernel_rfl, by kernel_rfl, by kernel_rfl⟩ (by kernel_rfl) (by kernel_rfl) N
noncomputable abbrev Sins_232 : Summ := insertS (.pair (.int .i64) (.pair (.int .i64) (.pair (.int .i64) .unit))) N
noncomputable def ins_232.ren : Go.Shelf.Ren := { f := fun i => cond (Nat.beq i 29) 251 (cond (Nat.beq i 30) 252 0), t := fun i => cond (Nat.beq i 24) 27 (cond (Nat.beq i 9) 83 (cond (Nat.beq i 3) 3 (cond (Nat.beq i 4) 4 0))), g := fun _ => 0 }
theorem ins_232.lays : InsP Tryz.prog (.pair (.int .i64) (.pair (.int .i64) (.pair (.int .i64) .unit))) ins_232.ren 232 Tryz.f232 Tryz.f251 := ⟨Tryz.func232.trans (by kernel_rfl), Tryz.underlying3, Tryz.underlying4, Tryz.underlying27, layB_ok (x := .inl 83) (by kernel_rfl), by decide, by kernel_rfl⟩
theorem sumins_232 : SumOk Tryz.prog 232 (Sins_232 N) := insert_sum ins_232.lays ⟨Tryz.func251, by kernel_rfl, by kernel_rfl, by kernel_rfl, by kernel_rfl⟩ (by kernel_rfl) (by kernel_rfl) N
noncomputable def X63 : Fx := ⟨24, tab, [], N, Tryz.f63, [], [.v tConfig, .v tBook], [], none⟩
noncomputable abbrev S63 : Summ := (X63 N).S false (F63 N)
theorem env63 : EnvOk Tryz.prog (X63 N).E := Fx.envOk (X63 N) tabok trivial (by kernel_rfl)
theorem run63 : ∀ x, evF (X63 N).E (X63 N).fn (X63 N).args (X63 N).res x = uncA (X63 N).args (F63 N) x := Fx.run0 (by kernel_rfl)
theorem sum63 : SumOk Tryz.prog 63 (S63 N) := Fx.ok0 (X63 N) tabok Tryz.func63 (by kernel_rfl) trivial (by kernel_rfl)

noncomputable def X117 : Fx := ⟨15, tab, [], N, Tryz.f117, [.v I, .v I, .v I], [.v B], [], none⟩
noncomputable abbrev S117 : Summ := (X117 N).S true (F117 N)
theorem sum117 : SumOk Tryz.prog 117 (S117 N) := Fx.ok0 (X117 N) tabok Tryz.func117 (by kernel_rfl) trivial (by kernel_rfl)

noncomputable def X40 : Fx := ⟨68, tab, [(117, S117 N)], N, Tryz.f40, [.v tConfig], [.v B], [⟨9, [(1, .obj tConfig), (11, .v LtI4), (12, .v I), (13, .v I)], [1, 1, 0, 1, 0, 0], []⟩], none⟩
noncomputable abbrev S40 : Summ := (X40 N).S true (F40 N)
theorem h40_9 (K ρ) : (X40 N).bd K ρ 9 = F40.l4b N ((X40 N).kc ρ 9) := by kernel_rfl
theorem o40_9 (ρ) : (X40 N).kc ((X40 N).sem ρ) 9 = F40.l4 N N := Fx.okL [] (by kernel_rfl) (fun K ρ => by kernel_rfl) (h40_9 N) ρ (F40.l4 N) rfl fun n ρ' e d => by rw [e]; rfl
theorem h40 (K) : (X40 N).top K = F40.b N ((X40 N).kc K 9) := by kernel_rfl
theorem sum40 : SumOk Tryz.prog 40 (S40 N) := Fx.ok1 (X40 N) tabok Tryz.func40 (by kernel_rfl) ⟨sum117 N, trivial⟩ [9] (fun K => by kernel_rfl) (h40 N) (by rw [o40_9]; rfl)

noncomputable def X184 : Fx := ⟨46, tab, [], N, Tryz.f184, [.v LtI2], [.v B], [⟨5, [(0, .v LtI2), (5, .v LtI2), (6, .v I), (7, .v I)], [1, 0, 1, 0, 0], []⟩], none⟩
noncomputable abbrev S184 : Summ := (X184 N).S true (F184 N)
theorem h184_5 (K ρ) : (X184 N).bd K ρ 5 = F184.l2b N ((X184 N).kc ρ 5) := by kernel_rfl
theorem o184_5 (ρ) : (X184 N).kc ((X184 N).sem ρ) 5 = F184.l2 N N := Fx.okL [] (by kernel_rfl) (fun K ρ => by kernel_rfl) (h184_5 N) ρ (F184.l2 N) rfl fun n ρ' e d => by rw [e]; rfl
theorem h184 (K) : (X184 N).top K = F184.b N ((X184 N).kc K 5) := by kernel_rfl
theorem sum184 : SumOk Tryz.prog 184 (S184 N) := Fx.ok1 (X184 N) tabok Tryz.func184 (by kernel_rfl) trivial [5] (fun K => by kernel_rfl) (h184 N) (by rw [o184_5]; rfl)

noncomputable def X194 : Fx := ⟨77, tab, [], N, Tryz.f194, [.v LtI4], [.v B], [⟨7, [(0, .v LtI4), (3, .obj (.arr 13 B)), (6, .v LtI4), (7, .v I), (8, .v I)], [1, 1, 0, 1, 0, 0], []⟩], none⟩
noncomputable abbrev S194 : Summ := (X194 N).S true (F194 N)
theorem h194_7 (K ρ) : (X194 N).bd K ρ 7 = F194.l3b N ((X194 N).kc ρ 7) := by kernel_rfl
theorem o194_7 (ρ) : (X194 N).kc ((X194 N).sem ρ) 7 = F194.l3 N N := Fx.okL [] (by kernel_rfl) (fun K ρ => by kernel_rfl) (h194_7 N) ρ (F194.l3 N) rfl fun n ρ' e d => by rw [e]; rfl
theorem h194 (K) : (X194 N).top K = F194.b N ((X194 N).kc K 7) := by kernel_rfl
theorem sum194 : SumOk Tryz.prog 194 (S194 N) := Fx.ok1 (X194 N) tabok Tryz.func194 (by kernel_rfl) trivial [7] (fun K => by kernel_rfl) (h194 N) (by rw [o194_7]; rfl)

noncomputable def X104 : Fx := ⟨23, tab, [(184, S184 N)], N, Tryz.f104, [.v LtI2, .v I], [.v I], [⟨9, [(1, .v I), (10, .v LtI2), (11, .v I), (12, .v I)], [1, 1, 0, 1, 0, 0], []⟩], none⟩
noncomputable abbrev S104 : Summ := (X104 N).S true (F104 N)
theorem h104_9 (K ρ) : (X104 N).bd K ρ 9 = F104.l4b N ((X104 N).kc ρ 9) := by kernel_rfl
theorem o104_9 (ρ) : (X104 N).kc ((X104 N).sem ρ) 9 = F104.l4 N N := Fx.okL [] (by kernel_rfl) (fun K ρ => by kernel_rfl) (h104_9 N) ρ (F104.l4 N) rfl fun n ρ' e d => by rw [e]; rfl
theorem h104 (K) : (X104 N).top K = F104.b N ((X104 N).kc K 9) := by kernel_rfl
theorem sum104 : SumOk Tryz.prog 104 (S104 N) := Fx.ok1 (X104 N) tabok Tryz.func104 (by kernel_rfl) ⟨sum184 N, trivial⟩ [9] (fun K => by kernel_rfl) (h104 N) (by rw [o104_9]; rfl)

noncomputable def X110 : Fx := ⟨27, tab, [(184, S184 N), (194, S194 N), (104, S104 N)], N, Tryz.f110, [.v LtI2, .v LtI4], [.v B], [⟨9, [(0, .v LtI2), (15, .v LtI4), (16, .v I), (17, .v I)], [1, 1, 0, 1, 0, 0], []⟩], none⟩
noncomputable abbrev S110 : Summ := (X110 N).S true (F110 N)
theorem h110_9 (K ρ) : (X110 N).bd K ρ 9 = F110.l4b N ((X110 N).kc ρ 9) := by kernel_rfl
theorem o110_9 (ρ) : (X110 N).kc ((X110 N).sem ρ) 9 = F110.l4 N N := Fx.okL [] (by kernel_rfl) (fun K ρ => by kernel_rfl) (h110_9 N) ρ (F110.l4 N) rfl fun n ρ' e d => by rw [e]; rfl
theorem h110 (K) : (X110 N).top K = F110.b N ((X110 N).kc K 9) := by kernel_rfl
theorem sum110 : SumOk Tryz.prog 110 (S110 N) := Fx.ok1 (X110 N) tabok Tryz.func110 (by kernel_rfl) ⟨sum184 N, sum194 N, sum104 N, trivial⟩ [9] (fun K => by kernel_rfl) (h110 N) (by rw [o110_9]; rfl)

noncomputable def X196 : Fx := ⟨30, tab, [], N, Tryz.f196, [.v I, .v I], [.v B], [], none⟩
noncomputable abbrev S196 : Summ := (X196 N).S true (F196 N)
theorem sum196 : SumOk Tryz.prog 196 (S196 N) := Fx.ok0 (X196 N) tabok Tryz.func196 (by kernel_rfl) trivial (by kernel_rfl)

noncomputable def X197 : Fx := ⟨19, tab, [], N, Tryz.f197, [.v I, .v I, .v tI3], [.v I], [], none⟩
noncomputable abbrev S197 : Summ := (X197 N).S true (F197 N)
theorem sum197 : SumOk Tryz.prog 197 (S197 N) := Fx.ok0 (X197 N) tabok Tryz.func197 (by kernel_rfl) trivial (by kernel_rfl)

noncomputable def X111 : Fx := ⟨41, tab, [(196, S196 N), (197, S197 N)], N, Tryz.f111, [.v LtI3], [.v B], [⟨5, [(0, .v LtI3), (5, .v LtI3), (6, .v I), (7, .v I)], [1, 0, 1, 0, 0], []⟩], none⟩
noncomputable abbrev S111 : Summ := (X111 N).S true (F111 N)
theorem h111_5 (K ρ) : (X111 N).bd K ρ 5 = F111.l2b N ((X111 N).kc ρ 5) := by kernel_rfl
theorem o111_5 (ρ) : (X111 N).kc ((X111 N).sem ρ) 5 = F111.l2 N N := Fx.okL [] (by kernel_rfl) (fun K ρ => by kernel_rfl) (h111_5 N) ρ (F111.l2 N) rfl fun n ρ' e d => by rw [e]; rfl
theorem h111 (K) : (X111 N).top K = F111.b N ((X111 N).kc K 5) := by kernel_rfl
theorem sum111 : SumOk Tryz.prog 111 (S111 N) := Fx.ok1 (X111 N) tabok Tryz.func111 (by kernel_rfl) ⟨sum196 N, sum197 N, trivial⟩ [5] (fun K => by kernel_rfl) (h111 N) (by rw [o111_5]; rfl)

noncomputable def X25 : Fx := ⟨8, tab, [], N, Tryz.f25, [.v I], [.v tWide], [], none⟩
noncomputable abbrev S25 : Summ := (X25 N).S true (F25 N)
theorem sum25 : SumOk Tryz.prog 25 (S25 N) := Fx.ok0 (X25 N) tabok Tryz.func25 (by kernel_rfl) trivial (by kernel_rfl)

noncomputable def X183 : Fx := ⟨51, tab, [(160, Sadd64 N)], N, Tryz.f183, [.v LtWide], [.v tWide, .v B], [⟨7, [(2, .obj tWide), (4, .v I), (5, .v U), (6, .v U), (10, .v LtWide), (11, .v I), (12, .v I)], [1, 1, 0, 1, 0, 0], []⟩], none⟩
noncomputable abbrev S183 : Summ := (X183 N).S true (F183 N)
theorem h183_7 (K ρ) : (X183 N).bd K ρ 7 = F183.l3b N ((X183 N).kc ρ 7) := by kernel_rfl
theorem o183_7 (ρ) : (X183 N).kc ((X183 N).sem ρ) 7 = F183.l3 N N := Fx.okL [] (by kernel_rfl) (fun K ρ => by kernel_rfl) (h183_7 N) ρ (F183.l3 N) rfl fun n ρ' e d => by rw [e]; rfl
theorem h183 (K) : (X183 N).top K = F183.b N ((X183 N).kc K 7) := by kernel_rfl
theorem sum183 : SumOk Tryz.prog 183 (S183 N) := Fx.ok1 (X183 N) tabok Tryz.func183 (by kernel_rfl) ⟨sumadd64 N, trivial⟩ [7] (fun K => by kernel_rfl) (h183 N) (by rw [o183_7]; rfl)

noncomputable def X112 : Fx := ⟨31, tab, [(111, S111 N), (25, S25 N), (183, S183 N)], N, Tryz.f112, [.v LtI3], [.v tWide], [⟨11, [(2, .obj tWide), (3, .own tWide), (12, .v LtI3), (13, .v I), (14, .v I)], [1, 1, 1, 0, 1, 0, 0], []⟩], none⟩
noncomputable abbrev S112 : Summ := (X112 N).S true (F112 N)
theorem h112_11 (K ρ) : (X112 N).bd K ρ 11 = F112.l5b N ((X112 N).kc ρ 11) := by kernel_rfl
theorem o112_11 (ρ) : (X112 N).kc ((X112 N).sem ρ) 11 = F112.l5 N N := Fx.okL [] (by kernel_rfl) (fun K ρ => by kernel_rfl) (h112_11 N) ρ (F112.l5 N) rfl fun n ρ' e d => by rw [e]; rfl
theorem h112 (K) : (X112 N).top K = F112.b N ((X112 N).kc K 11) := by kernel_rfl
theorem sum112 : SumOk Tryz.prog 112 (S112 N) := Fx.ok1 (X112 N) tabok Tryz.func112 (by kernel_rfl) ⟨sum111 N, sum25 N, sum183 N, trivial⟩ [11] (fun K => by kernel_rfl) (h112 N) (by rw [o112_11]; rfl)

noncomputable def X82 : Fx := ⟨27, tab, [], N, Tryz.f82, [.v tWide, .v tWide], [.v I], [], none⟩
noncomputable abbrev S82 : Summ := (X82 N).S true (F82 N)
theorem sum82 : SumOk Tryz.prog 82 (S82 N) := Fx.ok0 (X82 N) tabok Tryz.func82 (by kernel_rfl) trivial (by kernel_rfl)

noncomputable def X81 : Fx := ⟨6, tab, [(82, S82 N)], N, Tryz.f81, [.v tWide], [.v I], [], none⟩
noncomputable abbrev S81 : Summ := (X81 N).S true (F81 N)
theorem sum81 : SumOk Tryz.prog 81 (S81 N) := Fx.ok0 (X81 N) tabok Tryz.func81 (by kernel_rfl) ⟨sum82 N, trivial⟩ (by kernel_rfl)

noncomputable def X218 : Fx := ⟨19, tab, [], N, Tryz.f218, [.v I, .v I], [.v B], [], none⟩
noncomputable abbrev S218 : Summ := (X218 N).S true (F218 N)
theorem sum218 : SumOk Tryz.prog 218 (S218 N) := Fx.ok0 (X218 N) tabok Tryz.func218 (by kernel_rfl) trivial (by kernel_rfl)

noncomputable def X166 : Fx := ⟨5, tab, [], N, Tryz.f166, [.v I], [.v B], [], none⟩
noncomputable abbrev S166 : Summ := (X166 N).S true (F166 N)
theorem sum166 : SumOk Tryz.prog 166 (S166 N) := Fx.ok0 (X166 N) tabok Tryz.func166 (by kernel_rfl) trivial (by kernel_rfl)

noncomputable def X219 : Fx := ⟨19, tab, [], N, Tryz.f219, [.v I, .v I, .v tI3], [.v I], [], none⟩
noncomputable abbrev S219 : Summ := (X219 N).S true (F219 N)
theorem sum219 : SumOk Tryz.prog 219 (S219 N) := Fx.ok0 (X219 N) tabok Tryz.func219 (by kernel_rfl) trivial (by kernel_rfl)

noncomputable def X159 : Fx := ⟨47, tab, [(218, S218 N), (166, S166 N), (219, S219 N)], N, Tryz.f159, [.v LtI3], [.v B], [⟨5, [(0, .v LtI3), (5, .v LtI3), (6, .v I), (7, .v I)], [1, 0, 1, 0, 0], []⟩], none⟩
noncomputable abbrev S159 : Summ := (X159 N).S true (F159 N)
theorem h159_5 (K ρ) : (X159 N).bd K ρ 5 = F159.l2b N ((X159 N).kc ρ 5) := by kernel_rfl
theorem o159_5 (ρ) : (X159 N).kc ((X159 N).sem ρ) 5 = F159.l2 N N := Fx.okL [] (by kernel_rfl) (fun K ρ => by kernel_rfl) (h159_5 N) ρ (F159.l2 N) rfl fun n ρ' e d => by rw [e]; rfl
theorem h159 (K) : (X159 N).top K = F159.b N ((X159 N).kc K 5) := by kernel_rfl
theorem sum159 : SumOk Tryz.prog 159 (S159 N) := Fx.ok1 (X159 N) tabok Tryz.func159 (by kernel_rfl) ⟨sum218 N, sum166 N, sum219 N, trivial⟩ [5] (fun K => by kernel_rfl) (h159 N) (by rw [o159_5]; rfl)

noncomputable def X198 : Fx := ⟨37, tab, [(159, S159 N), (25, S25 N), (183, S183 N)], N, Tryz.f198, [.v LtI3, .v I], [.v tWide], [⟨11, [(1, .v I), (4, .obj tWide), (5, .own tWide), (14, .v LtI3), (15, .v I), (16, .v I)], [1, 1, 1, 0, 1, 0, 0], []⟩], none⟩
noncomputable abbrev S198 : Summ := (X198 N).S true (F198 N)
theorem h198_11 (K ρ) : (X198 N).bd K ρ 11 = F198.l5b N ((X198 N).kc ρ 11) := by kernel_rfl
theorem o198_11 (ρ) : (X198 N).kc ((X198 N).sem ρ) 11 = F198.l5 N N := Fx.okL [] (by kernel_rfl) (fun K ρ => by kernel_rfl) (h198_11 N) ρ (F198.l5 N) rfl fun n ρ' e d => by rw [e]; rfl
theorem h198 (K) : (X198 N).top K = F198.b N ((X198 N).kc K 11) := by kernel_rfl
theorem sum198 : SumOk Tryz.prog 198 (S198 N) := Fx.ok1 (X198 N) tabok Tryz.func198 (by kernel_rfl) ⟨sum159 N, sum25 N, sum183 N, trivial⟩ [11] (fun K => by kernel_rfl) (h198 N) (by rw [o198_11]; rfl)

noncomputable def X113 : Fx := ⟨15, tab, [(198, S198 N), (81, S81 N), (159, S159 N)], N, Tryz.f113, [.v LtI3], [.v B], [⟨5, [(0, .v LtI3), (4, .v I)], [1, 0, 1, 0, 0], []⟩], none⟩
noncomputable abbrev S113 : Summ := (X113 N).S true (F113 N)
theorem h113_5 (K ρ) : (X113 N).bd K ρ 5 = F113.l2b N ((X113 N).kc ρ 5) := by kernel_rfl
theorem o113_5 (ρ) : (X113 N).kc ((X113 N).sem ρ) 5 = F113.l2 N N := Fx.okL [] (by kernel_rfl) (fun K ρ => by kernel_rfl) (h113_5 N) ρ (F113.l2 N) rfl fun n ρ' e d => by rw [e]; rfl
theorem h113 (K) : (X113 N).top K = F113.b N ((X113 N).kc K 5) := by kernel_rfl
theorem sum113 : SumOk Tryz.prog 113 (S113 N) := Fx.ok1 (X113 N) tabok Tryz.func113 (by kernel_rfl) ⟨sum198 N, sum81 N, sum159 N, trivial⟩ [5] (fun K => by kernel_rfl) (h113 N) (by rw [o113_5]; rfl)

noncomputable def X143 : Fx := ⟨61, tab, [], N, Tryz.f143, [.v tI6], [.v B], [], none⟩
noncomputable abbrev S143 : Summ := (X143 N).S true (F143 N)
theorem sum143 : SumOk Tryz.prog 143 (S143 N) := Fx.ok0 (X143 N) tabok Tryz.func143 (by kernel_rfl) trivial (by kernel_rfl)

noncomputable def X114 : Fx := ⟨34, tab, [(143, S143 N)], N, Tryz.f114, [.v LtI6], [.v B], [⟨5, [(0, .v LtI6), (5, .v LtI6), (6, .v I), (7, .v I)], [1, 0, 1, 0, 0], []⟩], none⟩
noncomputable abbrev S114 : Summ := (X114 N).S true (F114 N)
theorem h114_5 (K ρ) : (X114 N).bd K ρ 5 = F114.l2b N ((X114 N).kc ρ 5) := by kernel_rfl
theorem o114_5 (ρ) : (X114 N).kc ((X114 N).sem ρ) 5 = F114.l2 N N := Fx.okL [] (by kernel_rfl) (fun K ρ => by kernel_rfl) (h114_5 N) ρ (F114.l2 N) rfl fun n ρ' e d => by rw [e]; rfl
theorem h114 (K) : (X114 N).top K = F114.b N ((X114 N).kc K 5) := by kernel_rfl
theorem sum114 : SumOk Tryz.prog 114 (S114 N) := Fx.ok1 (X114 N) tabok Tryz.func114 (by kernel_rfl) ⟨sum143 N, trivial⟩ [5] (fun K => by kernel_rfl) (h114 N) (by rw [o114_5]; rfl)

noncomputable def X139 : Fx := ⟨25, tab, [(194, S194 N)], N, Tryz.f139, [.v LtI4, .v I], [.v tI4, .v B], [⟨9, [(1, .v I), (4, .obj tI4), (12, .v LtI4), (13, .v I), (14, .v I)], [1, 1, 0, 1, 0, 0], []⟩], none⟩
noncomputable abbrev S139 : Summ := (X139 N).S true (F139 N)
theorem h139_9 (K ρ) : (X139 N).bd K ρ 9 = F139.l4b N ((X139 N).kc ρ 9) := by kernel_rfl
theorem o139_9 (ρ) : (X139 N).kc ((X139 N).sem ρ) 9 = F139.l4 N N := Fx.okL [] (by kernel_rfl) (fun K ρ => by kernel_rfl) (h139_9 N) ρ (F139.l4 N) rfl fun n ρ' e d => by rw [e]; rfl
theorem h139 (K) : (X139 N).top K = F139.b N ((X139 N).kc K 9) := by kernel_rfl
theorem sum139 : SumOk Tryz.prog 139 (S139 N) := Fx.ok1 (X139 N) tabok Tryz.func139 (by kernel_rfl) ⟨sum194 N, trivial⟩ [9] (fun K => by kernel_rfl) (h139 N) (by rw [o139_9]; rfl)

noncomputable def X97 : Fx := ⟨15, tab, [(139, S139 N)], N, Tryz.f97, [.v tBook, .v I], [.v B], [], none⟩
noncomputable abbrev S97 : Summ := (X97 N).S true (F97 N)
theorem sum97 : SumOk Tryz.prog 97 (S97 N) := Fx.ok0 (X97 N) tabok Tryz.func97 (by kernel_rfl) ⟨sum139 N, trivial⟩ (by kernel_rfl)

noncomputable def X100 : Fx := ⟨9, tab, [], N, Tryz.f100, [.v I], [.v B], [], none⟩
noncomputable abbrev S100 : Summ := (X100 N).S true (F100 N)
theorem sum100 : SumOk Tryz.prog 100 (S100 N) := Fx.ok0 (X100 N) tabok Tryz.func100 (by kernel_rfl) trivial (by kernel_rfl)

noncomputable def X116 : Fx := ⟨6, tab, [(100, S100 N)], N, Tryz.f116, [.v I], [.v B], [], none⟩
noncomputable abbrev S116 : Summ := (X116 N).S true (F116 N)
theorem sum116 : SumOk Tryz.prog 116 (S116 N) := Fx.ok0 (X116 N) tabok Tryz.func116 (by kernel_rfl) ⟨sum100 N, trivial⟩ (by kernel_rfl)

noncomputable def X199 : Fx := ⟨19, tab, [(116, S116 N)], N, Tryz.f199, [.v LI, .fn 116 .unit], [.v I], [⟨5, [(0, .v LI), (1, .fn 116 .unit), (7, .v I), (8, .v I)], [1, 0, 1, 0, 0], []⟩], none⟩
noncomputable abbrev S199 : Summ := (X199 N).S true (F199 N)
theorem h199_5 (K ρ) : (X199 N).bd K ρ 5 = F199.l2b N ((X199 N).kc ρ 5) := by kernel_rfl
theorem o199_5 (ρ) : (X199 N).kc ((X199 N).sem ρ) 5 = F199.l2 N N := Fx.okL [] (by kernel_rfl) (fun K ρ => by kernel_rfl) (h199_5 N) ρ (F199.l2 N) rfl fun n ρ' e d => by rw [e]; rfl
theorem h199 (K) : (X199 N).top K = F199.b N ((X199 N).kc K 5) := by kernel_rfl
theorem sum199 : SumOk Tryz.prog 199 (S199 N) := Fx.ok1 (X199 N) tabok Tryz.func199 (by kernel_rfl) ⟨sum116 N, trivial⟩ [5] (fun K => by kernel_rfl) (h199 N) (by rw [o199_5]; rfl)

noncomputable def X115 : Fx := ⟨9, tab, [(199, S199 N)], N, Tryz.f115, [.v LI, .fn 116 .unit], [.v B], [], none⟩
noncomputable abbrev S115 : Summ := (X115 N).S true (F115 N)
theorem sum115 : SumOk Tryz.prog 115 (S115 N) := Fx.ok0 (X115 N) tabok Tryz.func115 (by kernel_rfl) ⟨sum199 N, trivial⟩ (by kernel_rfl)

noncomputable def X39 : Fx := ⟨133, tab, [(40, S40 N), (110, S110 N), (111, S111 N), (112, S112 N), (81, S81 N), (113, S113 N), (114, S114 N), (97, S97 N), (104, S104 N), (115, S115 N)], N, Tryz.f39, [.v tConfig, .v tBook], [.v B], [⟨45, [(2, .obj tConfig), (3, .obj tBook), (109, .v LtI6), (110, .v I), (111, .v I)], [1, 1, 1, 1, 0, 1, 0, 0], []⟩, ⟨33, [(2, .obj tConfig), (3, .obj tBook), (83, .v LtI3), (84, .v I), (85, .v I)], [1, 1, 1, 0, 1, 0, 0], []⟩, ⟨9, [(2, .obj tConfig), (3, .obj tBook), (57, .v LtI3), (58, .v I), (59, .v I)], [1, 1, 0, 1, 0, 0], []⟩], none⟩
noncomputable abbrev S39 : Summ := (X39 N).S true (F39 N)
theorem h39_45 (K ρ) : (X39 N).bd K ρ 45 = F39.l22b N ((X39 N).kc ρ 45) := by kernel_rfl
theorem o39_45 (ρ) : (X39 N).kc ((X39 N).sem ρ) 45 = F39.l22 N N := Fx.okL [] (by kernel_rfl) (fun K ρ => by kernel_rfl) (h39_45 N) ρ (F39.l22 N) rfl fun n ρ' e d => by rw [e]; rfl
theorem h39_33 (K ρ) : (X39 N).bd K ρ 33 = F39.l16b N ((X39 N).kc K 45) ((X39 N).kc ρ 33) := by kernel_rfl
theorem o39_33 (ρ) : (X39 N).kc ((X39 N).sem ρ) 33 = F39.l16 N N := Fx.okL [45] (by kernel_rfl) (fun K ρ => by kernel_rfl) (h39_33 N) ρ (F39.l16 N) rfl fun n ρ' e d => by rw [o39_45, e]; rfl
theorem h39_9 (K ρ) : (X39 N).bd K ρ 9 = F39.l4b N ((X39 N).kc K 33) ((X39 N).kc ρ 9) := by kernel_rfl
theorem o39_9 (ρ) : (X39 N).kc ((X39 N).sem ρ) 9 = F39.l4 N N := Fx.okL [33, 45] (by kernel_rfl) (fun K ρ => by kernel_rfl) (h39_9 N) ρ (F39.l4 N) rfl fun n ρ' e d => by rw [o39_33, e]; rfl
theorem h39 (K) : (X39 N).top K = F39.b N ((X39 N).kc K 9) := by kernel_rfl
theorem sum39 : SumOk Tryz.prog 39 (S39 N) := Fx.ok1 (X39 N) tabok Tryz.func39 (by kernel_rfl) ⟨sum40 N, sum110 N, sum111 N, sum112 N, sum81 N, sum113 N, sum114 N, sum97 N, sum104 N, sum115 N, trivial⟩ [9, 33, 45] (fun K => by kernel_rfl) (h39 N) (by rw [o39_9]; rfl)

noncomputable def X73 : Fx := ⟨31, tab, [(159, S159 N)], N, Tryz.f73, [.v LtI3, .v I], [.own tI2], [⟨11, [(1, .v I), (5, .own tI2), (11, .v LtI3), (12, .v I), (13, .v I)], [1, 1, 1, 0, 1, 0, 0], []⟩], none⟩
noncomputable abbrev S73 : Summ := (X73 N).S false (F73 N)
theorem h73_11 (K ρ) : (X73 N).bd K ρ 11 = F73.l5b N ((X73 N).kc ρ 11) := by kernel_rfl
theorem o73_11 (ρ) : (X73 N).kc ((X73 N).sem ρ) 11 = F73.l5 N N := Fx.okL [] (by kernel_rfl) (fun K ρ => by kernel_rfl) (h73_11 N) ρ (F73.l5 N) rfl fun n ρ' e d => by rw [e]; rfl
theorem h73 (K) : (X73 N).top K = F73.b N ((X73 N).kc K 11) := by kernel_rfl
theorem sum73 : SumOk Tryz.prog 73 (S73 N) := Fx.ok1 (X73 N) tabok Tryz.func73 (by kernel_rfl) ⟨sum159 N, trivial⟩ [11] (fun K => by kernel_rfl) (h73 N) (by rw [o73_11]; rfl)

noncomputable def X75 : Fx := ⟨10, tab, [], N, Tryz.f75, [.v I], [.v U], [], none⟩
noncomputable abbrev S75 : Summ := (X75 N).S true (F75 N)
theorem sum75 : SumOk Tryz.prog 75 (S75 N) := Fx.ok0 (X75 N) tabok Tryz.func75 (by kernel_rfl) trivial (by kernel_rfl)

noncomputable def X167 : Fx := ⟨51, tab, [], N, Tryz.f167, [.v U, .v U], [.v U, .v U], [], none⟩
noncomputable abbrev S167 : Summ := (X167 N).S true (F167 N)
theorem sum167 : SumOk Tryz.prog 167 (S167 N) := Fx.ok0 (X167 N) tabok Tryz.func167 (by kernel_rfl) trivial (by kernel_rfl)

noncomputable def X168 : Fx := ⟨47, tab, [(224, Ssub64 N)], N, Tryz.f168, [.v B, .v U, .v U], [.v tWide, .v B], [⟨14, [(1, .v U), (2, .v U), (6, .obj tWide)], [1, 1, 1], []⟩], none⟩
noncomputable abbrev S168 : Summ := (X168 N).S true (F168 N)
theorem h168_14 (K ρ) : (X168 N).bd K ρ 14 = F168.j7b N := by kernel_rfl
theorem o168_14 (ρ) : (X168 N).kc ((X168 N).sem ρ) 14 = F168.j7 N := (Fx.okJ [] (by kernel_rfl) (fun K ρ => by kernel_rfl) (h168_14 N) ρ).trans rfl
theorem h168 (K) : (X168 N).top K = F168.b N ((X168 N).kc K 14) := by kernel_rfl
theorem sum168 : SumOk Tryz.prog 168 (S168 N) := Fx.ok1 (X168 N) tabok Tryz.func168 (by kernel_rfl) ⟨sumsub64 N, trivial⟩ [14] (fun K => by kernel_rfl) (h168 N) (by rw [o168_14]; rfl)

noncomputable def X83 : Fx := ⟨29, tab, [(75, S75 N), (167, S167 N), (168, S168 N)], N, Tryz.f83, [.v I, .v I], [.v tWide], [], none⟩
noncomputable abbrev S83 : Summ := (X83 N).S true (F83 N)
theorem sum83 : SumOk Tryz.prog 83 (S83 N) := Fx.ok0 (X83 N) tabok Tryz.func83 (by kernel_rfl) ⟨sum75 N, sum167 N, sum168 N, trivial⟩ (by kernel_rfl)

noncomputable def X74 : Fx := ⟨52, tab, [(160, Sadd64 N)], N, Tryz.f74, [.v tWide, .v tWide], [.v tWide, .v B], [], none⟩
noncomputable abbrev S74 : Summ := (X74 N).S true (F74 N)
theorem sum74 : SumOk Tryz.prog 74 (S74 N) := Fx.ok0 (X74 N) tabok Tryz.func74 (by kernel_rfl) ⟨sumadd64 N, trivial⟩ (by kernel_rfl)

noncomputable def X64 : Fx := ⟨52, tab, [(39, S39 N), (73, S73 N), (83, S83 N), (74, S74 N)], N, Tryz.f64, [.v tConfig, .v tBook], [.own tWide, .v I], [⟨11, [(2, .obj tConfig), (3, .obj tBook), (6, .own tWide), (17, .own tI2), (18, .v I), (19, .v I)], [1, 1, 1, 0, 1, 0, 0], []⟩], none⟩
noncomputable abbrev S64 : Summ := (X64 N).S false (F64 N)
theorem h64_11 (K ρ) : (X64 N).bd K ρ 11 = F64.l5b N ((X64 N).kc ρ 11) := by kernel_rfl
theorem o64_11 (ρ) : (X64 N).kc ((X64 N).sem ρ) 11 = F64.l5 N N := Fx.okL [] (by kernel_rfl) (fun K ρ => by kernel_rfl) (h64_11 N) ρ (F64.l5 N) rfl fun n ρ' e d => by rw [e]; rfl
theorem h64 (K) : (X64 N).top K = F64.b N ((X64 N).kc K 11) := by kernel_rfl
theorem sum64 : SumOk Tryz.prog 64 (S64 N) := Fx.ok1 (X64 N) tabok Tryz.func64 (by kernel_rfl) ⟨sum39 N, sum73 N, sum83 N, sum74 N, trivial⟩ [11] (fun K => by kernel_rfl) (h64 N) (by rw [o64_11]; rfl)

noncomputable def X165 : Fx := ⟨52, tab, [(224, Ssub64 N)], N, Tryz.f165, [.v tWide, .v tWide], [.v tWide, .v B], [], none⟩
noncomputable abbrev S165 : Summ := (X165 N).S true (F165 N)
theorem sum165 : SumOk Tryz.prog 165 (S165 N) := Fx.ok0 (X165 N) tabok Tryz.func165 (by kernel_rfl) ⟨sumsub64 N, trivial⟩ (by kernel_rfl)

noncomputable def X78 : Fx := ⟨9, tab, [(165, S165 N)], N, Tryz.f78, [.v tWide], [.v tWide, .v B], [], none⟩
noncomputable abbrev S78 : Summ := (X78 N).S true (F78 N)
theorem sum78 : SumOk Tryz.prog 78 (S78 N) := Fx.ok0 (X78 N) tabok Tryz.func78 (by kernel_rfl) ⟨sum165 N, trivial⟩ (by kernel_rfl)

noncomputable def X153 : Fx := ⟨12, tab, [(78, S78 N)], N, Tryz.f153, [.v tWide], [.v tWide, .v B], [], none⟩
noncomputable abbrev S153 : Summ := (X153 N).S true (F153 N)
theorem sum153 : SumOk Tryz.prog 153 (S153 N) := Fx.ok0 (X153 N) tabok Tryz.func153 (by kernel_rfl) ⟨sum78 N, trivial⟩ (by kernel_rfl)

noncomputable def X154 : Fx := ⟨29, tab, [(40, S40 N)], N, Tryz.f154, [.v tConfig, .v I], [.own I], [⟨11, [(1, .v I), (5, .own I), (12, .v LtI4), (13, .v I), (14, .v I)], [1, 1, 1, 0, 1, 0, 0], []⟩], none⟩
noncomputable abbrev S154 : Summ := (X154 N).S false (F154 N)
theorem h154_11 (K ρ) : (X154 N).bd K ρ 11 = F154.l5b N ((X154 N).kc ρ 11) := by kernel_rfl
theorem o154_11 (ρ) : (X154 N).kc ((X154 N).sem ρ) 11 = F154.l5 N N := Fx.okL [] (by kernel_rfl) (fun K ρ => by kernel_rfl) (h154_11 N) ρ (F154.l5 N) rfl fun n ρ' e d => by rw [e]; rfl
theorem h154 (K) : (X154 N).top K = F154.b N ((X154 N).kc K 11) := by kernel_rfl
theorem sum154 : SumOk Tryz.prog 154 (S154 N) := Fx.ok1 (X154 N) tabok Tryz.func154 (by kernel_rfl) ⟨sum40 N, trivial⟩ [11] (fun K => by kernel_rfl) (h154 N) (by rw [o154_11]; rfl)

noncomputable def X215 : Fx := ⟨32, tab, [(224, Ssub64 N)], N, Tryz.f215, [.v tWide], [.v U, .v U], [], none⟩
noncomputable abbrev S215 : Summ := (X215 N).S true (F215 N)
theorem sum215 : SumOk Tryz.prog 215 (S215 N) := Fx.ok0 (X215 N) tabok Tryz.func215 (by kernel_rfl) ⟨sumsub64 N, trivial⟩ (by kernel_rfl)

noncomputable def X256 : Fx := ⟨25, tab, [], N, Tryz.f256, [.v U], [.v I], [⟨14, [(0, .v U), (2, .v I)], [1, 1, 1], []⟩, ⟨8, [(0, .v U), (2, .v I)], [1, 1], []⟩], none⟩
noncomputable abbrev S256 : Summ := (X256 N).S true (F256 N)
theorem h256_14 (K ρ) : (X256 N).bd K ρ 14 = F256.j7b N := by kernel_rfl
theorem o256_14 (ρ) : (X256 N).kc ((X256 N).sem ρ) 14 = F256.j7 N := (Fx.okJ [] (by kernel_rfl) (fun K ρ => by kernel_rfl) (h256_14 N) ρ).trans rfl
theorem h256_8 (K ρ) : (X256 N).bd K ρ 8 = F256.j4b N ((X256 N).kc K 14) := by kernel_rfl
theorem o256_8 (ρ) : (X256 N).kc ((X256 N).sem ρ) 8 = F256.j4 N := (Fx.okJ [14] (by kernel_rfl) (fun K ρ => by kernel_rfl) (h256_8 N) ρ).trans (by rw [o256_14]; rfl)
theorem h256 (K) : (X256 N).top K = F256.b N ((X256 N).kc K 8) := by kernel_rfl
theorem sum256 : SumOk Tryz.prog 256 (S256 N) := Fx.ok1 (X256 N) tabok Tryz.func256 (by kernel_rfl) trivial [8, 14] (fun K => by kernel_rfl) (h256 N) (by rw [o256_8]; rfl)

noncomputable def X244 : Fx := ⟨6, tab, [(256, S256 N)], N, Tryz.f244, [.v U], [.v I], [], none⟩
noncomputable abbrev S244 : Summ := (X244 N).S true (F244 N)
theorem sum244 : SumOk Tryz.prog 244 (S244 N) := Fx.ok0 (X244 N) tabok Tryz.func244 (by kernel_rfl) ⟨sum256 N, trivial⟩ (by kernel_rfl)

noncomputable def X216 : Fx := ⟨135, tab, [(244, S244 N)], N, Tryz.f216, [.v U, .v U, .v U], [.v U, .v U], [⟨56, [(2, .v U), (8, .v U), (14, .v U), (15, .v U), (17, .v U), (18, .v U)], [1, 1, 1, 1, 1, 1, 1, 1, 1, 1, 1, 1, 1, 1, 1, 1, 1, 1, 1], []⟩, ⟨49, [(2, .v U), (8, .v U), (9, .v U), (10, .v U), (14, .v U), (15, .v U), (16, .v U), (17, .v U), (18, .v U)], [1, 1, 1, 1, 1, 1, 1, 1, 1, 1, 1, 1, 1, 1, 1, 1, 1, 1, 0, 0, 0], []⟩, ⟨42, [(2, .v U), (8, .v U), (9, .v U), (10, .v U), (11, .v U), (13, .v U), (14, .v U), (15, .v U)], [1, 1, 1, 1, 1, 1, 1, 1, 1, 1, 1, 1, 1, 1, 1], []⟩, ⟨35, [(2, .v U), (8, .v U), (9, .v U), (10, .v U), (11, .v U), (13, .v U), (14, .v U), (15, .v U), (16, .v U)], [1, 1, 1, 1, 1, 1, 1, 1, 1, 1, 1, 1, 1, 1, 0, 0, 0], []⟩], none⟩
noncomputable abbrev S216 : Summ := (X216 N).S true (F216 N)
theorem h216_56 (K ρ) : (X216 N).bd K ρ 56 = F216.j28b N := by kernel_rfl
theorem o216_56 (ρ) : (X216 N).kc ((X216 N).sem ρ) 56 = F216.j28 N := (Fx.okJ [] (by kernel_rfl) (fun K ρ => by kernel_rfl) (h216_56 N) ρ).trans rfl
theorem h216_49 (K ρ) : (X216 N).bd K ρ 49 = F216.l24b N ((X216 N).kc K 56) ((X216 N).kc ρ 49) := by kernel_rfl
theorem o216_49 (ρ) : (X216 N).kc ((X216 N).sem ρ) 49 = F216.l24 N N := Fx.okL [56] (by kernel_rfl) (fun K ρ => by kernel_rfl) (h216_49 N) ρ (F216.l24 N) rfl fun n ρ' e d => by rw [o216_56, e]; rfl
theorem h216_42 (K ρ) : (X216 N).bd K ρ 42 = F216.j21b N ((X216 N).kc K 49) := by kernel_rfl
theorem o216_42 (ρ) : (X216 N).kc ((X216 N).sem ρ) 42 = F216.j21 N := (Fx.okJ [49, 56] (by kernel_rfl) (fun K ρ => by kernel_rfl) (h216_42 N) ρ).trans (by rw [o216_49]; rfl)
theorem h216_35 (K ρ) : (X216 N).bd K ρ 35 = F216.l17b N ((X216 N).kc K 42) ((X216 N).kc ρ 35) := by kernel_rfl
theorem o216_35 (ρ) : (X216 N).kc ((X216 N).sem ρ) 35 = F216.l17 N N := Fx.okL [42, 49, 56] (by kernel_rfl) (fun K ρ => by kernel_rfl) (h216_35 N) ρ (F216.l17 N) rfl fun n ρ' e d => by rw [o216_42, e]; rfl
theorem h216 (K) : (X216 N).top K = F216.b N ((X216 N).kc K 35) := by kernel_rfl
theorem sum216 : SumOk Tryz.prog 216 (S216 N) := Fx.ok1 (X216 N) tabok Tryz.func216 (by kernel_rfl) ⟨sum244 N, trivial⟩ [35, 42, 49, 56] (fun K => by kernel_rfl) (h216 N) (by rw [o216_35]; rfl)

noncomputable def X155 : Fx := ⟨70, tab, [(215, S215 N), (216, S216 N), (160, Sadd64 N), (168, S168 N)], N, Tryz.f155, [.v tWide, .v I], [.v tWide, .v I, .v B], [⟨26, [(4, .obj tWide), (10, .v U), (11, .v U), (12, .v U)], [1, 1, 1, 1, 1, 1, 1, 1], []⟩], none⟩
noncomputable abbrev S155 : Summ := (X155 N).S true (F155 N)
theorem h155_26 (K ρ) : (X155 N).bd K ρ 26 = F155.j13b N := by kernel_rfl
theorem o155_26 (ρ) : (X155 N).kc ((X155 N).sem ρ) 26 = F155.j13 N := (Fx.okJ [] (by kernel_rfl) (fun K ρ => by kernel_rfl) (h155_26 N) ρ).trans rfl
theorem h155 (K) : (X155 N).top K = F155.b N ((X155 N).kc K 26) := by kernel_rfl
theorem sum155 : SumOk Tryz.prog 155 (S155 N) := Fx.ok1 (X155 N) tabok Tryz.func155 (by kernel_rfl) ⟨sum215 N, sum216 N, sumadd64 N, sum168 N, trivial⟩ [26] (fun K => by kernel_rfl) (h155 N) (by rw [o155_26]; rfl)

noncomputable def X79 : Fx := ⟨14, tab, [], N, Tryz.f79, [.v tWide], [.v I, .v B], [], none⟩
noncomputable abbrev S79 : Summ := (X79 N).S true (F79 N)
theorem sum79 : SumOk Tryz.prog 79 (S79 N) := Fx.ok0 (X79 N) tabok Tryz.func79 (by kernel_rfl) trivial (by kernel_rfl)

noncomputable def X65 : Fx := ⟨102, tab, [(64, S64 N), (153, S153 N), (25, S25 N), (82, S82 N), (154, S154 N), (155, S155 N), (79, S79 N), (81, S81 N)], N, Tryz.f65, [.v tConfig, .v tBook, .v I], [.own tI4, .v I], [⟨30, [(2, .v I), (3, .obj tConfig), (4, .obj tBook), (10, .own tI4), (12, .obj tWide), (15, .v I), (19, .v I), (38, .own tWide), (39, .v I), (40, .v I)], [1, 1, 1, 1, 0, 1, 0, 0, 1, 1, 0, 0, 1, 1, 1, 1, 1, 1, 1], [13]⟩, ⟨13, [(2, .v I), (3, .obj tConfig), (4, .obj tBook), (10, .own tI4), (38, .own tWide), (39, .v I), (40, .v I)], [1, 1, 1, 1, 0, 1, 0, 0], []⟩], none⟩
noncomputable abbrev S65 : Summ := (X65 N).S false (F65 N)
theorem h65_30 (K ρ) : (X65 N).bd K ρ 30 = F65.j15b N ((X65 N).kc ρ 13) := by kernel_rfl
theorem o65_30 (ρ) : (X65 N).kc ((X65 N).sem ρ) 30 = F65.j15 N ((X65 N).kc ρ 13) := (Fx.okJ [] (by kernel_rfl) (fun K ρ => by kernel_rfl) (h65_30 N) ρ).trans rfl
theorem h65_13 (K ρ) : (X65 N).bd K ρ 13 = F65.l6b N ((X65 N).kc K 30) ((X65 N).kc ρ 13) := by kernel_rfl
theorem o65_13 (ρ) : (X65 N).kc ((X65 N).sem ρ) 13 = F65.l6 N N := Fx.okL [30] (by kernel_rfl) (fun K ρ => by kernel_rfl) (h65_13 N) ρ (F65.l6 N) rfl fun n ρ' e d => by rw [o65_30, e]; rfl
theorem h65 (K) : (X65 N).top K = F65.b N ((X65 N).kc K 13) := by kernel_rfl
theorem sum65 : SumOk Tryz.prog 65 (S65 N) := Fx.ok1 (X65 N) tabok Tryz.func65 (by kernel_rfl) ⟨sum64 N, sum153 N, sum25 N, sum82 N, sum154 N, sum155 N, sum79 N, sum81 N, trivial⟩ [13] (fun K => by kernel_rfl) (h65 N) (by rw [o65_13]; rfl)

noncomputable def X156 : Fx := ⟨9, tab, [], N, Tryz.f156, [.v I], [.v B], [], none⟩
noncomputable abbrev S156 : Summ := (X156 N).S true (F156 N)
theorem sum156 : SumOk Tryz.prog 156 (S156 N) := Fx.ok0 (X156 N) tabok Tryz.func156 (by kernel_rfl) trivial (by kernel_rfl)

noncomputable def X67 : Fx := ⟨36, tab, [(156, S156 N)], N, Tryz.f67, [.v tI4], [.v B], [], none⟩
noncomputable abbrev S67 : Summ := (X67 N).S true (F67 N)
theorem sum67 : SumOk Tryz.prog 67 (S67 N) := Fx.ok0 (X67 N) tabok Tryz.func67 (by kernel_rfl) ⟨sum156 N, trivial⟩ (by kernel_rfl)

noncomputable def X103 : Fx := ⟨64, tab, [(114, S114 N)], N, Tryz.f103, [.v LtI6, .v I], [.own tI3], [⟨19, [(0, .v LtI6), (1, .v I), (5, .own tI3), (6, .v I), (7, .obj tI3), (13, .v I), (18, .v LtI6), (19, .v I), (20, .v I)], [1, 1, 1, 0, 1, 0, 0, 1, 1, 0, 0, 1, 1, 0, 1, 0, 0], [11]⟩, ⟨11, [(0, .v LtI6), (1, .v I), (5, .own tI3), (13, .v I)], [1, 1, 1, 0, 1, 0, 0], []⟩], none⟩
noncomputable abbrev S103 : Summ := (X103 N).S false (F103 N)
theorem h103_19 (K ρ) : (X103 N).bd K ρ 19 = F103.l9b N ((X103 N).kc ρ 11) ((X103 N).kc ρ 19) := by kernel_rfl
theorem o103_19 (ρ) : (X103 N).kc ((X103 N).sem ρ) 19 = F103.l9 N ((X103 N).kc ρ 11) N := Fx.okL [] (by kernel_rfl) (fun K ρ => by kernel_rfl) (h103_19 N) ρ (F103.l9 N ((X103 N).kc ρ 11)) rfl fun n ρ' e d => by rw [e, d 11 rfl]; rfl
theorem h103_11 (K ρ) : (X103 N).bd K ρ 11 = F103.l5b N ((X103 N).kc K 19) ((X103 N).kc ρ 11) := by kernel_rfl
theorem o103_11 (ρ) : (X103 N).kc ((X103 N).sem ρ) 11 = F103.l5 N N := Fx.okL [19] (by kernel_rfl) (fun K ρ => by kernel_rfl) (h103_11 N) ρ (F103.l5 N) rfl fun n ρ' e d => by rw [o103_19, e]; rfl
theorem h103 (K) : (X103 N).top K = F103.b N ((X103 N).kc K 11) := by kernel_rfl
theorem sum103 : SumOk Tryz.prog 103 (S103 N) := Fx.ok1 (X103 N) tabok Tryz.func103 (by kernel_rfl) ⟨sum114 N, trivial⟩ [11] (fun K => by kernel_rfl) (h103 N) (by rw [o103_11]; rfl)

noncomputable def X144 : Fx := ⟨67, tab, [(212, Sins_212 N)], N, Tryz.f144, [.own tI3, .v tI6], [.own tI3], [⟨12, [(0, .own tI3), (3, .obj tI6), (5, .v I)], [1, 1, 1, 1], []⟩, ⟨8, [(0, .own tI3), (3, .obj tI6), (5, .v I)], [1, 1, 1], []⟩, ⟨5, [(0, .own tI3), (3, .obj tI6), (5, .v I)], [1, 1, 0, 0, 0], []⟩], none⟩
noncomputable abbrev S144 : Summ := (X144 N).S false (F144 N)
theorem h144_12 (K ρ) : (X144 N).bd K ρ 12 = F144.j6b N := by kernel_rfl
theorem o144_12 (ρ) : (X144 N).kc ((X144 N).sem ρ) 12 = F144.j6 N := (Fx.okJ [] (by kernel_rfl) (fun K ρ => by kernel_rfl) (h144_12 N) ρ).trans rfl
theorem h144_8 (K ρ) : (X144 N).bd K ρ 8 = F144.j4b N ((X144 N).kc K 12) := by kernel_rfl
theorem o144_8 (ρ) : (X144 N).kc ((X144 N).sem ρ) 8 = F144.j4 N := (Fx.okJ [12] (by kernel_rfl) (fun K ρ => by kernel_rfl) (h144_8 N) ρ).trans (by rw [o144_12]; rfl)
theorem h144_5 (K ρ) : (X144 N).bd K ρ 5 = F144.l2b N ((X144 N).kc K 8) ((X144 N).kc ρ 5) := by kernel_rfl
theorem o144_5 (ρ) : (X144 N).kc ((X144 N).sem ρ) 5 = F144.l2 N N := Fx.okL [8, 12] (by kernel_rfl) (fun K ρ => by kernel_rfl) (h144_5 N) ρ (F144.l2 N) rfl fun n ρ' e d => by rw [o144_8, e]; rfl
theorem h144 (K) : (X144 N).top K = F144.b N ((X144 N).kc K 5) := by kernel_rfl
theorem sum144 : SumOk Tryz.prog 144 (S144 N) := Fx.ok1 (X144 N) tabok Tryz.func144 (by kernel_rfl) ⟨sumins_212 N, trivial⟩ [5, 8, 12] (fun K => by kernel_rfl) (h144 N) (by rw [o144_5]; rfl)

noncomputable def X80 : Fx := ⟨54, tab, [(166, S166 N), (40, S40 N)], N, Tryz.f80, [.v tConfig, .v LtI2], [.v B], [⟨5, [(1, .v LtI2), (2, .obj tConfig), (7, .v LtI2), (8, .v I), (9, .v I)], [1, 0, 1, 0, 0], []⟩], none⟩
noncomputable abbrev S80 : Summ := (X80 N).S true (F80 N)
theorem h80_5 (K ρ) : (X80 N).bd K ρ 5 = F80.l2b N ((X80 N).kc ρ 5) := by kernel_rfl
theorem o80_5 (ρ) : (X80 N).kc ((X80 N).sem ρ) 5 = F80.l2 N N := Fx.okL [] (by kernel_rfl) (fun K ρ => by kernel_rfl) (h80_5 N) ρ (F80.l2 N) rfl fun n ρ' e d => by rw [e]; rfl
theorem h80 (K) : (X80 N).top K = F80.b N ((X80 N).kc K 5) := by kernel_rfl
theorem sum80 : SumOk Tryz.prog 80 (S80 N) := Fx.ok1 (X80 N) tabok Tryz.func80 (by kernel_rfl) ⟨sum166 N, sum40 N, trivial⟩ [5] (fun K => by kernel_rfl) (h80 N) (by rw [o80_5]; rfl)

noncomputable def X181 : Fx := ⟨73, tab, [(40, S40 N)], N, Tryz.f181, [.v tConfig, .v LtI3], [.v B], [⟨5, [(1, .v LtI3), (2, .obj tConfig), (7, .v LtI3), (8, .v I), (9, .v I)], [1, 0, 1, 0, 0], []⟩], none⟩
noncomputable abbrev S181 : Summ := (X181 N).S true (F181 N)
theorem h181_5 (K ρ) : (X181 N).bd K ρ 5 = F181.l2b N ((X181 N).kc ρ 5) := by kernel_rfl
theorem o181_5 (ρ) : (X181 N).kc ((X181 N).sem ρ) 5 = F181.l2 N N := Fx.okL [] (by kernel_rfl) (fun K ρ => by kernel_rfl) (h181_5 N) ρ (F181.l2 N) rfl fun n ρ' e d => by rw [e]; rfl
theorem h181 (K) : (X181 N).top K = F181.b N ((X181 N).kc K 5) := by kernel_rfl
theorem sum181 : SumOk Tryz.prog 181 (S181 N) := Fx.ok1 (X181 N) tabok Tryz.func181 (by kernel_rfl) ⟨sum40 N, trivial⟩ [5] (fun K => by kernel_rfl) (h181 N) (by rw [o181_5]; rfl)

noncomputable def X145 : Fx := ⟨104, tab, [(80, S80 N), (181, S181 N), (25, S25 N), (74, S74 N), (165, S165 N), (153, S153 N), (82, S82 N)], N, Tryz.f145, [.v tConfig, .v LtI2, .v LtI3, .v I], [.v tWide, .v I], [⟨27, [(3, .v I), (8, .obj tWide), (10, .v I), (11, .v I), (12, .v I), (57, .v LtI3), (58, .v I), (59, .v I)], [1, 1, 1, 1, 0, 1, 0, 0], []⟩, ⟨15, [(2, .v LtI3), (3, .v I), (8, .obj tWide), (10, .v I), (11, .v I), (12, .v I), (44, .v LtI2), (45, .v I), (46, .v I)], [1, 1, 1, 0, 1, 0, 0], []⟩], none⟩
noncomputable abbrev S145 : Summ := (X145 N).S true (F145 N)
theorem h145_27 (K ρ) : (X145 N).bd K ρ 27 = F145.l13b N ((X145 N).kc ρ 27) := by kernel_rfl
theorem o145_27 (ρ) : (X145 N).kc ((X145 N).sem ρ) 27 = F145.l13 N N := Fx.okL [] (by kernel_rfl) (fun K ρ => by kernel_rfl) (h145_27 N) ρ (F145.l13 N) rfl fun n ρ' e d => by rw [e]; rfl
theorem h145_15 (K ρ) : (X145 N).bd K ρ 15 = F145.l7b N ((X145 N).kc K 27) ((X145 N).kc ρ 15) := by kernel_rfl
theorem o145_15 (ρ) : (X145 N).kc ((X145 N).sem ρ) 15 = F145.l7 N N := Fx.okL [27] (by kernel_rfl) (fun K ρ => by kernel_rfl) (h145_15 N) ρ (F145.l7 N) rfl fun n ρ' e d => by rw [o145_27, e]; rfl
theorem h145 (K) : (X145 N).top K = F145.b N ((X145 N).kc K 15) := by kernel_rfl
theorem sum145 : SumOk Tryz.prog 145 (S145 N) := Fx.ok1 (X145 N) tabok Tryz.func145 (by kernel_rfl) ⟨sum80 N, sum181 N, sum25 N, sum74 N, sum165 N, sum153 N, sum82 N, trivial⟩ [15, 27] (fun K => by kernel_rfl) (h145 N) (by rw [o145_15]; rfl)

noncomputable def X182 : Fx := ⟨55, tab, [(215, S215 N), (75, S75 N), (167, S167 N), (160, Sadd64 N), (168, S168 N)], N, Tryz.f182, [.v tWide, .v I], [.v tWide, .v B], [], none⟩
noncomputable abbrev S182 : Summ := (X182 N).S true (F182 N)
theorem sum182 : SumOk Tryz.prog 182 (S182 N) := Fx.ok0 (X182 N) tabok Tryz.func182 (by kernel_rfl) ⟨sum215 N, sum75 N, sum167 N, sumadd64 N, sum168 N, trivial⟩ (by kernel_rfl)

noncomputable def X102 : Fx := ⟨62, tab, [(80, S80 N), (181, S181 N), (145, S145 N), (182, S182 N), (183, S183 N)], N, Tryz.f102, [.v tConfig, .v LtI2, .v LtI3], [.v tWide, .v I], [⟨11, [(1, .v LtI2), (2, .v LtI3), (3, .obj tConfig), (6, .obj tWide), (8, .own tWide), (29, .v LtI4), (30, .v I), (31, .v I)], [1, 1, 1, 0, 1, 0, 0], []⟩], none⟩
noncomputable abbrev S102 : Summ := (X102 N).S true (F102 N)
theorem h102_11 (K ρ) : (X102 N).bd K ρ 11 = F102.l5b N ((X102 N).kc ρ 11) := by kernel_rfl
theorem o102_11 (ρ) : (X102 N).kc ((X102 N).sem ρ) 11 = F102.l5 N N := Fx.okL [] (by kernel_rfl) (fun K ρ => by kernel_rfl) (h102_11 N) ρ (F102.l5 N) rfl fun n ρ' e d => by rw [e]; rfl
theorem h102 (K) : (X102 N).top K = F102.b N ((X102 N).kc K 11) := by kernel_rfl
theorem sum102 : SumOk Tryz.prog 102 (S102 N) := Fx.ok1 (X102 N) tabok Tryz.func102 (by kernel_rfl) ⟨sum80 N, sum181 N, sum145 N, sum182 N, sum183 N, trivial⟩ [11] (fun K => by kernel_rfl) (h102 N) (by rw [o102_11]; rfl)

noncomputable def X56 : Fx := ⟨38, tab, [(143, S143 N), (100, S100 N), (83, S83 N), (81, S81 N)], N, Tryz.f56, [.v tI6, .v I], [.v tWide, .v I], [], none⟩
noncomputable abbrev S56 : Summ := (X56 N).S true (F56 N)
theorem sum56 : SumOk Tryz.prog 56 (S56 N) := Fx.ok0 (X56 N) tabok Tryz.func56 (by kernel_rfl) ⟨sum143 N, sum100 N, sum83 N, sum81 N, trivial⟩ (by kernel_rfl)

noncomputable def X141 : Fx := ⟨31, tab, [(111, S111 N)], N, Tryz.f141, [.v LtI3, .v I, .v I], [.v I], [⟨9, [(1, .v I), (2, .v I), (12, .v LtI3), (13, .v I), (14, .v I)], [1, 1, 0, 1, 0, 0], []⟩], none⟩
noncomputable abbrev S141 : Summ := (X141 N).S true (F141 N)
theorem h141_9 (K ρ) : (X141 N).bd K ρ 9 = F141.l4b N ((X141 N).kc ρ 9) := by kernel_rfl
theorem o141_9 (ρ) : (X141 N).kc ((X141 N).sem ρ) 9 = F141.l4 N N := Fx.okL [] (by kernel_rfl) (fun K ρ => by kernel_rfl) (h141_9 N) ρ (F141.l4 N) rfl fun n ρ' e d => by rw [e]; rfl
theorem h141 (K) : (X141 N).top K = F141.b N ((X141 N).kc K 9) := by kernel_rfl
theorem sum141 : SumOk Tryz.prog 141 (S141 N) := Fx.ok1 (X141 N) tabok Tryz.func141 (by kernel_rfl) ⟨sum111 N, trivial⟩ [9] (fun K => by kernel_rfl) (h141 N) (by rw [o141_9]; rfl)

noncomputable def X140 : Fx := ⟨10, tab, [(25, S25 N), (82, S82 N)], N, Tryz.f140, [.v I, .v tWide], [.v B], [], none⟩
noncomputable abbrev S140 : Summ := (X140 N).S true (F140 N)
theorem sum140 : SumOk Tryz.prog 140 (S140 N) := Fx.ok0 (X140 N) tabok Tryz.func140 (by kernel_rfl) ⟨sum25 N, sum82 N, trivial⟩ (by kernel_rfl)

noncomputable def X57 : Fx := ⟨110, tab, [(39, S39 N), (143, S143 N), (139, S139 N), (104, S104 N), (73, S73 N), (103, S103 N), (144, S144 N), (145, S145 N), (25, S25 N), (82, S82 N), (102, S102 N), (56, S56 N), (74, S74 N), (141, S141 N), (140, S140 N)], N, Tryz.f57, [.v tConfig, .v tBook, .v tI6], [.v I], [], none⟩
noncomputable abbrev S57 : Summ := (X57 N).S true (F57 N)
theorem sum57 : SumOk Tryz.prog 57 (S57 N) := Fx.ok0 (X57 N) tabok Tryz.func57 (by kernel_rfl) ⟨sum39 N, sum143 N, sum139 N, sum104 N, sum73 N, sum103 N, sum144 N, sum145 N, sum25 N, sum82 N, sum102 N, sum56 N, sum74 N, sum141 N, sum140 N, trivial⟩ (by kernel_rfl)

noncomputable def X96 : Fx := ⟨50, tab, [(100, S100 N)], N, Tryz.f96, [.v tI5], [.v B], [⟨5, [(1, .obj tI5), (9, .v (.arr 2 I)), (10, .v I)], [1, 0, 1, 0, 0], []⟩], none⟩
noncomputable abbrev S96 : Summ := (X96 N).S true (F96 N)
theorem h96_5 (K ρ) : (X96 N).bd K ρ 5 = F96.l2b N ((X96 N).kc ρ 5) := by kernel_rfl
theorem o96_5 (ρ) : (X96 N).kc ((X96 N).sem ρ) 5 = F96.l2 N N := Fx.okL [] (by kernel_rfl) (fun K ρ => by kernel_rfl) (h96_5 N) ρ (F96.l2 N) rfl fun n ρ' e d => by rw [e]; rfl
theorem h96 (K) : (X96 N).top K = F96.b N ((X96 N).kc K 5) := by kernel_rfl
theorem sum96 : SumOk Tryz.prog 96 (S96 N) := Fx.ok1 (X96 N) tabok Tryz.func96 (by kernel_rfl) ⟨sum100 N, trivial⟩ [5] (fun K => by kernel_rfl) (h96 N) (by rw [o96_5]; rfl)

noncomputable def X95 : Fx := ⟨6, tab, [(96, S96 N)], N, Tryz.f95, [.v tI5], [.v B], [], none⟩
noncomputable abbrev S95 : Summ := (X95 N).S true (F95 N)
theorem sum95 : SumOk Tryz.prog 95 (S95 N) := Fx.ok0 (X95 N) tabok Tryz.func95 (by kernel_rfl) ⟨sum96 N, trivial⟩ (by kernel_rfl)

noncomputable def X177 : Fx := ⟨19, tab, [(95, S95 N)], N, Tryz.f177, [.v LtI5, .fn 95 .unit], [.v I], [⟨5, [(0, .v LtI5), (1, .fn 95 .unit), (7, .v I), (8, .v I)], [1, 0, 1, 0, 0], []⟩], none⟩
noncomputable abbrev S177 : Summ := (X177 N).S true (F177 N)
theorem h177_5 (K ρ) : (X177 N).bd K ρ 5 = F177.l2b N ((X177 N).kc ρ 5) := by kernel_rfl
theorem o177_5 (ρ) : (X177 N).kc ((X177 N).sem ρ) 5 = F177.l2 N N := Fx.okL [] (by kernel_rfl) (fun K ρ => by kernel_rfl) (h177_5 N) ρ (F177.l2 N) rfl fun n ρ' e d => by rw [e]; rfl
theorem h177 (K) : (X177 N).top K = F177.b N ((X177 N).kc K 5) := by kernel_rfl
theorem sum177 : SumOk Tryz.prog 177 (S177 N) := Fx.ok1 (X177 N) tabok Tryz.func177 (by kernel_rfl) ⟨sum95 N, trivial⟩ [5] (fun K => by kernel_rfl) (h177 N) (by rw [o177_5]; rfl)

noncomputable def X94 : Fx := ⟨9, tab, [(177, S177 N)], N, Tryz.f94, [.v LtI5, .fn 95 .unit], [.v B], [], none⟩
noncomputable abbrev S94 : Summ := (X94 N).S true (F94 N)
theorem sum94 : SumOk Tryz.prog 94 (S94 N) := Fx.ok0 (X94 N) tabok Tryz.func94 (by kernel_rfl) ⟨sum177 N, trivial⟩ (by kernel_rfl)

noncomputable def X178 : Fx := ⟨12, tab, [], N, Tryz.f178, [.v I, .v tWide], [.v tEntry], [], none⟩
noncomputable abbrev S178 : Summ := (X178 N).S true (F178 N)
theorem sum178 : SumOk Tryz.prog 178 (S178 N) := Fx.ok0 (X178 N) tabok Tryz.func178 (by kernel_rfl) trivial (by kernel_rfl)

noncomputable def X98 : Fx := ⟨41, tab, [(96, S96 N), (100, S100 N), (83, S83 N), (178, S178 N)], N, Tryz.f98, [.v tI5, .v I], [.own tEntry, .v I], [], none⟩
noncomputable abbrev S98 : Summ := (X98 N).S false (F98 N)
theorem sum98 : SumOk Tryz.prog 98 (S98 N) := Fx.ok0 (X98 N) tabok Tryz.func98 (by kernel_rfl) ⟨sum96 N, sum100 N, sum83 N, sum178 N, trivial⟩ (by kernel_rfl)

noncomputable def X105 : Fx := ⟨22, tab, [(185, Sclo_185 N), (186, Sclo_186 N), (187, Sclo_187 N), (188, Sclo_188 N), (189, Sclo_189 N), (190, Sclo_190 N)], N, Tryz.f105, [.v tBook], [.v tBook], [], none⟩
noncomputable abbrev S105 : Summ := (X105 N).S false (F105 N)
theorem sum105 : SumOk Tryz.prog 105 (S105 N) := Fx.ok0 (X105 N) tabok Tryz.func105 (by kernel_rfl) ⟨sumclo_185 N, sumclo_186 N, sumclo_187 N, sumclo_188 N, sumclo_189 N, sumclo_190 N, trivial⟩ (by kernel_rfl)

noncomputable def X229 : Fx := ⟨42, tab, [(25, S25 N), (183, S183 N), (81, S81 N)], N, Tryz.f229, [.v LtI3], [.v B], [⟨13, [(0, .v LtI3), (3, .v I), (4, .own tWide), (9, .v I), (12, .v LtI3), (13, .v I), (14, .v I)], [1, 0, 1, 0, 0, 1, 1, 0, 0, 1, 1, 0, 1, 0, 0], [5]⟩, ⟨5, [(0, .v LtI3), (9, .v I)], [1, 0, 1, 0, 0], []⟩], none⟩
noncomputable abbrev S229 : Summ := (X229 N).S true (F229 N)
theorem h229_13 (K ρ) : (X229 N).bd K ρ 13 = F229.l6b N ((X229 N).kc ρ 5) ((X229 N).kc ρ 13) := by kernel_rfl
theorem o229_13 (ρ) : (X229 N).kc ((X229 N).sem ρ) 13 = F229.l6 N ((X229 N).kc ρ 5) N := Fx.okL [] (by kernel_rfl) (fun K ρ => by kernel_rfl) (h229_13 N) ρ (F229.l6 N ((X229 N).kc ρ 5)) rfl fun n ρ' e d => by rw [e, d 5 rfl]; rfl
theorem h229_5 (K ρ) : (X229 N).bd K ρ 5 = F229.l2b N ((X229 N).kc K 13) ((X229 N).kc ρ 5) := by kernel_rfl
theorem o229_5 (ρ) : (X229 N).kc ((X229 N).sem ρ) 5 = F229.l2 N N := Fx.okL [13] (by kernel_rfl) (fun K ρ => by kernel_rfl) (h229_5 N) ρ (F229.l2 N) rfl fun n ρ' e d => by rw [o229_13, e]; rfl
theorem h229 (K) : (X229 N).top K = F229.b N ((X229 N).kc K 5) := by kernel_rfl
theorem sum229 : SumOk Tryz.prog 229 (S229 N) := Fx.ok1 (X229 N) tabok Tryz.func229 (by kernel_rfl) ⟨sum25 N, sum183 N, sum81 N, trivial⟩ [5] (fun K => by kernel_rfl) (h229 N) (by rw [o229_5]; rfl)

noncomputable def X231 : Fx := ⟨9, tab, [], N, Tryz.f231, [.v LtI3], [.v LtI3], [], none⟩
noncomputable abbrev S231 : Summ := (X231 N).S false (F231 N)
theorem sum231 : SumOk Tryz.prog 231 (S231 N) := Fx.ok0 (X231 N) tabok Tryz.func231 (by kernel_rfl) trivial (by kernel_rfl)

noncomputable def X179 : Fx := ⟨173, tab, [(159, S159 N), (218, S218 N), (166, S166 N), (229, S229 N), (188, Sclo_188 N), (219, S219 N), (230, Sins_230 N), (25, S25 N), (183, S183 N), (79, S79 N), (231, S231 N)], N, Tryz.f179, [.v LtI3, .v LtI3], [.v LtI3, .v I], [⟨36, [(1, .v LtI3), (8, .own tI3), (10, .obj tI3), (11, .v I), (54, .v LtI3), (55, .v I), (56, .v I)], [1, 1, 1, 1, 1, 0, 1, 0, 0, 1, 1, 0, 0, 1, 1, 1], [27]⟩, ⟨33, [(1, .v LtI3), (8, .own tI3), (10, .obj tI3), (11, .v I), (54, .v LtI3), (55, .v I), (56, .v I)], [1, 1, 1, 1, 1, 0, 1, 0, 0, 1, 1, 0, 0, 1, 1, 0, 0, 0], [27]⟩, ⟨55, [(1, .v LtI3), (12, .own tI3), (14, .obj tI3), (15, .own tWide), (107, .own tI3), (108, .v I), (109, .v I), (117, .v LtI3), (118, .v I), (119, .v I)], [1, 1, 1, 1, 1, 1, 1, 0, 1, 0, 0, 1, 1, 0, 0, 1, 1, 0, 1, 0, 0], [47]⟩, ⟨47, [(1, .v LtI3), (12, .own tI3), (107, .own tI3), (108, .v I), (109, .v I)], [1, 1, 1, 1, 1, 1, 1, 0, 1, 0, 0], []⟩, ⟨27, [(1, .v LtI3), (8, .own tI3), (54, .v LtI3), (55, .v I), (56, .v I)], [1, 1, 1, 1, 1, 0, 1, 0, 0], []⟩, ⟨9, [(0, .v LtI3), (1, .v LtI3), (30, .v LtI3), (31, .v I), (32, .v I)], [1, 1, 0, 1, 0, 0], []⟩], none⟩
noncomputable abbrev S179 : Summ := (X179 N).S false (F179 N)
theorem h179_36 (K ρ) : (X179 N).bd K ρ 36 = F179.j18b N ((X179 N).kc ρ 27) := by kernel_rfl
theorem o179_36 (ρ) : (X179 N).kc ((X179 N).sem ρ) 36 = F179.j18 N ((X179 N).kc ρ 27) := (Fx.okJ [47] (by kernel_rfl) (fun K ρ => by kernel_rfl) (h179_36 N) ρ).trans rfl
theorem h179_33 (K ρ) : (X179 N).bd K ρ 33 = F179.l16b N ((X179 N).kc K 36) ((X179 N).kc ρ 27) ((X179 N).kc ρ 33) := by kernel_rfl
theorem o179_33 (ρ) : (X179 N).kc ((X179 N).sem ρ) 33 = F179.l16 N ((X179 N).kc ρ 27) N := Fx.okL [47, 36] (by kernel_rfl) (fun K ρ => by kernel_rfl) (h179_33 N) ρ (F179.l16 N ((X179 N).kc ρ 27)) rfl fun n ρ' e d => by rw [o179_36, e, d 27 rfl]; rfl
theorem h179_55 (K ρ) : (X179 N).bd K ρ 55 = F179.l27b N ((X179 N).kc ρ 47) ((X179 N).kc ρ 55) := by kernel_rfl
theorem o179_55 (ρ) : (X179 N).kc ((X179 N).sem ρ) 55 = F179.l27 N ((X179 N).kc ρ 47) N := Fx.okL [] (by kernel_rfl) (fun K ρ => by kernel_rfl) (h179_55 N) ρ (F179.l27 N ((X179 N).kc ρ 47)) rfl fun n ρ' e d => by rw [e, d 47 rfl]; rfl
theorem h179_47 (K ρ) : (X179 N).bd K ρ 47 = F179.l23b N ((X179 N).kc K 55) ((X179 N).kc ρ 47) := by kernel_rfl
theorem o179_47 (ρ) : (X179 N).kc ((X179 N).sem ρ) 47 = F179.l23 N N := Fx.okL [55] (by kernel_rfl) (fun K ρ => by kernel_rfl) (h179_47 N) ρ (F179.l23 N) rfl fun n ρ' e d => by rw [o179_55, e]; rfl
theorem h179_27 (K ρ) : (X179 N).bd K ρ 27 = F179.l13b N ((X179 N).kc K 33) ((X179 N).kc K 47) ((X179 N).kc ρ 27) := by kernel_rfl
theorem o179_27 (ρ) : (X179 N).kc ((X179 N).sem ρ) 27 = F179.l13 N N := Fx.okL [47, 33, 36] (by kernel_rfl) (fun K ρ => by kernel_rfl) (h179_27 N) ρ (F179.l13 N) rfl fun n ρ' e d => by rw [o179_33, o179_47, e]; rfl
theorem h179_9 (K ρ) : (X179 N).bd K ρ 9 = F179.l4b N ((X179 N).kc K 27) ((X179 N).kc ρ 9) := by kernel_rfl
theorem o179_9 (ρ) : (X179 N).kc ((X179 N).sem ρ) 9 = F179.l4 N N := Fx.okL [27, 47] (by kernel_rfl) (fun K ρ => by kernel_rfl) (h179_9 N) ρ (F179.l4 N) rfl fun n ρ' e d => by rw [o179_27, e]; rfl
theorem h179 (K) : (X179 N).top K = F179.b N ((X179 N).kc K 9) := by kernel_rfl
theorem sum179 : SumOk Tryz.prog 179 (S179 N) := Fx.ok1 (X179 N) tabok Tryz.func179 (by kernel_rfl) ⟨sum159 N, sum218 N, sum166 N, sum229 N, sumclo_188 N, sum219 N, sumins_230 N, sum25 N, sum183 N, sum79 N, sum231 N, trivial⟩ [9, 27, 47] (fun K => by kernel_rfl) (h179 N) (by rw [o179_9]; rfl)

noncomputable def X233 : Fx := ⟨9, tab, [], N, Tryz.f233, [.v LtI3], [.v LtI3], [], none⟩
noncomputable abbrev S233 : Summ := (X233 N).S false (F233 N)
theorem sum233 : SumOk Tryz.prog 233 (S233 N) := Fx.ok0 (X233 N) tabok Tryz.func233 (by kernel_rfl) trivial (by kernel_rfl)

noncomputable def X180 : Fx := ⟨185, tab, [(111, S111 N), (196, S196 N), (183, S183 N), (81, S81 N), (187, Sclo_187 N), (197, S197 N), (232, Sins_232 N), (25, S25 N), (79, S79 N), (233, S233 N)], N, Tryz.f180, [.v LtI3, .v LtEntry], [.v LtI3, .v I], [⟨42, [(1, .v LtEntry), (11, .own tI3), (13, .obj tEntry), (14, .v I), (68, .v LtEntry), (69, .v I), (70, .v I)], [1, 1, 1, 1, 1, 1, 0, 1, 0, 0, 1, 1, 0, 0, 1, 1, 1], [33]⟩, ⟨39, [(1, .v LtEntry), (11, .own tI3), (13, .obj tEntry), (14, .v I), (68, .v LtEntry), (69, .v I), (70, .v I)], [1, 1, 1, 1, 1, 1, 0, 1, 0, 0, 1, 1, 0, 0, 1, 1, 0, 0, 0], [33]⟩, ⟨61, [(1, .v LtEntry), (15, .own tI3), (17, .obj tI3), (18, .own tWide), (121, .own tI3), (122, .v I), (123, .v I), (131, .v LtEntry), (132, .v I), (133, .v I)], [1, 1, 1, 1, 1, 1, 1, 1, 0, 1, 0, 0, 1, 1, 0, 0, 1, 1, 0, 1, 0, 0], [53]⟩, ⟨53, [(1, .v LtEntry), (15, .own tI3), (121, .own tI3), (122, .v I), (123, .v I)], [1, 1, 1, 1, 1, 1, 1, 1, 0, 1, 0, 0], []⟩, ⟨33, [(1, .v LtEntry), (11, .own tI3), (68, .v LtEntry), (69, .v I), (70, .v I)], [1, 1, 1, 1, 1, 1, 0, 1, 0, 0], []⟩, ⟨11, [(0, .v LtI3), (1, .v LtEntry), (6, .own tWide), (36, .v LtEntry), (37, .v I), (38, .v I)], [1, 1, 1, 0, 1, 0, 0], []⟩], none⟩
noncomputable abbrev S180 : Summ := (X180 N).S false (F180 N)
theorem h180_42 (K ρ) : (X180 N).bd K ρ 42 = F180.j21b N ((X180 N).kc ρ 33) := by kernel_rfl
theorem o180_42 (ρ) : (X180 N).kc ((X180 N).sem ρ) 42 = F180.j21 N ((X180 N).kc ρ 33) := (Fx.okJ [53] (by kernel_rfl) (fun K ρ => by kernel_rfl) (h180_42 N) ρ).trans rfl
theorem h180_39 (K ρ) : (X180 N).bd K ρ 39 = F180.l19b N ((X180 N).kc K 42) ((X180 N).kc ρ 33) ((X180 N).kc ρ 39) := by kernel_rfl
theorem o180_39 (ρ) : (X180 N).kc ((X180 N).sem ρ) 39 = F180.l19 N ((X180 N).kc ρ 33) N := Fx.okL [53, 42] (by kernel_rfl) (fun K ρ => by kernel_rfl) (h180_39 N) ρ (F180.l19 N ((X180 N).kc ρ 33)) rfl fun n ρ' e d => by rw [o180_42, e, d 33 rfl]; rfl
theorem h180_61 (K ρ) : (X180 N).bd K ρ 61 = F180.l30b N ((X180 N).kc ρ 53) ((X180 N).kc ρ 61) := by kernel_rfl
theorem o180_61 (ρ) : (X180 N).kc ((X180 N).sem ρ) 61 = F180.l30 N ((X180 N).kc ρ 53) N := Fx.okL [] (by kernel_rfl) (fun K ρ => by kernel_rfl) (h180_61 N) ρ (F180.l30 N ((X180 N).kc ρ 53)) rfl fun n ρ' e d => by rw [e, d 53 rfl]; rfl
theorem h180_53 (K ρ) : (X180 N).bd K ρ 53 = F180.l26b N ((X180 N).kc K 61) ((X180 N).kc ρ 53) := by kernel_rfl
theorem o180_53 (ρ) : (X180 N).kc ((X180 N).sem ρ) 53 = F180.l26 N N := Fx.okL [61] (by kernel_rfl) (fun K ρ => by kernel_rfl) (h180_53 N) ρ (F180.l26 N) rfl fun n ρ' e d => by rw [o180_61, e]; rfl
theorem h180_33 (K ρ) : (X180 N).bd K ρ 33 = F180.l16b N ((X180 N).kc K 39) ((X180 N).kc K 53) ((X180 N).kc ρ 33) := by kernel_rfl
theorem o180_33 (ρ) : (X180 N).kc ((X180 N).sem ρ) 33 = F180.l16 N N := Fx.okL [53, 39, 42] (by kernel_rfl) (fun K ρ => by kernel_rfl) (h180_33 N) ρ (F180.l16 N) rfl fun n ρ' e d => by rw [o180_39, o180_53, e]; rfl
theorem h180_11 (K ρ) : (X180 N).bd K ρ 11 = F180.l5b N ((X180 N).kc K 33) ((X180 N).kc ρ 11) := by kernel_rfl
theorem o180_11 (ρ) : (X180 N).kc ((X180 N).sem ρ) 11 = F180.l5 N N := Fx.okL [33, 53] (by kernel_rfl) (fun K ρ => by kernel_rfl) (h180_11 N) ρ (F180.l5 N) rfl fun n ρ' e d => by rw [o180_33, e]; rfl
theorem h180 (K) : (X180 N).top K = F180.b N ((X180 N).kc K 11) := by kernel_rfl
theorem sum180 : SumOk Tryz.prog 180 (S180 N) := Fx.ok1 (X180 N) tabok Tryz.func180 (by kernel_rfl) ⟨sum111 N, sum196 N, sum183 N, sum81 N, sumclo_187 N, sum197 N, sumins_232 N, sum25 N, sum79 N, sum233 N, trivial⟩ [11, 33, 53] (fun K => by kernel_rfl) (h180 N) (by rw [o180_11]; rfl)

noncomputable def X99 : Fx := ⟨37, tab, [(105, S105 N), (179, S179 N), (180, S180 N)], N, Tryz.f99, [.v tBook, .v LtI3, .v LtEntry], [.v tBook, .v I], [], none⟩
noncomputable abbrev S99 : Summ := (X99 N).S false (F99 N)
theorem sum99 : SumOk Tryz.prog 99 (S99 N) := Fx.ok0 (X99 N) tabok Tryz.func99 (by kernel_rfl) ⟨sum105 N, sum179 N, sum180 N, trivial⟩ (by kernel_rfl)

noncomputable def X31 : Fx := ⟨113, tab, [(39, S39 N), (94, S94 N), (97, S97 N), (98, S98 N), (99, S99 N)], N, Tryz.f31, [.v tConfig, .v tBook, .v LtI5], [.v tBook, .v I], [⟨25, [(4, .obj tBook), (6, .obj tBook), (10, .own tI3), (11, .own tEntry), (68, .v LtI5), (69, .v I), (70, .v I)], [1, 1, 1, 1, 1, 0, 1, 0, 0], []⟩, ⟨9, [(2, .v LtI5), (3, .obj tConfig), (4, .obj tBook), (6, .obj tBook), (30, .v LtI5), (31, .v I), (32, .v I)], [1, 1, 0, 1, 0, 0], []⟩], none⟩
noncomputable abbrev S31 : Summ := (X31 N).S false (F31 N)
theorem h31_25 (K ρ) : (X31 N).bd K ρ 25 = F31.l12b N ((X31 N).kc ρ 25) := by kernel_rfl
theorem o31_25 (ρ) : (X31 N).kc ((X31 N).sem ρ) 25 = F31.l12 N N := Fx.okL [] (by kernel_rfl) (fun K ρ => by kernel_rfl) (h31_25 N) ρ (F31.l12 N) rfl fun n ρ' e d => by rw [e]; rfl
theorem h31_9 (K ρ) : (X31 N).bd K ρ 9 = F31.l4b N ((X31 N).kc K 25) ((X31 N).kc ρ 9) := by kernel_rfl
theorem o31_9 (ρ) : (X31 N).kc ((X31 N).sem ρ) 9 = F31.l4 N N := Fx.okL [25] (by kernel_rfl) (fun K ρ => by kernel_rfl) (h31_9 N) ρ (F31.l4 N) rfl fun n ρ' e d => by rw [o31_25, e]; rfl
theorem h31 (K) : (X31 N).top K = F31.b N ((X31 N).kc K 9) := by kernel_rfl
theorem sum31 : SumOk Tryz.prog 31 (S31 N) := Fx.ok1 (X31 N) tabok Tryz.func31 (by kernel_rfl) ⟨sum39 N, sum94 N, sum97 N, sum98 N, sum99 N, trivial⟩ [9, 25] (fun K => by kernel_rfl) (h31 N) (by rw [o31_9]; rfl)

noncomputable def X66 : Fx := ⟨101, tab, [(39, S39 N), (67, S67 N), (156, S156 N), (100, S100 N), (57, S57 N), (31, S31 N)], N, Tryz.f66, [.v tConfig, .v tBook, .v tI4, .v I, .v I, .v I], [.v tBook, .v tI4, .v I], [⟨24, [(4, .v I), (6, .obj tConfig), (7, .obj tBook), (8, .obj tI4), (12, .obj tBook), (13, .obj tI4), (17, .obj tI5)], [1, 1, 1, 1, 1, 1], []⟩], none⟩
noncomputable abbrev S66 : Summ := (X66 N).S false (F66 N)
theorem h66_24 (K ρ) : (X66 N).bd K ρ 24 = F66.j12b N := by kernel_rfl
theorem o66_24 (ρ) : (X66 N).kc ((X66 N).sem ρ) 24 = F66.j12 N := (Fx.okJ [] (by kernel_rfl) (fun K ρ => by kernel_rfl) (h66_24 N) ρ).trans rfl
theorem h66 (K) : (X66 N).top K = F66.b N ((X66 N).kc K 24) := by kernel_rfl
theorem sum66 : SumOk Tryz.prog 66 (S66 N) := Fx.ok1 (X66 N) tabok Tryz.func66 (by kernel_rfl) ⟨sum39 N, sum67 N, sum156 N, sum100 N, sum57 N, sum31 N, trivial⟩ [24] (fun K => by kernel_rfl) (h66 N) (by rw [o66_24]; rfl)

noncomputable def X108 : Fx := ⟨78, tab, [], N, Tryz.f108, [.v LtI3], [.v B], [⟨5, [(0, .v LtI3), (3, .v I)], [1, 0, 1, 0, 0], []⟩], none⟩
noncomputable abbrev S108 : Summ := (X108 N).S true (F108 N)
theorem h108_5 (K ρ) : (X108 N).bd K ρ 5 = F108.l2b N ((X108 N).kc ρ 5) := by kernel_rfl
theorem o108_5 (ρ) : (X108 N).kc ((X108 N).sem ρ) 5 = F108.l2 N N := Fx.okL [] (by kernel_rfl) (fun K ρ => by kernel_rfl) (h108_5 N) ρ (F108.l2 N) rfl fun n ρ' e d => by rw [e]; rfl
theorem h108 (K) : (X108 N).top K = F108.b N ((X108 N).kc K 5) := by kernel_rfl
theorem sum108 : SumOk Tryz.prog 108 (S108 N) := Fx.ok1 (X108 N) tabok Tryz.func108 (by kernel_rfl) trivial [5] (fun K => by kernel_rfl) (h108 N) (by rw [o108_5]; rfl)

noncomputable def X37 : Fx := ⟨38, tab, [(108, S108 N)], N, Tryz.f37, [.v LtI3, .v I, .v I], [.v I], [⟨9, [(0, .v LtI3), (1, .v I), (2, .v I), (7, .v I)], [1, 1, 0, 1, 0, 0], []⟩], none⟩
noncomputable abbrev S37 : Summ := (X37 N).S true (F37 N)
theorem h37_9 (K ρ) : (X37 N).bd K ρ 9 = F37.l4b N ((X37 N).kc ρ 9) := by kernel_rfl
theorem o37_9 (ρ) : (X37 N).kc ((X37 N).sem ρ) 9 = F37.l4 N N := Fx.okL [] (by kernel_rfl) (fun K ρ => by kernel_rfl) (h37_9 N) ρ (F37.l4 N) rfl fun n ρ' e d => by rw [e]; rfl
theorem h37 (K) : (X37 N).top K = F37.b N ((X37 N).kc K 9) := by kernel_rfl
theorem sum37 : SumOk Tryz.prog 37 (S37 N) := Fx.ok1 (X37 N) tabok Tryz.func37 (by kernel_rfl) ⟨sum108 N, trivial⟩ [9] (fun K => by kernel_rfl) (h37 N) (by rw [o37_9]; rfl)

noncomputable def X195 : Fx := ⟨30, tab, [], N, Tryz.f195, [.v I, .v I], [.v B], [], none⟩
noncomputable abbrev S195 : Summ := (X195 N).S true (F195 N)
theorem sum195 : SumOk Tryz.prog 195 (S195 N) := Fx.ok0 (X195 N) tabok Tryz.func195 (by kernel_rfl) trivial (by kernel_rfl)

noncomputable def X109 : Fx := ⟨74, tab, [(195, S195 N)], N, Tryz.f109, [.v LtI3], [.v B], [⟨5, [(0, .v LtI3), (3, .v I)], [1, 0, 1, 0, 0], []⟩], none⟩
noncomputable abbrev S109 : Summ := (X109 N).S true (F109 N)
theorem h109_5 (K ρ) : (X109 N).bd K ρ 5 = F109.l2b N ((X109 N).kc ρ 5) := by kernel_rfl
theorem o109_5 (ρ) : (X109 N).kc ((X109 N).sem ρ) 5 = F109.l2 N N := Fx.okL [] (by kernel_rfl) (fun K ρ => by kernel_rfl) (h109_5 N) ρ (F109.l2 N) rfl fun n ρ' e d => by rw [e]; rfl
theorem h109 (K) : (X109 N).top K = F109.b N ((X109 N).kc K 5) := by kernel_rfl
theorem sum109 : SumOk Tryz.prog 109 (S109 N) := Fx.ok1 (X109 N) tabok Tryz.func109 (by kernel_rfl) ⟨sum195 N, trivial⟩ [5] (fun K => by kernel_rfl) (h109 N) (by rw [o109_5]; rfl)

noncomputable def X38 : Fx := ⟨38, tab, [(109, S109 N)], N, Tryz.f38, [.v LtI3, .v I, .v I], [.v I], [⟨9, [(0, .v LtI3), (1, .v I), (2, .v I), (7, .v I)], [1, 1, 0, 1, 0, 0], []⟩], none⟩
noncomputable abbrev S38 : Summ := (X38 N).S true (F38 N)
theorem h38_9 (K ρ) : (X38 N).bd K ρ 9 = F38.l4b N ((X38 N).kc ρ 9) := by kernel_rfl
theorem o38_9 (ρ) : (X38 N).kc ((X38 N).sem ρ) 9 = F38.l4 N N := Fx.okL [] (by kernel_rfl) (fun K ρ => by kernel_rfl) (h38_9 N) ρ (F38.l4 N) rfl fun n ρ' e d => by rw [e]; rfl
theorem h38 (K) : (X38 N).top K = F38.b N ((X38 N).kc K 9) := by kernel_rfl
theorem sum38 : SumOk Tryz.prog 38 (S38 N) := Fx.ok1 (X38 N) tabok Tryz.func38 (by kernel_rfl) ⟨sum109 N, trivial⟩ [9] (fun K => by kernel_rfl) (h38 N) (by rw [o38_9]; rfl)

noncomputable def X17 : Fx := ⟨108, tab, [(63, S63 N), (64, S64 N), (65, S65 N), (66, S66 N), (37, S37 N), (38, S38 N), (67, S67 N)], N, Tryz.f17, [], [.v B], [], none⟩
noncomputable abbrev S17 : Summ := (X17 N).S true (F17 N)
theorem env17 : EnvOk Tryz.prog (X17 N).E := Fx.envOk (X17 N) tabok ⟨sum63 N, sum64 N, sum65 N, sum66 N, sum37 N, sum38 N, sum67 N, trivial⟩ (by kernel_rfl)
theorem run17 : ∀ x, evF (X17 N).E (X17 N).fn (X17 N).args (X17 N).res x = uncA (X17 N).args (F17 N) x := Fx.run0 (by kernel_rfl)
theorem sum17 : SumOk Tryz.prog 17 (S17 N) := Fx.ok0 (X17 N) tabok Tryz.func17 (by kernel_rfl) ⟨sum63 N, sum64 N, sum65 N, sum66 N, sum37 N, sum38 N, sum67 N, trivial⟩ (by kernel_rfl)

noncomputable def X118 : Fx := ⟨15, tab, [], N, Tryz.f118, [.v I, .v I, .v I], [.v B], [], none⟩
noncomputable abbrev S118 : Summ := (X118 N).S true (F118 N)
theorem sum118 : SumOk Tryz.prog 118 (S118 N) := Fx.ok0 (X118 N) tabok Tryz.func118 (by kernel_rfl) trivial (by kernel_rfl)

noncomputable def X41 : Fx := ⟨77, tab, [(118, S118 N)], N, Tryz.f41, [.v tConfig], [.v B], [⟨9, [(1, .obj tConfig), (3, .v I)], [1, 1, 0, 1, 0, 0], []⟩], none⟩
noncomputable abbrev S41 : Summ := (X41 N).S true (F41 N)
theorem h41_9 (K ρ) : (X41 N).bd K ρ 9 = F41.l4b N ((X41 N).kc ρ 9) := by kernel_rfl
theorem o41_9 (ρ) : (X41 N).kc ((X41 N).sem ρ) 9 = F41.l4 N N := Fx.okL [] (by kernel_rfl) (fun K ρ => by kernel_rfl) (h41_9 N) ρ (F41.l4 N) rfl fun n ρ' e d => by rw [e]; rfl
theorem h41 (K) : (X41 N).top K = F41.b N ((X41 N).kc K 9) := by kernel_rfl
theorem sum41 : SumOk Tryz.prog 41 (S41 N) := Fx.ok1 (X41 N) tabok Tryz.func41 (by kernel_rfl) ⟨sum118 N, trivial⟩ [9] (fun K => by kernel_rfl) (h41 N) (by rw [o41_9]; rfl)

noncomputable def X206 : Fx := ⟨58, tab, [], N, Tryz.f206, [.v LtI2], [.v B], [⟨5, [(0, .v LtI2), (3, .v I)], [1, 0, 1, 0, 0], []⟩], none⟩
noncomputable abbrev S206 : Summ := (X206 N).S true (F206 N)
theorem h206_5 (K ρ) : (X206 N).bd K ρ 5 = F206.l2b N ((X206 N).kc ρ 5) := by kernel_rfl
theorem o206_5 (ρ) : (X206 N).kc ((X206 N).sem ρ) 5 = F206.l2 N N := Fx.okL [] (by kernel_rfl) (fun K ρ => by kernel_rfl) (h206_5 N) ρ (F206.l2 N) rfl fun n ρ' e d => by rw [e]; rfl
theorem h206 (K) : (X206 N).top K = F206.b N ((X206 N).kc K 5) := by kernel_rfl
theorem sum206 : SumOk Tryz.prog 206 (S206 N) := Fx.ok1 (X206 N) tabok Tryz.func206 (by kernel_rfl) trivial [5] (fun K => by kernel_rfl) (h206 N) (by rw [o206_5]; rfl)

noncomputable def X203 : Fx := ⟨95, tab, [], N, Tryz.f203, [.v LtI4], [.v B], [⟨17, [(0, .v LtI4), (3, .v I), (4, .obj tI4), (5, .v I)], [1, 0, 1, 0, 0, 1, 0, 0, 1, 1, 1, 0, 0], [5]⟩, ⟨14, [(0, .v LtI4), (3, .v I), (4, .obj tI4)], [1, 0, 1, 0, 0, 1, 0, 0, 1, 1], [5]⟩, ⟨5, [(0, .v LtI4), (3, .v I)], [1, 0, 1, 0, 0], []⟩], none⟩
noncomputable abbrev S203 : Summ := (X203 N).S true (F203 N)
theorem h203_17 (K ρ) : (X203 N).bd K ρ 17 = F203.l8b N ((X203 N).kc ρ 5) ((X203 N).kc ρ 17) := by kernel_rfl
theorem o203_17 (ρ) : (X203 N).kc ((X203 N).sem ρ) 17 = F203.l8 N ((X203 N).kc ρ 5) N := Fx.okL [] (by kernel_rfl) (fun K ρ => by kernel_rfl) (h203_17 N) ρ (F203.l8 N ((X203 N).kc ρ 5)) rfl fun n ρ' e d => by rw [e, d 5 rfl]; rfl
theorem h203_14 (K ρ) : (X203 N).bd K ρ 14 = F203.j7b N ((X203 N).kc K 17) ((X203 N).kc ρ 5) := by kernel_rfl
theorem o203_14 (ρ) : (X203 N).kc ((X203 N).sem ρ) 14 = F203.j7 N ((X203 N).kc ρ 5) := (Fx.okJ [17] (by kernel_rfl) (fun K ρ => by kernel_rfl) (h203_14 N) ρ).trans (by rw [o203_17]; rfl)
theorem h203_5 (K ρ) : (X203 N).bd K ρ 5 = F203.l2b N ((X203 N).kc K 14) ((X203 N).kc ρ 5) := by kernel_rfl
theorem o203_5 (ρ) : (X203 N).kc ((X203 N).sem ρ) 5 = F203.l2 N N := Fx.okL [14, 17] (by kernel_rfl) (fun K ρ => by kernel_rfl) (h203_5 N) ρ (F203.l2 N) rfl fun n ρ' e d => by rw [o203_14, e]; rfl
theorem h203 (K) : (X203 N).top K = F203.b N ((X203 N).kc K 5) := by kernel_rfl
theorem sum203 : SumOk Tryz.prog 203 (S203 N) := Fx.ok1 (X203 N) tabok Tryz.func203 (by kernel_rfl) trivial [5] (fun K => by kernel_rfl) (h203 N) (by rw [o203_5]; rfl)

noncomputable def X207 : Fx := ⟨24, tab, [], N, Tryz.f207, [.v LtI2, .v I], [.v I], [⟨5, [(0, .v LtI2), (1, .v I), (5, .v I)], [1, 0, 1, 0, 0], []⟩], none⟩
noncomputable abbrev S207 : Summ := (X207 N).S true (F207 N)
theorem h207_5 (K ρ) : (X207 N).bd K ρ 5 = F207.l2b N ((X207 N).kc ρ 5) := by kernel_rfl
theorem o207_5 (ρ) : (X207 N).kc ((X207 N).sem ρ) 5 = F207.l2 N N := Fx.okL [] (by kernel_rfl) (fun K ρ => by kernel_rfl) (h207_5 N) ρ (F207.l2 N) rfl fun n ρ' e d => by rw [e]; rfl
theorem h207 (K) : (X207 N).top K = F207.b N ((X207 N).kc K 5) := by kernel_rfl
theorem sum207 : SumOk Tryz.prog 207 (S207 N) := Fx.ok1 (X207 N) tabok Tryz.func207 (by kernel_rfl) trivial [5] (fun K => by kernel_rfl) (h207 N) (by rw [o207_5]; rfl)

noncomputable def X132 : Fx := ⟨28, tab, [(206, S206 N), (203, S203 N), (207, S207 N)], N, Tryz.f132, [.v LtI2, .v LtI4], [.v B], [⟨9, [(0, .v LtI2), (1, .v LtI4), (5, .v I)], [1, 1, 0, 1, 0, 0], []⟩], none⟩
noncomputable abbrev S132 : Summ := (X132 N).S true (F132 N)
theorem h132_9 (K ρ) : (X132 N).bd K ρ 9 = F132.l4b N ((X132 N).kc ρ 9) := by kernel_rfl
theorem o132_9 (ρ) : (X132 N).kc ((X132 N).sem ρ) 9 = F132.l4 N N := Fx.okL [] (by kernel_rfl) (fun K ρ => by kernel_rfl) (h132_9 N) ρ (F132.l4 N) rfl fun n ρ' e d => by rw [e]; rfl
theorem h132 (K) : (X132 N).top K = F132.b N ((X132 N).kc K 9) := by kernel_rfl
theorem sum132 : SumOk Tryz.prog 132 (S132 N) := Fx.ok1 (X132 N) tabok Tryz.func132 (by kernel_rfl) ⟨sum206 N, sum203 N, sum207 N, trivial⟩ [9] (fun K => by kernel_rfl) (h132 N) (by rw [o132_9]; rfl)

noncomputable def X225 : Fx := ⟨22, tab, [], N, Tryz.f225, [.v LU], [.v LU], [⟨5, [(0, .v LU), (3, .v I)], [1, 1, 0, 0, 0], []⟩], none⟩
noncomputable abbrev S225 : Summ := (X225 N).S false (F225 N)
theorem h225_5 (K ρ) : (X225 N).bd K ρ 5 = F225.l2b N ((X225 N).kc ρ 5) := by kernel_rfl
theorem o225_5 (ρ) : (X225 N).kc ((X225 N).sem ρ) 5 = F225.l2 N N := Fx.okL [] (by kernel_rfl) (fun K ρ => by kernel_rfl) (h225_5 N) ρ (F225.l2 N) rfl fun n ρ' e d => by rw [e]; rfl
theorem h225 (K) : (X225 N).top K = F225.b N ((X225 N).kc K 5) := by kernel_rfl
theorem sum225 : SumOk Tryz.prog 225 (S225 N) := Fx.ok1 (X225 N) tabok Tryz.func225 (by kernel_rfl) trivial [5] (fun K => by kernel_rfl) (h225 N) (by rw [o225_5]; rfl)

noncomputable def X173 : Fx := ⟨9, tab, [(225, S225 N)], N, Tryz.f173, [.v U], [.v LU], [], none⟩
noncomputable abbrev S173 : Summ := (X173 N).S false (F173 N)
theorem sum173 : SumOk Tryz.prog 173 (S173 N) := Fx.ok0 (X173 N) tabok Tryz.func173 (by kernel_rfl) ⟨sum225 N, trivial⟩ (by kernel_rfl)

noncomputable def X169 : Fx := ⟨15, tab, [(225, S225 N)], N, Tryz.f169, [.v B, .v LU], [.v tBig], [], none⟩
noncomputable abbrev S169 : Summ := (X169 N).S false (F169 N)
theorem sum169 : SumOk Tryz.prog 169 (S169 N) := Fx.ok0 (X169 N) tabok Tryz.func169 (by kernel_rfl) ⟨sum225 N, trivial⟩ (by kernel_rfl)

noncomputable def X87 : Fx := ⟨15, tab, [(173, S173 N), (169, S169 N)], N, Tryz.f87, [.v I], [.v tBig], [], none⟩
noncomputable abbrev S87 : Summ := (X87 N).S false (F87 N)
theorem sum87 : SumOk Tryz.prog 87 (S87 N) := Fx.ok0 (X87 N) tabok Tryz.func87 (by kernel_rfl) ⟨sum173 N, sum169 N, trivial⟩ (by kernel_rfl)

noncomputable def X176 : Fx := ⟨13, tab, [], N, Tryz.f176, [.v LU, .v I], [.v U], [], none⟩
noncomputable abbrev S176 : Summ := (X176 N).S true (F176 N)
theorem sum176 : SumOk Tryz.prog 176 (S176 N) := Fx.ok0 (X176 N) tabok Tryz.func176 (by kernel_rfl) trivial (by kernel_rfl)

noncomputable def X170 : Fx := ⟨41, tab, [(176, S176 N)], N, Tryz.f170, [.v LU, .v LU], [.own U], [⟨12, [(0, .v LU), (1, .v LU), (5, .own U), (6, .v U), (7, .v I)], [1, 1, 1, 0, 1, 0, 0, 1], [9]⟩, ⟨9, [(0, .v LU), (1, .v LU), (5, .own U), (6, .v U), (7, .v I)], [1, 1, 1, 0, 1, 0, 0], []⟩], none⟩
noncomputable abbrev S170 : Summ := (X170 N).S false (F170 N)
theorem h170_12 (K ρ) : (X170 N).bd K ρ 12 = F170.j6b N ((X170 N).kc ρ 9) := by kernel_rfl
theorem o170_12 (ρ) : (X170 N).kc ((X170 N).sem ρ) 12 = F170.j6 N ((X170 N).kc ρ 9) := (Fx.okJ [] (by kernel_rfl) (fun K ρ => by kernel_rfl) (h170_12 N) ρ).trans rfl
theorem h170_9 (K ρ) : (X170 N).bd K ρ 9 = F170.l4b N ((X170 N).kc K 12) ((X170 N).kc ρ 9) := by kernel_rfl
theorem o170_9 (ρ) : (X170 N).kc ((X170 N).sem ρ) 9 = F170.l4 N N := Fx.okL [12] (by kernel_rfl) (fun K ρ => by kernel_rfl) (h170_9 N) ρ (F170.l4 N) rfl fun n ρ' e d => by rw [o170_12, e]; rfl
theorem h170 (K) : (X170 N).top K = F170.b N ((X170 N).kc K 9) := by kernel_rfl
theorem sum170 : SumOk Tryz.prog 170 (S170 N) := Fx.ok1 (X170 N) tabok Tryz.func170 (by kernel_rfl) ⟨sum176 N, trivial⟩ [9] (fun K => by kernel_rfl) (h170 N) (by rw [o170_9]; rfl)

noncomputable def X171 : Fx := ⟨41, tab, [], N, Tryz.f171, [.v LU, .v LU], [.v I], [⟨13, [(0, .v LU), (1, .v LU), (5, .v I)], [1, 1, 0, 1, 0, 0], []⟩], none⟩
noncomputable abbrev S171 : Summ := (X171 N).S true (F171 N)
theorem h171_13 (K ρ) : (X171 N).bd K ρ 13 = F171.l6b N ((X171 N).kc ρ 13) := by kernel_rfl
theorem o171_13 (ρ) : (X171 N).kc ((X171 N).sem ρ) 13 = F171.l6 N N := Fx.okL [] (by kernel_rfl) (fun K ρ => by kernel_rfl) (h171_13 N) ρ (F171.l6 N) rfl fun n ρ' e d => by rw [e]; rfl
theorem h171 (K) : (X171 N).top K = F171.b N ((X171 N).kc K 13) := by kernel_rfl
theorem sum171 : SumOk Tryz.prog 171 (S171 N) := Fx.ok1 (X171 N) tabok Tryz.func171 (by kernel_rfl) trivial [13] (fun K => by kernel_rfl) (h171 N) (by rw [o171_13]; rfl)

noncomputable def X172 : Fx := ⟨37, tab, [(176, S176 N)], N, Tryz.f172, [.v LU, .v LU], [.own U], [⟨9, [(0, .v LU), (1, .v LU), (5, .own U), (6, .v U), (7, .v I)], [1, 1, 1, 0, 1, 0, 0], []⟩], none⟩
noncomputable abbrev S172 : Summ := (X172 N).S false (F172 N)
theorem h172_9 (K ρ) : (X172 N).bd K ρ 9 = F172.l4b N ((X172 N).kc ρ 9) := by kernel_rfl
theorem o172_9 (ρ) : (X172 N).kc ((X172 N).sem ρ) 9 = F172.l4 N N := Fx.okL [] (by kernel_rfl) (fun K ρ => by kernel_rfl) (h172_9 N) ρ (F172.l4 N) rfl fun n ρ' e d => by rw [e]; rfl
theorem h172 (K) : (X172 N).top K = F172.b N ((X172 N).kc K 9) := by kernel_rfl
theorem sum172 : SumOk Tryz.prog 172 (S172 N) := Fx.ok1 (X172 N) tabok Tryz.func172 (by kernel_rfl) ⟨sum176 N, trivial⟩ [9] (fun K => by kernel_rfl) (h172 N) (by rw [o172_9]; rfl)

noncomputable def X85 : Fx := ⟨40, tab, [(170, S170 N), (169, S169 N), (171, S171 N), (172, S172 N)], N, Tryz.f85, [.v tBig, .v tBig], [.v tBig], [], none⟩
noncomputable abbrev S85 : Summ := (X85 N).S false (F85 N)
theorem sum85 : SumOk Tryz.prog 85 (S85 N) := Fx.ok0 (X85 N) tabok Tryz.func85 (by kernel_rfl) ⟨sum170 N, sum169 N, sum171 N, sum172 N, trivial⟩ (by kernel_rfl)

noncomputable def X208 : Fx := ⟨33, tab, [(108, S108 N), (87, S87 N), (85, S85 N)], N, Tryz.f208, [.v LtI3, .v I], [.v tBig], [⟨11, [(0, .v LtI3), (1, .v I), (4, .obj tBig), (5, .obj tBig), (6, .v I)], [1, 1, 1, 0, 1, 0, 0], []⟩], none⟩
noncomputable abbrev S208 : Summ := (X208 N).S false (F208 N)
theorem h208_11 (K ρ) : (X208 N).bd K ρ 11 = F208.l5b N ((X208 N).kc ρ 11) := by kernel_rfl
theorem o208_11 (ρ) : (X208 N).kc ((X208 N).sem ρ) 11 = F208.l5 N N := Fx.okL [] (by kernel_rfl) (fun K ρ => by kernel_rfl) (h208_11 N) ρ (F208.l5 N) rfl fun n ρ' e d => by rw [e]; rfl
theorem h208 (K) : (X208 N).top K = F208.b N ((X208 N).kc K 11) := by kernel_rfl
theorem sum208 : SumOk Tryz.prog 208 (S208 N) := Fx.ok1 (X208 N) tabok Tryz.func208 (by kernel_rfl) ⟨sum108 N, sum87 N, sum85 N, trivial⟩ [11] (fun K => by kernel_rfl) (h208 N) (by rw [o208_11]; rfl)

noncomputable def X135 : Fx := ⟨9, tab, [], N, Tryz.f135, [.v tBig], [.v I], [], none⟩
noncomputable abbrev S135 : Summ := (X135 N).S true (F135 N)
theorem sum135 : SumOk Tryz.prog 135 (S135 N) := Fx.ok0 (X135 N) tabok Tryz.func135 (by kernel_rfl) trivial (by kernel_rfl)

noncomputable def X133 : Fx := ⟨15, tab, [(208, S208 N), (135, S135 N), (108, S108 N)], N, Tryz.f133, [.v LtI3], [.v B], [⟨5, [(0, .v LtI3), (3, .v I)], [1, 0, 1, 0, 0], []⟩], none⟩
noncomputable abbrev S133 : Summ := (X133 N).S true (F133 N)
theorem h133_5 (K ρ) : (X133 N).bd K ρ 5 = F133.l2b N ((X133 N).kc ρ 5) := by kernel_rfl
theorem o133_5 (ρ) : (X133 N).kc ((X133 N).sem ρ) 5 = F133.l2 N N := Fx.okL [] (by kernel_rfl) (fun K ρ => by kernel_rfl) (h133_5 N) ρ (F133.l2 N) rfl fun n ρ' e d => by rw [e]; rfl
theorem h133 (K) : (X133 N).top K = F133.b N ((X133 N).kc K 5) := by kernel_rfl
theorem sum133 : SumOk Tryz.prog 133 (S133 N) := Fx.ok1 (X133 N) tabok Tryz.func133 (by kernel_rfl) ⟨sum208 N, sum135 N, sum108 N, trivial⟩ [5] (fun K => by kernel_rfl) (h133 N) (by rw [o133_5]; rfl)

noncomputable def X123 : Fx := ⟨9, tab, [], N, Tryz.f123, [.v I], [.v B], [], none⟩
noncomputable abbrev S123 : Summ := (X123 N).S true (F123 N)
theorem sum123 : SumOk Tryz.prog 123 (S123 N) := Fx.ok0 (X123 N) tabok Tryz.func123 (by kernel_rfl) trivial (by kernel_rfl)

noncomputable def X149 : Fx := ⟨56, tab, [(123, S123 N)], N, Tryz.f149, [.v tI6], [.v B], [], none⟩
noncomputable abbrev S149 : Summ := (X149 N).S true (F149 N)
theorem sum149 : SumOk Tryz.prog 149 (S149 N) := Fx.ok0 (X149 N) tabok Tryz.func149 (by kernel_rfl) ⟨sum123 N, trivial⟩ (by kernel_rfl)

noncomputable def X134 : Fx := ⟨37, tab, [(149, S149 N)], N, Tryz.f134, [.v LtI6], [.v B], [⟨9, [(0, .v LtI6), (3, .v I)], [1, 1, 0, 1, 0, 0], []⟩], none⟩
noncomputable abbrev S134 : Summ := (X134 N).S true (F134 N)
theorem h134_9 (K ρ) : (X134 N).bd K ρ 9 = F134.l4b N ((X134 N).kc ρ 9) := by kernel_rfl
theorem o134_9 (ρ) : (X134 N).kc ((X134 N).sem ρ) 9 = F134.l4 N N := Fx.okL [] (by kernel_rfl) (fun K ρ => by kernel_rfl) (h134_9 N) ρ (F134.l4 N) rfl fun n ρ' e d => by rw [e]; rfl
theorem h134 (K) : (X134 N).top K = F134.b N ((X134 N).kc K 9) := by kernel_rfl
theorem sum134 : SumOk Tryz.prog 134 (S134 N) := Fx.ok1 (X134 N) tabok Tryz.func134 (by kernel_rfl) ⟨sum149 N, trivial⟩ [9] (fun K => by kernel_rfl) (h134 N) (by rw [o134_9]; rfl)

noncomputable def X136 : Fx := ⟨24, tab, [(109, S109 N), (87, S87 N), (85, S85 N)], N, Tryz.f136, [.v LtI3], [.v tBig], [⟨11, [(0, .v LtI3), (2, .obj tBig), (3, .obj tBig), (4, .v I)], [1, 1, 1, 0, 1, 0, 0], []⟩], none⟩
noncomputable abbrev S136 : Summ := (X136 N).S false (F136 N)
theorem h136_11 (K ρ) : (X136 N).bd K ρ 11 = F136.l5b N ((X136 N).kc ρ 11) := by kernel_rfl
theorem o136_11 (ρ) : (X136 N).kc ((X136 N).sem ρ) 11 = F136.l5 N N := Fx.okL [] (by kernel_rfl) (fun K ρ => by kernel_rfl) (h136_11 N) ρ (F136.l5 N) rfl fun n ρ' e d => by rw [e]; rfl
theorem h136 (K) : (X136 N).top K = F136.b N ((X136 N).kc K 11) := by kernel_rfl
theorem sum136 : SumOk Tryz.prog 136 (S136 N) := Fx.ok1 (X136 N) tabok Tryz.func136 (by kernel_rfl) ⟨sum109 N, sum87 N, sum85 N, trivial⟩ [11] (fun K => by kernel_rfl) (h136 N) (by rw [o136_11]; rfl)

noncomputable def X204 : Fx := ⟨25, tab, [], N, Tryz.f204, [.v LtI4, .v I], [.v tI4, .v B], [⟨5, [(0, .v LtI4), (1, .v I), (4, .obj tI4), (6, .v I)], [1, 0, 1, 0, 0], []⟩], none⟩
noncomputable abbrev S204 : Summ := (X204 N).S true (F204 N)
theorem h204_5 (K ρ) : (X204 N).bd K ρ 5 = F204.l2b N ((X204 N).kc ρ 5) := by kernel_rfl
theorem o204_5 (ρ) : (X204 N).kc ((X204 N).sem ρ) 5 = F204.l2 N N := Fx.okL [] (by kernel_rfl) (fun K ρ => by kernel_rfl) (h204_5 N) ρ (F204.l2 N) rfl fun n ρ' e d => by rw [e]; rfl
theorem h204 (K) : (X204 N).top K = F204.b N ((X204 N).kc K 5) := by kernel_rfl
theorem sum204 : SumOk Tryz.prog 204 (S204 N) := Fx.ok1 (X204 N) tabok Tryz.func204 (by kernel_rfl) trivial [5] (fun K => by kernel_rfl) (h204 N) (by rw [o204_5]; rfl)

noncomputable def X125 : Fx := ⟨15, tab, [(203, S203 N), (204, S204 N)], N, Tryz.f125, [.v LtI4, .v I], [.v tI4, .v B], [], none⟩
noncomputable abbrev S125 : Summ := (X125 N).S true (F125 N)
theorem sum125 : SumOk Tryz.prog 125 (S125 N) := Fx.ok0 (X125 N) tabok Tryz.func125 (by kernel_rfl) ⟨sum203 N, sum204 N, trivial⟩ (by kernel_rfl)

noncomputable def X120 : Fx := ⟨19, tab, [(125, S125 N)], N, Tryz.f120, [.v tBook, .v I], [.v B], [], none⟩
noncomputable abbrev S120 : Summ := (X120 N).S true (F120 N)
theorem sum120 : SumOk Tryz.prog 120 (S120 N) := Fx.ok0 (X120 N) tabok Tryz.func120 (by kernel_rfl) ⟨sum125 N, trivial⟩ (by kernel_rfl)

noncomputable def X127 : Fx := ⟨11, tab, [(206, S206 N), (207, S207 N)], N, Tryz.f127, [.v LtI2, .v I], [.v I], [], none⟩
noncomputable abbrev S127 : Summ := (X127 N).S true (F127 N)
theorem sum127 : SumOk Tryz.prog 127 (S127 N) := Fx.ok0 (X127 N) tabok Tryz.func127 (by kernel_rfl) ⟨sum206 N, sum207 N, trivial⟩ (by kernel_rfl)

noncomputable def X52 : Fx := ⟨163, tab, [(41, S41 N), (132, S132 N), (109, S109 N), (133, S133 N), (134, S134 N), (136, S136 N), (135, S135 N), (120, S120 N), (127, S127 N), (123, S123 N)], N, Tryz.f52, [.v tConfig, .v tBook], [.v B], [⟨45, [(2, .obj tConfig), (3, .obj tBook), (9, .v I)], [1, 1, 1, 1, 1, 1, 0, 1, 0, 0], []⟩, ⟨35, [(2, .obj tConfig), (3, .obj tBook), (8, .v I)], [1, 1, 1, 1, 1, 0, 1, 0, 0], []⟩, ⟨25, [(2, .obj tConfig), (3, .obj tBook), (7, .v I)], [1, 1, 1, 1, 0, 1, 0, 0], []⟩, ⟨13, [(2, .obj tConfig), (3, .obj tBook), (5, .v I)], [1, 1, 1, 0, 1, 0, 0], []⟩], none⟩
noncomputable abbrev S52 : Summ := (X52 N).S true (F52 N)
theorem h52_45 (K ρ) : (X52 N).bd K ρ 45 = F52.l22b N ((X52 N).kc ρ 45) := by kernel_rfl
theorem o52_45 (ρ) : (X52 N).kc ((X52 N).sem ρ) 45 = F52.l22 N N := Fx.okL [] (by kernel_rfl) (fun K ρ => by kernel_rfl) (h52_45 N) ρ (F52.l22 N) rfl fun n ρ' e d => by rw [e]; rfl
theorem h52_35 (K ρ) : (X52 N).bd K ρ 35 = F52.l17b N ((X52 N).kc K 45) ((X52 N).kc ρ 35) := by kernel_rfl
theorem o52_35 (ρ) : (X52 N).kc ((X52 N).sem ρ) 35 = F52.l17 N N := Fx.okL [45] (by kernel_rfl) (fun K ρ => by kernel_rfl) (h52_35 N) ρ (F52.l17 N) rfl fun n ρ' e d => by rw [o52_45, e]; rfl
theorem h52_25 (K ρ) : (X52 N).bd K ρ 25 = F52.l12b N ((X52 N).kc K 35) ((X52 N).kc ρ 25) := by kernel_rfl
theorem o52_25 (ρ) : (X52 N).kc ((X52 N).sem ρ) 25 = F52.l12 N N := Fx.okL [35, 45] (by kernel_rfl) (fun K ρ => by kernel_rfl) (h52_25 N) ρ (F52.l12 N) rfl fun n ρ' e d => by rw [o52_35, e]; rfl
theorem h52_13 (K ρ) : (X52 N).bd K ρ 13 = F52.l6b N ((X52 N).kc K 25) ((X52 N).kc ρ 13) := by kernel_rfl
theorem o52_13 (ρ) : (X52 N).kc ((X52 N).sem ρ) 13 = F52.l6 N N := Fx.okL [25, 35, 45] (by kernel_rfl) (fun K ρ => by kernel_rfl) (h52_13 N) ρ (F52.l6 N) rfl fun n ρ' e d => by rw [o52_25, e]; rfl
theorem h52 (K) : (X52 N).top K = F52.b N ((X52 N).kc K 13) := by kernel_rfl
theorem sum52 : SumOk Tryz.prog 52 (S52 N) := Fx.ok1 (X52 N) tabok Tryz.func52 (by kernel_rfl) ⟨sum41 N, sum132 N, sum109 N, sum133 N, sum134 N, sum136 N, sum135 N, sum120 N, sum127 N, sum123 N, trivial⟩ [13, 25, 35, 45] (fun K => by kernel_rfl) (h52 N) (by rw [o52_13]; rfl)

noncomputable def X150 : Fx := ⟨71, tab, [(176, S176 N), (169, S169 N)], N, Tryz.f150, [.v tBig, .v tBig], [.v tBig], [⟨18, [(2, .obj tBig), (3, .obj tBig), (4, .obj tBig), (5, .own U), (6, .v I), (7, .v U), (8, .v I)], [1, 1, 0, 1, 0, 0, 1, 0, 0, 1, 1, 0, 0, 1], [7, 15]⟩, ⟨15, [(2, .obj tBig), (3, .obj tBig), (4, .obj tBig), (5, .own U), (6, .v I), (7, .v U), (8, .v I)], [1, 1, 0, 1, 0, 0, 1, 0, 0, 1, 1, 0, 0], [7]⟩, ⟨7, [(2, .obj tBig), (3, .obj tBig), (4, .obj tBig), (5, .own U), (6, .v I)], [1, 1, 0, 1, 0, 0], []⟩], none⟩
noncomputable abbrev S150 : Summ := (X150 N).S false (F150 N)
theorem h150_18 (K ρ) : (X150 N).bd K ρ 18 = F150.j9b N ((X150 N).kc ρ 7) ((X150 N).kc ρ 15) := by kernel_rfl
theorem o150_18 (ρ) : (X150 N).kc ((X150 N).sem ρ) 18 = F150.j9 N ((X150 N).kc ρ 7) ((X150 N).kc ρ 15) := (Fx.okJ [] (by kernel_rfl) (fun K ρ => by kernel_rfl) (h150_18 N) ρ).trans rfl
theorem h150_15 (K ρ) : (X150 N).bd K ρ 15 = F150.l7b N ((X150 N).kc K 18) ((X150 N).kc ρ 7) ((X150 N).kc ρ 15) := by kernel_rfl
theorem o150_15 (ρ) : (X150 N).kc ((X150 N).sem ρ) 15 = F150.l7 N ((X150 N).kc ρ 7) N := Fx.okL [18] (by kernel_rfl) (fun K ρ => by kernel_rfl) (h150_15 N) ρ (F150.l7 N ((X150 N).kc ρ 7)) rfl fun n ρ' e d => by rw [o150_18, e, d 7 rfl]; rfl
theorem h150_7 (K ρ) : (X150 N).bd K ρ 7 = F150.l3b N ((X150 N).kc K 15) ((X150 N).kc ρ 7) := by kernel_rfl
theorem o150_7 (ρ) : (X150 N).kc ((X150 N).sem ρ) 7 = F150.l3 N N := Fx.okL [15] (by kernel_rfl) (fun K ρ => by kernel_rfl) (h150_7 N) ρ (F150.l3 N) rfl fun n ρ' e d => by rw [o150_15, e]; rfl
theorem h150 (K) : (X150 N).top K = F150.b N ((X150 N).kc K 7) := by kernel_rfl
theorem sum150 : SumOk Tryz.prog 150 (S150 N) := Fx.ok1 (X150 N) tabok Tryz.func150 (by kernel_rfl) ⟨sum176 N, sum169 N, trivial⟩ [7] (fun K => by kernel_rfl) (h150 N) (by rw [o150_7]; rfl)

noncomputable def X68 : Fx := ⟨48, tab, [(52, S52 N), (37, S37 N), (87, S87 N), (150, S150 N), (85, S85 N)], N, Tryz.f68, [.v tConfig, .v tBook], [.own tBig, .v I], [⟨11, [(2, .obj tConfig), (3, .obj tBook), (6, .own tBig), (7, .v I)], [1, 1, 1, 0, 1, 0, 0], []⟩], none⟩
noncomputable abbrev S68 : Summ := (X68 N).S false (F68 N)
theorem h68_11 (K ρ) : (X68 N).bd K ρ 11 = F68.l5b N ((X68 N).kc ρ 11) := by kernel_rfl
theorem o68_11 (ρ) : (X68 N).kc ((X68 N).sem ρ) 11 = F68.l5 N N := Fx.okL [] (by kernel_rfl) (fun K ρ => by kernel_rfl) (h68_11 N) ρ (F68.l5 N) rfl fun n ρ' e d => by rw [e]; rfl
theorem h68 (K) : (X68 N).top K = F68.b N ((X68 N).kc K 11) := by kernel_rfl
theorem sum68 : SumOk Tryz.prog 68 (S68 N) := Fx.ok1 (X68 N) tabok Tryz.func68 (by kernel_rfl) ⟨sum52 N, sum37 N, sum87 N, sum150 N, sum85 N, trivial⟩ [11] (fun K => by kernel_rfl) (h68 N) (by rw [o68_11]; rfl)

noncomputable def X157 : Fx := ⟨31, tab, [(41, S41 N)], N, Tryz.f157, [.v tConfig, .v I], [.own I], [⟨11, [(1, .v I), (2, .obj tConfig), (5, .own I), (6, .v I)], [1, 1, 1, 0, 1, 0, 0], []⟩], none⟩
noncomputable abbrev S157 : Summ := (X157 N).S false (F157 N)
theorem h157_11 (K ρ) : (X157 N).bd K ρ 11 = F157.l5b N ((X157 N).kc ρ 11) := by kernel_rfl
theorem o157_11 (ρ) : (X157 N).kc ((X157 N).sem ρ) 11 = F157.l5 N N := Fx.okL [] (by kernel_rfl) (fun K ρ => by kernel_rfl) (h157_11 N) ρ (F157.l5 N) rfl fun n ρ' e d => by rw [e]; rfl
theorem h157 (K) : (X157 N).top K = F157.b N ((X157 N).kc K 11) := by kernel_rfl
theorem sum157 : SumOk Tryz.prog 157 (S157 N) := Fx.ok1 (X157 N) tabok Tryz.func157 (by kernel_rfl) ⟨sum41 N, trivial⟩ [11] (fun K => by kernel_rfl) (h157 N) (by rw [o157_11]; rfl)

noncomputable def X86 : Fx := ⟨6, tab, [(169, S169 N)], N, Tryz.f86, [.v tBig], [.v tBig], [], none⟩
noncomputable abbrev S86 : Summ := (X86 N).S false (F86 N)
theorem sum86 : SumOk Tryz.prog 86 (S86 N) := Fx.ok0 (X86 N) tabok Tryz.func86 (by kernel_rfl) ⟨sum169 N, trivial⟩ (by kernel_rfl)

noncomputable def X92 : Fx := ⟨9, tab, [(169, S169 N)], N, Tryz.f92, [.v tBig], [.v tBig], [], none⟩
noncomputable abbrev S92 : Summ := (X92 N).S false (F92 N)
theorem sum92 : SumOk Tryz.prog 92 (S92 N) := Fx.ok0 (X92 N) tabok Tryz.func92 (by kernel_rfl) ⟨sum169 N, trivial⟩ (by kernel_rfl)

noncomputable def X147 : Fx := ⟨9, tab, [(92, S92 N), (85, S85 N)], N, Tryz.f147, [.v tBig, .v tBig], [.v tBig], [], none⟩
noncomputable abbrev S147 : Summ := (X147 N).S false (F147 N)
theorem sum147 : SumOk Tryz.prog 147 (S147 N) := Fx.ok0 (X147 N) tabok Tryz.func147 (by kernel_rfl) ⟨sum92 N, sum85 N, trivial⟩ (by kernel_rfl)

noncomputable def X130 : Fx := ⟨9, tab, [(147, S147 N), (135, S135 N)], N, Tryz.f130, [.v tBig, .v tBig], [.v I], [], none⟩
noncomputable abbrev S130 : Summ := (X130 N).S true (F130 N)
theorem sum130 : SumOk Tryz.prog 130 (S130 N) := Fx.ok0 (X130 N) tabok Tryz.func130 (by kernel_rfl) ⟨sum147 N, sum135 N, trivial⟩ (by kernel_rfl)

noncomputable def X217 : Fx := ⟨35, tab, [(225, S225 N)], N, Tryz.f217, [.v LU], [.v LU, .v U], [⟨9, [(0, .v LU), (4, .own U), (5, .v U), (6, .v I)], [1, 1, 1, 0, 1, 0, 0], []⟩], none⟩
noncomputable abbrev S217 : Summ := (X217 N).S false (F217 N)
theorem h217_9 (K ρ) : (X217 N).bd K ρ 9 = F217.l4b N ((X217 N).kc ρ 9) := by kernel_rfl
theorem o217_9 (ρ) : (X217 N).kc ((X217 N).sem ρ) 9 = F217.l4 N N := Fx.okL [] (by kernel_rfl) (fun K ρ => by kernel_rfl) (h217_9 N) ρ (F217.l4 N) rfl fun n ρ' e d => by rw [e]; rfl
theorem h217 (K) : (X217 N).top K = F217.b N ((X217 N).kc K 9) := by kernel_rfl
theorem sum217 : SumOk Tryz.prog 217 (S217 N) := Fx.ok1 (X217 N) tabok Tryz.func217 (by kernel_rfl) ⟨sum225 N, trivial⟩ [9] (fun K => by kernel_rfl) (h217 N) (by rw [o217_9]; rfl)

noncomputable def X158 : Fx := ⟨77, tab, [(217, S217 N), (85, S85 N), (87, S87 N), (130, S130 N), (147, S147 N), (135, S135 N), (92, S92 N)], N, Tryz.f158, [.v tBig, .v tBig], [.v tBig, .v tBig], [⟨19, [(2, .obj tBig), (3, .obj tBig), (4, .obj tBig), (5, .obj tBig), (6, .own U), (10, .obj tBig), (11, .obj tBig), (12, .v I)], [1, 1, 1, 1, 0, 1, 0, 0], []⟩, ⟨7, [(2, .obj tBig), (3, .obj tBig), (4, .obj tBig), (5, .obj tBig), (6, .own U), (7, .v LU)], [1, 1, 0, 1, 0, 0], []⟩], none⟩
noncomputable abbrev S158 : Summ := (X158 N).S false (F158 N)
theorem h158_19 (K ρ) : (X158 N).bd K ρ 19 = F158.l9b N ((X158 N).kc ρ 19) := by kernel_rfl
theorem o158_19 (ρ) : (X158 N).kc ((X158 N).sem ρ) 19 = F158.l9 N N := Fx.okL [] (by kernel_rfl) (fun K ρ => by kernel_rfl) (h158_19 N) ρ (F158.l9 N) rfl fun n ρ' e d => by rw [e]; rfl
theorem h158_7 (K ρ) : (X158 N).bd K ρ 7 = F158.l3b N ((X158 N).kc K 19) ((X158 N).kc ρ 7) := by kernel_rfl
theorem o158_7 (ρ) : (X158 N).kc ((X158 N).sem ρ) 7 = F158.l3 N N := Fx.okL [19] (by kernel_rfl) (fun K ρ => by kernel_rfl) (h158_7 N) ρ (F158.l3 N) rfl fun n ρ' e d => by rw [o158_19, e]; rfl
theorem h158 (K) : (X158 N).top K = F158.b N ((X158 N).kc K 7) := by kernel_rfl
theorem sum158 : SumOk Tryz.prog 158 (S158 N) := Fx.ok1 (X158 N) tabok Tryz.func158 (by kernel_rfl) ⟨sum217 N, sum85 N, sum87 N, sum130 N, sum147 N, sum135 N, sum92 N, trivial⟩ [7, 19] (fun K => by kernel_rfl) (h158 N) (by rw [o158_7]; rfl)

noncomputable def X91 : Fx := ⟨28, tab, [(176, S176 N)], N, Tryz.f91, [.v tBig], [.v I, .v B], [], none⟩
noncomputable abbrev S91 : Summ := (X91 N).S true (F91 N)
theorem sum91 : SumOk Tryz.prog 91 (S91 N) := Fx.ok0 (X91 N) tabok Tryz.func91 (by kernel_rfl) ⟨sum176 N, trivial⟩ (by kernel_rfl)

noncomputable def X69 : Fx := ⟨104, tab, [(68, S68 N), (157, S157 N), (86, S86 N), (87, S87 N), (130, S130 N), (158, S158 N), (91, S91 N), (135, S135 N)], N, Tryz.f69, [.v tConfig, .v tBook, .v I], [.own tI4, .v I], [⟨30, [(2, .v I), (3, .obj tConfig), (4, .obj tBook), (8, .own tBig), (10, .own tI4), (11, .v I), (12, .own I), (16, .v I)], [1, 1, 1, 1, 0, 1, 0, 0, 1, 0, 0, 1, 1, 1, 1, 1, 1], [13]⟩, ⟨13, [(2, .v I), (3, .obj tConfig), (4, .obj tBook), (8, .own tBig), (10, .own tI4), (11, .v I)], [1, 1, 1, 1, 0, 1, 0, 0], []⟩], none⟩
noncomputable abbrev S69 : Summ := (X69 N).S false (F69 N)
theorem h69_30 (K ρ) : (X69 N).bd K ρ 30 = F69.j15b N ((X69 N).kc ρ 13) := by kernel_rfl
theorem o69_30 (ρ) : (X69 N).kc ((X69 N).sem ρ) 30 = F69.j15 N ((X69 N).kc ρ 13) := (Fx.okJ [] (by kernel_rfl) (fun K ρ => by kernel_rfl) (h69_30 N) ρ).trans rfl
theorem h69_13 (K ρ) : (X69 N).bd K ρ 13 = F69.l6b N ((X69 N).kc K 30) ((X69 N).kc ρ 13) := by kernel_rfl
theorem o69_13 (ρ) : (X69 N).kc ((X69 N).sem ρ) 13 = F69.l6 N N := Fx.okL [30] (by kernel_rfl) (fun K ρ => by kernel_rfl) (h69_13 N) ρ (F69.l6 N) rfl fun n ρ' e d => by rw [o69_30, e]; rfl
theorem h69 (K) : (X69 N).top K = F69.b N ((X69 N).kc K 13) := by kernel_rfl
theorem sum69 : SumOk Tryz.prog 69 (S69 N) := Fx.ok1 (X69 N) tabok Tryz.func69 (by kernel_rfl) ⟨sum68 N, sum157 N, sum86 N, sum87 N, sum130 N, sum158 N, sum91 N, sum135 N, trivial⟩ [13] (fun K => by kernel_rfl) (h69 N) (by rw [o69_13]; rfl)

noncomputable def X72 : Fx := ⟨41, tab, [], N, Tryz.f72, [.v tI4], [.v B], [], none⟩
noncomputable abbrev S72 : Summ := (X72 N).S true (F72 N)
theorem sum72 : SumOk Tryz.prog 72 (S72 N) := Fx.ok0 (X72 N) tabok Tryz.func72 (by kernel_rfl) trivial (by kernel_rfl)

noncomputable def X84 : Fx := ⟨39, tab, [(108, S108 N)], N, Tryz.f84, [.v LtI3, .v I], [.own tI2], [⟨11, [(0, .v LtI3), (1, .v I), (5, .own tI2), (6, .v I)], [1, 1, 1, 0, 1, 0, 0], []⟩], none⟩
noncomputable abbrev S84 : Summ := (X84 N).S false (F84 N)
theorem h84_11 (K ρ) : (X84 N).bd K ρ 11 = F84.l5b N ((X84 N).kc ρ 11) := by kernel_rfl
theorem o84_11 (ρ) : (X84 N).kc ((X84 N).sem ρ) 11 = F84.l5 N N := Fx.okL [] (by kernel_rfl) (fun K ρ => by kernel_rfl) (h84_11 N) ρ (F84.l5 N) rfl fun n ρ' e d => by rw [e]; rfl
theorem h84 (K) : (X84 N).top K = F84.b N ((X84 N).kc K 11) := by kernel_rfl
theorem sum84 : SumOk Tryz.prog 84 (S84 N) := Fx.ok1 (X84 N) tabok Tryz.func84 (by kernel_rfl) ⟨sum108 N, trivial⟩ [11] (fun K => by kernel_rfl) (h84 N) (by rw [o84_11]; rfl)

noncomputable def X152 : Fx := ⟨74, tab, [], N, Tryz.f152, [.v LtI6, .v I], [.own tI3], [⟨15, [(0, .v LtI6), (1, .v I), (5, .own tI3), (6, .v I), (7, .obj tI3), (8, .v I)], [1, 1, 0, 1, 0, 0, 1, 0, 0, 1, 0, 1, 0, 0], [7]⟩, ⟨7, [(0, .v LtI6), (1, .v I), (5, .own tI3), (6, .v I)], [1, 1, 0, 1, 0, 0], []⟩], none⟩
noncomputable abbrev S152 : Summ := (X152 N).S false (F152 N)
theorem h152_15 (K ρ) : (X152 N).bd K ρ 15 = F152.l7b N ((X152 N).kc ρ 7) ((X152 N).kc ρ 15) := by kernel_rfl
theorem o152_15 (ρ) : (X152 N).kc ((X152 N).sem ρ) 15 = F152.l7 N ((X152 N).kc ρ 7) N := Fx.okL [] (by kernel_rfl) (fun K ρ => by kernel_rfl) (h152_15 N) ρ (F152.l7 N ((X152 N).kc ρ 7)) rfl fun n ρ' e d => by rw [e, d 7 rfl]; rfl
theorem h152_7 (K ρ) : (X152 N).bd K ρ 7 = F152.l3b N ((X152 N).kc K 15) ((X152 N).kc ρ 7) := by kernel_rfl
theorem o152_7 (ρ) : (X152 N).kc ((X152 N).sem ρ) 7 = F152.l3 N N := Fx.okL [15] (by kernel_rfl) (fun K ρ => by kernel_rfl) (h152_7 N) ρ (F152.l3 N) rfl fun n ρ' e d => by rw [o152_15, e]; rfl
theorem h152 (K) : (X152 N).top K = F152.b N ((X152 N).kc K 7) := by kernel_rfl
theorem sum152 : SumOk Tryz.prog 152 (S152 N) := Fx.ok1 (X152 N) tabok Tryz.func152 (by kernel_rfl) trivial [7] (fun K => by kernel_rfl) (h152 N) (by rw [o152_7]; rfl)

noncomputable def X93 : Fx := ⟨66, tab, [(41, S41 N)], N, Tryz.f93, [.v tConfig, .v LtI2], [.v B], [⟨9, [(1, .v LtI2), (2, .obj tConfig), (5, .v I)], [1, 1, 0, 1, 0, 0], []⟩], none⟩
noncomputable abbrev S93 : Summ := (X93 N).S true (F93 N)
theorem h93_9 (K ρ) : (X93 N).bd K ρ 9 = F93.l4b N ((X93 N).kc ρ 9) := by kernel_rfl
theorem o93_9 (ρ) : (X93 N).kc ((X93 N).sem ρ) 9 = F93.l4 N N := Fx.okL [] (by kernel_rfl) (fun K ρ => by kernel_rfl) (h93_9 N) ρ (F93.l4 N) rfl fun n ρ' e d => by rw [e]; rfl
theorem h93 (K) : (X93 N).top K = F93.b N ((X93 N).kc K 9) := by kernel_rfl
theorem sum93 : SumOk Tryz.prog 93 (S93 N) := Fx.ok1 (X93 N) tabok Tryz.func93 (by kernel_rfl) ⟨sum41 N, trivial⟩ [9] (fun K => by kernel_rfl) (h93 N) (by rw [o93_9]; rfl)

noncomputable def X214 : Fx := ⟨79, tab, [(41, S41 N)], N, Tryz.f214, [.v tConfig, .v LtI3], [.v B], [⟨11, [(1, .v LtI3), (2, .obj tConfig), (5, .v I), (6, .v I)], [1, 1, 1, 0, 1, 0, 0], []⟩], none⟩
noncomputable abbrev S214 : Summ := (X214 N).S true (F214 N)
theorem h214_11 (K ρ) : (X214 N).bd K ρ 11 = F214.l5b N ((X214 N).kc ρ 11) := by kernel_rfl
theorem o214_11 (ρ) : (X214 N).kc ((X214 N).sem ρ) 11 = F214.l5 N N := Fx.okL [] (by kernel_rfl) (fun K ρ => by kernel_rfl) (h214_11 N) ρ (F214.l5 N) rfl fun n ρ' e d => by rw [e]; rfl
theorem h214 (K) : (X214 N).top K = F214.b N ((X214 N).kc K 11) := by kernel_rfl
theorem sum214 : SumOk Tryz.prog 214 (S214 N) := Fx.ok1 (X214 N) tabok Tryz.func214 (by kernel_rfl) ⟨sum41 N, trivial⟩ [11] (fun K => by kernel_rfl) (h214 N) (by rw [o214_11]; rfl)

noncomputable def X151 : Fx := ⟨96, tab, [(93, S93 N), (214, S214 N), (87, S87 N), (85, S85 N), (86, S86 N), (147, S147 N), (130, S130 N)], N, Tryz.f151, [.v tConfig, .v LtI2, .v LtI3, .v I], [.v tBig, .v I], [⟨25, [(2, .v LtI3), (3, .v I), (8, .obj tBig), (10, .obj tBig), (11, .obj tBig), (12, .obj tBig), (14, .v I)], [1, 1, 1, 1, 1, 0, 1, 0, 0], []⟩, ⟨15, [(1, .v LtI2), (2, .v LtI3), (3, .v I), (8, .obj tBig), (10, .obj tBig), (11, .obj tBig), (12, .obj tBig), (13, .v I)], [1, 1, 1, 1, 0, 1, 0, 0], []⟩], none⟩
noncomputable abbrev S151 : Summ := (X151 N).S false (F151 N)
theorem h151_25 (K ρ) : (X151 N).bd K ρ 25 = F151.l12b N ((X151 N).kc ρ 25) := by kernel_rfl
theorem o151_25 (ρ) : (X151 N).kc ((X151 N).sem ρ) 25 = F151.l12 N N := Fx.okL [] (by kernel_rfl) (fun K ρ => by kernel_rfl) (h151_25 N) ρ (F151.l12 N) rfl fun n ρ' e d => by rw [e]; rfl
theorem h151_15 (K ρ) : (X151 N).bd K ρ 15 = F151.l7b N ((X151 N).kc K 25) ((X151 N).kc ρ 15) := by kernel_rfl
theorem o151_15 (ρ) : (X151 N).kc ((X151 N).sem ρ) 15 = F151.l7 N N := Fx.okL [25] (by kernel_rfl) (fun K ρ => by kernel_rfl) (h151_15 N) ρ (F151.l7 N) rfl fun n ρ' e d => by rw [o151_25, e]; rfl
theorem h151 (K) : (X151 N).top K = F151.b N ((X151 N).kc K 15) := by kernel_rfl
theorem sum151 : SumOk Tryz.prog 151 (S151 N) := Fx.ok1 (X151 N) tabok Tryz.func151 (by kernel_rfl) ⟨sum93 N, sum214 N, sum87 N, sum85 N, sum86 N, sum147 N, sum130 N, trivial⟩ [15, 25] (fun K => by kernel_rfl) (h151 N) (by rw [o151_15]; rfl)

noncomputable def X60 : Fx := ⟨36, tab, [(149, S149 N), (123, S123 N), (87, S87 N), (150, S150 N)], N, Tryz.f60, [.v tI6, .v I], [.v tBig, .v I], [], none⟩
noncomputable abbrev S60 : Summ := (X60 N).S false (F60 N)
theorem sum60 : SumOk Tryz.prog 60 (S60 N) := Fx.ok0 (X60 N) tabok Tryz.func60 (by kernel_rfl) ⟨sum149 N, sum123 N, sum87 N, sum150 N, trivial⟩ (by kernel_rfl)

noncomputable def X205 : Fx := ⟨50, tab, [(93, S93 N), (214, S214 N), (151, S151 N), (87, S87 N), (150, S150 N), (85, S85 N)], N, Tryz.f205, [.v tConfig, .v LtI2, .v LtI3], [.v tBig, .v I], [⟨11, [(1, .v LtI2), (2, .v LtI3), (3, .obj tConfig), (6, .obj tBig), (8, .obj tBig), (9, .v I)], [1, 1, 1, 0, 1, 0, 0], []⟩], none⟩
noncomputable abbrev S205 : Summ := (X205 N).S false (F205 N)
theorem h205_11 (K ρ) : (X205 N).bd K ρ 11 = F205.l5b N ((X205 N).kc ρ 11) := by kernel_rfl
theorem o205_11 (ρ) : (X205 N).kc ((X205 N).sem ρ) 11 = F205.l5 N N := Fx.okL [] (by kernel_rfl) (fun K ρ => by kernel_rfl) (h205_11 N) ρ (F205.l5 N) rfl fun n ρ' e d => by rw [e]; rfl
theorem h205 (K) : (X205 N).top K = F205.b N ((X205 N).kc K 11) := by kernel_rfl
theorem sum205 : SumOk Tryz.prog 205 (S205 N) := Fx.ok1 (X205 N) tabok Tryz.func205 (by kernel_rfl) ⟨sum93 N, sum214 N, sum151 N, sum87 N, sum150 N, sum85 N, trivial⟩ [11] (fun K => by kernel_rfl) (h205 N) (by rw [o205_11]; rfl)

noncomputable def X126 : Fx := ⟨31, tab, [(84, S84 N), (152, S152 N), (205, S205 N)], N, Tryz.f126, [.v tConfig, .v tBook, .v I, .v LtI6], [.v tBig], [], none⟩
noncomputable abbrev S126 : Summ := (X126 N).S false (F126 N)
theorem sum126 : SumOk Tryz.prog 126 (S126 N) := Fx.ok0 (X126 N) tabok Tryz.func126 (by kernel_rfl) ⟨sum84 N, sum152 N, sum205 N, trivial⟩ (by kernel_rfl)

noncomputable def X62 : Fx := ⟨104, tab, [(52, S52 N), (149, S149 N), (125, S125 N), (127, S127 N), (84, S84 N), (152, S152 N), (151, S151 N), (87, S87 N), (130, S130 N), (60, S60 N), (38, S38 N), (147, S147 N), (126, S126 N)], N, Tryz.f62, [.v tConfig, .v tBook, .v tI6], [.v I], [], none⟩
noncomputable abbrev S62 : Summ := (X62 N).S true (F62 N)
theorem sum62 : SumOk Tryz.prog 62 (S62 N) := Fx.ok0 (X62 N) tabok Tryz.func62 (by kernel_rfl) ⟨sum52 N, sum149 N, sum125 N, sum127 N, sum84 N, sum152 N, sum151 N, sum87 N, sum130 N, sum60 N, sum38 N, sum147 N, sum126 N, trivial⟩ (by kernel_rfl)

noncomputable def X119 : Fx := ⟨53, tab, [(123, S123 N)], N, Tryz.f119, [.v tI5], [.v B], [], none⟩
noncomputable abbrev S119 : Summ := (X119 N).S true (F119 N)
theorem sum119 : SumOk Tryz.prog 119 (S119 N) := Fx.ok0 (X119 N) tabok Tryz.func119 (by kernel_rfl) ⟨sum123 N, trivial⟩ (by kernel_rfl)

noncomputable def X200 : Fx := ⟨7, tab, [], N, Tryz.f200, [.v I], [.v I, .v I], [], none⟩
noncomputable abbrev S200 : Summ := (X200 N).S true (F200 N)
theorem sum200 : SumOk Tryz.prog 200 (S200 N) := Fx.ok0 (X200 N) tabok Tryz.func200 (by kernel_rfl) trivial (by kernel_rfl)

noncomputable def X121 : Fx := ⟨53, tab, [(119, S119 N), (123, S123 N), (87, S87 N), (150, S150 N), (135, S135 N), (200, S200 N), (92, S92 N)], N, Tryz.f121, [.v tI5, .v I], [.own tPart, .v I], [], none⟩
noncomputable abbrev S121 : Summ := (X121 N).S false (F121 N)
theorem sum121 : SumOk Tryz.prog 121 (S121 N) := Fx.ok0 (X121 N) tabok Tryz.func121 (by kernel_rfl) ⟨sum119 N, sum123 N, sum87 N, sum150 N, sum135 N, sum200 N, sum92 N, trivial⟩ (by kernel_rfl)

noncomputable def X236 : Fx := ⟨18, tab, [(91, S91 N)], N, Tryz.f236, [.v tBig], [.v I, .v B], [], none⟩
noncomputable abbrev S236 : Summ := (X236 N).S true (F236 N)
theorem sum236 : SumOk Tryz.prog 236 (S236 N) := Fx.ok0 (X236 N) tabok Tryz.func236 (by kernel_rfl) ⟨sum91 N, trivial⟩ (by kernel_rfl)

noncomputable def X201 : Fx := ⟨106, tab, [(87, S87 N), (85, S85 N), (236, S236 N)], N, Tryz.f201, [.v LtI3, .v LtI3], [.own tI3, .v B], [⟨31, [(0, .v LtI3), (1, .v LtI3), (6, .own tI3), (7, .v I), (8, .v I), (9, .v I), (10, .v I), (11, .v B), (12, .obj tBig), (13, .v I)], [1, 1, 1, 0, 1, 0, 0, 1, 0, 0, 1, 0, 0, 1, 0, 0, 1, 1, 1, 0, 1, 0, 0], [9, 15]⟩, ⟨26, [(0, .v LtI3), (1, .v LtI3), (6, .own tI3), (7, .v I), (8, .v I), (9, .v I), (10, .v I), (11, .v B)], [1, 1, 1, 0, 1, 0, 0, 1, 0, 0, 1, 0, 0, 1, 0, 0, 1, 1], [9, 15]⟩, ⟨15, [(0, .v LtI3), (1, .v LtI3), (6, .own tI3), (7, .v I), (8, .v I), (9, .v I)], [1, 1, 1, 0, 1, 0, 0, 1, 0, 0, 1, 0, 0], [9]⟩, ⟨9, [(0, .v LtI3), (1, .v LtI3), (6, .own tI3), (7, .v I), (8, .v I)], [1, 1, 1, 0, 1, 0, 0], []⟩], none⟩
noncomputable abbrev S201 : Summ := (X201 N).S false (F201 N)
theorem h201_31 (K ρ) : (X201 N).bd K ρ 31 = F201.l15b N ((X201 N).kc ρ 9) ((X201 N).kc ρ 15) ((X201 N).kc ρ 31) := by kernel_rfl
theorem o201_31 (ρ) : (X201 N).kc ((X201 N).sem ρ) 31 = F201.l15 N ((X201 N).kc ρ 9) ((X201 N).kc ρ 15) N := Fx.okL [] (by kernel_rfl) (fun K ρ => by kernel_rfl) (h201_31 N) ρ (F201.l15 N ((X201 N).kc ρ 9) ((X201 N).kc ρ 15)) rfl fun n ρ' e d => by rw [e, d 9 rfl, d 15 rfl]; rfl
theorem h201_26 (K ρ) : (X201 N).bd K ρ 26 = F201.j13b N ((X201 N).kc K 31) ((X201 N).kc ρ 9) ((X201 N).kc ρ 15) := by kernel_rfl
theorem o201_26 (ρ) : (X201 N).kc ((X201 N).sem ρ) 26 = F201.j13 N ((X201 N).kc ρ 9) ((X201 N).kc ρ 15) := (Fx.okJ [31] (by kernel_rfl) (fun K ρ => by kernel_rfl) (h201_26 N) ρ).trans (by rw [o201_31]; rfl)
theorem h201_15 (K ρ) : (X201 N).bd K ρ 15 = F201.l7b N ((X201 N).kc K 26) ((X201 N).kc ρ 9) ((X201 N).kc ρ 15) := by kernel_rfl
theorem o201_15 (ρ) : (X201 N).kc ((X201 N).sem ρ) 15 = F201.l7 N ((X201 N).kc ρ 9) N := Fx.okL [26, 31] (by kernel_rfl) (fun K ρ => by kernel_rfl) (h201_15 N) ρ (F201.l7 N ((X201 N).kc ρ 9)) rfl fun n ρ' e d => by rw [o201_26, e, d 9 rfl]; rfl
theorem h201_9 (K ρ) : (X201 N).bd K ρ 9 = F201.l4b N ((X201 N).kc K 15) ((X201 N).kc ρ 9) := by kernel_rfl
theorem o201_9 (ρ) : (X201 N).kc ((X201 N).sem ρ) 9 = F201.l4 N N := Fx.okL [15] (by kernel_rfl) (fun K ρ => by kernel_rfl) (h201_9 N) ρ (F201.l4 N) rfl fun n ρ' e d => by rw [o201_15, e]; rfl
theorem h201 (K) : (X201 N).top K = F201.b N ((X201 N).kc K 9) := by kernel_rfl
theorem sum201 : SumOk Tryz.prog 201 (S201 N) := Fx.ok1 (X201 N) tabok Tryz.func201 (by kernel_rfl) ⟨sum87 N, sum85 N, sum236 N, trivial⟩ [9] (fun K => by kernel_rfl) (h201 N) (by rw [o201_9]; rfl)

noncomputable def X237 : Fx := ⟨53, tab, [(85, S85 N), (87, S87 N), (91, S91 N)], N, Tryz.f237, [.v I, .v I, .v I, .v LtPart], [.v I, .v B], [⟨7, [(0, .v I), (1, .v I), (2, .v I), (3, .v LtPart), (10, .obj tBig), (11, .v B), (12, .v I)], [1, 1, 0, 1, 0, 0], []⟩], none⟩
noncomputable abbrev S237 : Summ := (X237 N).S true (F237 N)
theorem h237_7 (K ρ) : (X237 N).bd K ρ 7 = F237.l3b N ((X237 N).kc ρ 7) := by kernel_rfl
theorem o237_7 (ρ) : (X237 N).kc ((X237 N).sem ρ) 7 = F237.l3 N N := Fx.okL [] (by kernel_rfl) (fun K ρ => by kernel_rfl) (h237_7 N) ρ (F237.l3 N) rfl fun n ρ' e d => by rw [e]; rfl
theorem h237 (K) : (X237 N).top K = F237.b N ((X237 N).kc K 7) := by kernel_rfl
theorem sum237 : SumOk Tryz.prog 237 (S237 N) := Fx.ok1 (X237 N) tabok Tryz.func237 (by kernel_rfl) ⟨sum85 N, sum87 N, sum91 N, trivial⟩ [7] (fun K => by kernel_rfl) (h237 N) (by rw [o237_7]; rfl)

noncomputable def X202 : Fx := ⟨69, tab, [(237, S237 N)], N, Tryz.f202, [.v LtI3, .v LtPart], [.own tI3, .v B], [⟨26, [(0, .v LtI3), (1, .v LtPart), (6, .own tI3), (7, .v I), (8, .v I), (9, .v I), (10, .v I)], [1, 1, 1, 0, 1, 0, 0, 1, 0, 0, 1, 0, 0, 1, 0, 0, 1, 1], [9, 15]⟩, ⟨15, [(0, .v LtI3), (1, .v LtPart), (6, .own tI3), (7, .v I), (8, .v I), (9, .v I)], [1, 1, 1, 0, 1, 0, 0, 1, 0, 0, 1, 0, 0], [9]⟩, ⟨9, [(0, .v LtI3), (1, .v LtPart), (6, .own tI3), (7, .v I), (8, .v I)], [1, 1, 1, 0, 1, 0, 0], []⟩], none⟩
noncomputable abbrev S202 : Summ := (X202 N).S false (F202 N)
theorem h202_26 (K ρ) : (X202 N).bd K ρ 26 = F202.j13b N ((X202 N).kc ρ 9) ((X202 N).kc ρ 15) := by kernel_rfl
theorem o202_26 (ρ) : (X202 N).kc ((X202 N).sem ρ) 26 = F202.j13 N ((X202 N).kc ρ 9) ((X202 N).kc ρ 15) := (Fx.okJ [] (by kernel_rfl) (fun K ρ => by kernel_rfl) (h202_26 N) ρ).trans rfl
theorem h202_15 (K ρ) : (X202 N).bd K ρ 15 = F202.l7b N ((X202 N).kc K 26) ((X202 N).kc ρ 9) ((X202 N).kc ρ 15) := by kernel_rfl
theorem o202_15 (ρ) : (X202 N).kc ((X202 N).sem ρ) 15 = F202.l7 N ((X202 N).kc ρ 9) N := Fx.okL [26] (by kernel_rfl) (fun K ρ => by kernel_rfl) (h202_15 N) ρ (F202.l7 N ((X202 N).kc ρ 9)) rfl fun n ρ' e d => by rw [o202_26, e, d 9 rfl]; rfl
theorem h202_9 (K ρ) : (X202 N).bd K ρ 9 = F202.l4b N ((X202 N).kc K 15) ((X202 N).kc ρ 9) := by kernel_rfl
theorem o202_9 (ρ) : (X202 N).kc ((X202 N).sem ρ) 9 = F202.l4 N N := Fx.okL [15] (by kernel_rfl) (fun K ρ => by kernel_rfl) (h202_9 N) ρ (F202.l4 N) rfl fun n ρ' e d => by rw [o202_15, e]; rfl
theorem h202 (K) : (X202 N).top K = F202.b N ((X202 N).kc K 9) := by kernel_rfl
theorem sum202 : SumOk Tryz.prog 202 (S202 N) := Fx.ok1 (X202 N) tabok Tryz.func202 (by kernel_rfl) ⟨sum237 N, trivial⟩ [9] (fun K => by kernel_rfl) (h202 N) (by rw [o202_9]; rfl)

noncomputable def X122 : Fx := ⟨36, tab, [(201, S201 N), (202, S202 N)], N, Tryz.f122, [.v tBook, .v LtI3, .v LtPart], [.v tBook, .v I], [], none⟩
noncomputable abbrev S122 : Summ := (X122 N).S false (F122 N)
theorem sum122 : SumOk Tryz.prog 122 (S122 N) := Fx.ok0 (X122 N) tabok Tryz.func122 (by kernel_rfl) ⟨sum201 N, sum202 N, trivial⟩ (by kernel_rfl)

noncomputable def X46 : Fx := ⟨107, tab, [(52, S52 N), (119, S119 N), (120, S120 N), (121, S121 N), (122, S122 N)], N, Tryz.f46, [.v tConfig, .v tBook, .v LtI5], [.v tBook, .v I], [⟨23, [(2, .v LtI5), (3, .obj tConfig), (4, .obj tBook), (6, .obj tBook), (9, .own tI3), (10, .own tPart), (11, .v I)], [1, 1, 1, 1, 1, 0, 1, 0, 0], []⟩, ⟨9, [(2, .v LtI5), (3, .obj tConfig), (4, .obj tBook), (6, .obj tBook), (8, .v I)], [1, 1, 0, 1, 0, 0], []⟩], none⟩
noncomputable abbrev S46 : Summ := (X46 N).S false (F46 N)
theorem h46_23 (K ρ) : (X46 N).bd K ρ 23 = F46.l11b N ((X46 N).kc ρ 23) := by kernel_rfl
theorem o46_23 (ρ) : (X46 N).kc ((X46 N).sem ρ) 23 = F46.l11 N N := Fx.okL [] (by kernel_rfl) (fun K ρ => by kernel_rfl) (h46_23 N) ρ (F46.l11 N) rfl fun n ρ' e d => by rw [e]; rfl
theorem h46_9 (K ρ) : (X46 N).bd K ρ 9 = F46.l4b N ((X46 N).kc K 23) ((X46 N).kc ρ 9) := by kernel_rfl
theorem o46_9 (ρ) : (X46 N).kc ((X46 N).sem ρ) 9 = F46.l4 N N := Fx.okL [23] (by kernel_rfl) (fun K ρ => by kernel_rfl) (h46_9 N) ρ (F46.l4 N) rfl fun n ρ' e d => by rw [o46_23, e]; rfl
theorem h46 (K) : (X46 N).top K = F46.b N ((X46 N).kc K 9) := by kernel_rfl
theorem sum46 : SumOk Tryz.prog 46 (S46 N) := Fx.ok1 (X46 N) tabok Tryz.func46 (by kernel_rfl) ⟨sum52 N, sum119 N, sum120 N, sum121 N, sum122 N, trivial⟩ [9, 23] (fun K => by kernel_rfl) (h46 N) (by rw [o46_9]; rfl)

noncomputable def X70 : Fx := ⟨113, tab, [(52, S52 N), (72, S72 N), (62, S62 N), (46, S46 N)], N, Tryz.f70, [.v tConfig, .v tBook, .v tI4, .v I, .v I, .v I], [.v tBook, .v tI4, .v I], [⟨28, [(4, .v I), (6, .obj tConfig), (7, .obj tBook), (8, .obj tI4), (12, .obj tBook), (13, .obj tI4), (17, .obj tI5)], [1, 1, 1, 1, 1, 1, 1, 1], []⟩], none⟩
noncomputable abbrev S70 : Summ := (X70 N).S false (F70 N)
theorem h70_28 (K ρ) : (X70 N).bd K ρ 28 = F70.j14b N := by kernel_rfl
theorem o70_28 (ρ) : (X70 N).kc ((X70 N).sem ρ) 28 = F70.j14 N := (Fx.okJ [] (by kernel_rfl) (fun K ρ => by kernel_rfl) (h70_28 N) ρ).trans rfl
theorem h70 (K) : (X70 N).top K = F70.b N ((X70 N).kc K 28) := by kernel_rfl
theorem sum70 : SumOk Tryz.prog 70 (S70 N) := Fx.ok1 (X70 N) tabok Tryz.func70 (by kernel_rfl) ⟨sum52 N, sum72 N, sum62 N, sum46 N, trivial⟩ [28] (fun K => by kernel_rfl) (h70 N) (by rw [o70_28]; rfl)

noncomputable def X71 : Fx := ⟨26, tab, [], N, Tryz.f71, [.v LtI4, .v LtI4], [.v B], [⟨9, [(0, .v LtI4), (1, .v LtI4), (5, .v I)], [1, 1, 0, 1, 0, 0], []⟩], none⟩
noncomputable abbrev S71 : Summ := (X71 N).S true (F71 N)
theorem h71_9 (K ρ) : (X71 N).bd K ρ 9 = F71.l4b N ((X71 N).kc ρ 9) := by kernel_rfl
theorem o71_9 (ρ) : (X71 N).kc ((X71 N).sem ρ) 9 = F71.l4 N N := Fx.okL [] (by kernel_rfl) (fun K ρ => by kernel_rfl) (h71_9 N) ρ (F71.l4 N) rfl fun n ρ' e d => by rw [e]; rfl
theorem h71 (K) : (X71 N).top K = F71.b N ((X71 N).kc K 9) := by kernel_rfl
theorem sum71 : SumOk Tryz.prog 71 (S71 N) := Fx.ok1 (X71 N) tabok Tryz.func71 (by kernel_rfl) trivial [9] (fun K => by kernel_rfl) (h71 N) (by rw [o71_9]; rfl)

noncomputable def X131 : Fx := ⟨16, tab, [(87, S87 N), (169, S169 N), (150, S150 N), (173, S173 N), (85, S85 N)], N, Tryz.f131, [.v tWide], [.v tBig], [], none⟩
noncomputable abbrev S131 : Summ := (X131 N).S false (F131 N)
theorem sum131 : SumOk Tryz.prog 131 (S131 N) := Fx.ok0 (X131 N) tabok Tryz.func131 (by kernel_rfl) ⟨sum87 N, sum169 N, sum150 N, sum173 N, sum85 N, trivial⟩ (by kernel_rfl)

noncomputable def X51 : Fx := ⟨10, tab, [(131, S131 N), (130, S130 N)], N, Tryz.f51, [.v tWide, .v tBig], [.v B], [], none⟩
noncomputable abbrev S51 : Summ := (X51 N).S true (F51 N)
theorem sum51 : SumOk Tryz.prog 51 (S51 N) := Fx.ok0 (X51 N) tabok Tryz.func51 (by kernel_rfl) ⟨sum131 N, sum130 N, trivial⟩ (by kernel_rfl)

noncomputable def X42 : Fx := ⟨26, tab, [], N, Tryz.f42, [.v LtI2, .v LtI2], [.v B], [⟨9, [(0, .v LtI2), (1, .v LtI2), (5, .v I)], [1, 1, 0, 1, 0, 0], []⟩], none⟩
noncomputable abbrev S42 : Summ := (X42 N).S true (F42 N)
theorem h42_9 (K ρ) : (X42 N).bd K ρ 9 = F42.l4b N ((X42 N).kc ρ 9) := by kernel_rfl
theorem o42_9 (ρ) : (X42 N).kc ((X42 N).sem ρ) 9 = F42.l4 N N := Fx.okL [] (by kernel_rfl) (fun K ρ => by kernel_rfl) (h42_9 N) ρ (F42.l4 N) rfl fun n ρ' e d => by rw [e]; rfl
theorem h42 (K) : (X42 N).top K = F42.b N ((X42 N).kc K 9) := by kernel_rfl
theorem sum42 : SumOk Tryz.prog 42 (S42 N) := Fx.ok1 (X42 N) tabok Tryz.func42 (by kernel_rfl) trivial [9] (fun K => by kernel_rfl) (h42 N) (by rw [o42_9]; rfl)

noncomputable def X43 : Fx := ⟨26, tab, [], N, Tryz.f43, [.v LtI4, .v LtI4], [.v B], [⟨9, [(0, .v LtI4), (1, .v LtI4), (5, .v I)], [1, 1, 0, 1, 0, 0], []⟩], none⟩
noncomputable abbrev S43 : Summ := (X43 N).S true (F43 N)
theorem h43_9 (K ρ) : (X43 N).bd K ρ 9 = F43.l4b N ((X43 N).kc ρ 9) := by kernel_rfl
theorem o43_9 (ρ) : (X43 N).kc ((X43 N).sem ρ) 9 = F43.l4 N N := Fx.okL [] (by kernel_rfl) (fun K ρ => by kernel_rfl) (h43_9 N) ρ (F43.l4 N) rfl fun n ρ' e d => by rw [e]; rfl
theorem h43 (K) : (X43 N).top K = F43.b N ((X43 N).kc K 9) := by kernel_rfl
theorem sum43 : SumOk Tryz.prog 43 (S43 N) := Fx.ok1 (X43 N) tabok Tryz.func43 (by kernel_rfl) trivial [9] (fun K => by kernel_rfl) (h43 N) (by rw [o43_9]; rfl)

noncomputable def X35 : Fx := ⟨26, tab, [], N, Tryz.f35, [.v LtI3, .v LtI3], [.v B], [⟨9, [(0, .v LtI3), (1, .v LtI3), (5, .v I)], [1, 1, 0, 1, 0, 0], []⟩], none⟩
noncomputable abbrev S35 : Summ := (X35 N).S true (F35 N)
theorem h35_9 (K ρ) : (X35 N).bd K ρ 9 = F35.l4b N ((X35 N).kc ρ 9) := by kernel_rfl
theorem o35_9 (ρ) : (X35 N).kc ((X35 N).sem ρ) 9 = F35.l4 N N := Fx.okL [] (by kernel_rfl) (fun K ρ => by kernel_rfl) (h35_9 N) ρ (F35.l4 N) rfl fun n ρ' e d => by rw [e]; rfl
theorem h35 (K) : (X35 N).top K = F35.b N ((X35 N).kc K 9) := by kernel_rfl
theorem sum35 : SumOk Tryz.prog 35 (S35 N) := Fx.ok1 (X35 N) tabok Tryz.func35 (by kernel_rfl) trivial [9] (fun K => by kernel_rfl) (h35 N) (by rw [o35_9]; rfl)

noncomputable def X44 : Fx := ⟨26, tab, [], N, Tryz.f44, [.v LtI3, .v LtI3], [.v B], [⟨9, [(0, .v LtI3), (1, .v LtI3), (5, .v I)], [1, 1, 0, 1, 0, 0], []⟩], none⟩
noncomputable abbrev S44 : Summ := (X44 N).S true (F44 N)
theorem h44_9 (K ρ) : (X44 N).bd K ρ 9 = F44.l4b N ((X44 N).kc ρ 9) := by kernel_rfl
theorem o44_9 (ρ) : (X44 N).kc ((X44 N).sem ρ) 9 = F44.l4 N N := Fx.okL [] (by kernel_rfl) (fun K ρ => by kernel_rfl) (h44_9 N) ρ (F44.l4 N) rfl fun n ρ' e d => by rw [e]; rfl
theorem h44 (K) : (X44 N).top K = F44.b N ((X44 N).kc K 9) := by kernel_rfl
theorem sum44 : SumOk Tryz.prog 44 (S44 N) := Fx.ok1 (X44 N) tabok Tryz.func44 (by kernel_rfl) trivial [9] (fun K => by kernel_rfl) (h44 N) (by rw [o44_9]; rfl)

noncomputable def X36 : Fx := ⟨26, tab, [], N, Tryz.f36, [.v LI, .v LI], [.v B], [⟨9, [(0, .v LI), (1, .v LI), (5, .v I)], [1, 1, 0, 1, 0, 0], []⟩], none⟩
noncomputable abbrev S36 : Summ := (X36 N).S true (F36 N)
theorem h36_9 (K ρ) : (X36 N).bd K ρ 9 = F36.l4b N ((X36 N).kc ρ 9) := by kernel_rfl
theorem o36_9 (ρ) : (X36 N).kc ((X36 N).sem ρ) 9 = F36.l4 N N := Fx.okL [] (by kernel_rfl) (fun K ρ => by kernel_rfl) (h36_9 N) ρ (F36.l4 N) rfl fun n ρ' e d => by rw [e]; rfl
theorem h36 (K) : (X36 N).top K = F36.b N ((X36 N).kc K 9) := by kernel_rfl
theorem sum36 : SumOk Tryz.prog 36 (S36 N) := Fx.ok1 (X36 N) tabok Tryz.func36 (by kernel_rfl) trivial [9] (fun K => by kernel_rfl) (h36 N) (by rw [o36_9]; rfl)

noncomputable def X45 : Fx := ⟨26, tab, [], N, Tryz.f45, [.v LtI6, .v LtI6], [.v B], [⟨9, [(0, .v LtI6), (1, .v LtI6), (5, .v I)], [1, 1, 0, 1, 0, 0], []⟩], none⟩
noncomputable abbrev S45 : Summ := (X45 N).S true (F45 N)
theorem h45_9 (K ρ) : (X45 N).bd K ρ 9 = F45.l4b N ((X45 N).kc ρ 9) := by kernel_rfl
theorem o45_9 (ρ) : (X45 N).kc ((X45 N).sem ρ) 9 = F45.l4 N N := Fx.okL [] (by kernel_rfl) (fun K ρ => by kernel_rfl) (h45_9 N) ρ (F45.l4 N) rfl fun n ρ' e d => by rw [e]; rfl
theorem h45 (K) : (X45 N).top K = F45.b N ((X45 N).kc K 9) := by kernel_rfl
theorem sum45 : SumOk Tryz.prog 45 (S45 N) := Fx.ok1 (X45 N) tabok Tryz.func45 (by kernel_rfl) trivial [9] (fun K => by kernel_rfl) (h45 N) (by rw [o45_9]; rfl)

noncomputable def X13 : Fx := ⟨45, tab, [(42, S42 N), (43, S43 N), (35, S35 N), (44, S44 N), (36, S36 N), (45, S45 N)], N, Tryz.f13, [.v tBook, .v tBook], [.v B], [], none⟩
noncomputable abbrev S13 : Summ := (X13 N).S true (F13 N)
theorem sum13 : SumOk Tryz.prog 13 (S13 N) := Fx.ok0 (X13 N) tabok Tryz.func13 (by kernel_rfl) ⟨sum42 N, sum43 N, sum35 N, sum44 N, sum36 N, sum45 N, trivial⟩ (by kernel_rfl)

noncomputable def X18 : Fx := ⟨135, tab, [(64, S64 N), (68, S68 N), (65, S65 N), (69, S69 N), (66, S66 N), (70, S70 N), (71, S71 N), (51, S51 N), (13, S13 N), (67, S67 N), (72, S72 N)], N, Tryz.f18, [.v tConfig, .v tBook, .v tI4, .v I, .v I, .v I, .v I], [.v B], [⟨21, [(9, .obj tI4), (15, .own tWide), (17, .own tBig), (23, .obj tBook), (26, .obj tBook), (29, .v I)], [1, 1, 1, 1, 1, 1, 1, 1, 0, 1, 0, 0], []⟩], none⟩
noncomputable abbrev S18 : Summ := (X18 N).S true (F18 N)
theorem env18 : EnvOk Tryz.prog (X18 N).E := Fx.envOk (X18 N) tabok ⟨sum64 N, sum68 N, sum65 N, sum69 N, sum66 N, sum70 N, sum71 N, sum51 N, sum13 N, sum67 N, sum72 N, trivial⟩ (by kernel_rfl)
theorem h18_21 (K ρ) : (X18 N).bd K ρ 21 = F18.l10b N ((X18 N).kc ρ 21) := by kernel_rfl
theorem o18_21 (ρ) : (X18 N).kc ((X18 N).sem ρ) 21 = F18.l10 N N := Fx.okL [] (by kernel_rfl) (fun K ρ => by kernel_rfl) (h18_21 N) ρ (F18.l10 N) rfl fun n ρ' e d => by rw [e]; rfl
theorem h18 (K) : (X18 N).top K = F18.b N ((X18 N).kc K 21) := by kernel_rfl
theorem run18 : ∀ x, evF (X18 N).E (X18 N).fn (X18 N).args (X18 N).res x = uncA (X18 N).args (F18 N) x := Fx.run1 (by kernel_rfl) [21] (fun K => by kernel_rfl) (h18 N) (by rw [o18_21]; rfl)
theorem sum18 : SumOk Tryz.prog 18 (S18 N) := Fx.ok1 (X18 N) tabok Tryz.func18 (by kernel_rfl) ⟨sum64 N, sum68 N, sum65 N, sum69 N, sum66 N, sum70 N, sum71 N, sum51 N, sum13 N, sum67 N, sum72 N, trivial⟩ [21] (fun K => by kernel_rfl) (h18 N) (by rw [o18_21]; rfl)

noncomputable def X6 : Fx := ⟨65, tab, [(17, S17 N), (18, S18 N)], N, Tryz.f6, [.v tConfig, .v tBook, .v tI4, .v I, .v I, .v I, .v I], [.v B], [], none⟩
noncomputable abbrev S6 : Summ := (X6 N).S true (F6 N)
theorem env6 : EnvOk Tryz.prog (X6 N).E := Fx.envOk (X6 N) tabok ⟨sum17 N, sum18 N, trivial⟩ (by kernel_rfl)
theorem run6 : ∀ x, evF (X6 N).E (X6 N).fn (X6 N).args (X6 N).res x = uncA (X6 N).args (F6 N) x := Fx.run0 (by kernel_rfl)
theorem sum6 : SumOk Tryz.prog 6 (S6 N) := Fx.ok0 (X6 N) tabok Tryz.func6 (by kernel_rfl) ⟨sum17 N, sum18 N, trivial⟩ (by kernel_rfl)

end
end VM.F
