/- A part of the proof of TearAll, of layer 29: the functions as equations between values, printed by a program. -/
import Derived.Test.YtnkhdmeoclffaaaGreatVm0
set_option linter.all false
namespace VM.F
open Go VM
set_option linter.unusedVariables false
set_option maxRecDepth 100000
noncomputable section
abbrev terrorString : Ty := (.pair .str .unit)
abbrev terrorAddressString : Ty := (.pair .str (.pair (.int .u64) .unit))
abbrev tI2 : Ty := (.pair (.int .i64) (.pair (.int .i64) .unit))
abbrev tWide : Ty := (.pair (.int .i64) (.pair (.int .u64) .unit))
abbrev tBig : Ty := (.pair .bool (.pair (.slice (.int .u64)) .unit))
abbrev tDeck : Ty := (.pair (.slice (.int .u64)) (.pair (.int .i64) .unit))
abbrev tI3 : Ty := (.pair (.int .i64) tI2)
abbrev tboundsError : Ty := (.pair (.int .i64) (.pair (.int .i64) (.pair .bool (.pair (.int .u8) .unit))))
abbrev tI4 : Ty := (.pair (.int .i64) tI3)
abbrev tEntry : Ty := (.pair (.int .i64) (.pair (.int .i64) (.pair tWide .unit)))
abbrev tI5 : Ty := (.pair (.int .i64) tI4)
abbrev tPart : Ty := (.pair (.int .i64) (.pair (.int .i64) (.pair tBig .unit)))
abbrev tI6 : Ty := (.pair (.int .i64) tI5)
abbrev tI8 : Ty := (.pair (.int .i64) (.pair (.int .i64) tI6))
abbrev tLot : Ty := (.pair (.int .i64) (.pair (.slice tI2) tI4))
abbrev tReport : Ty := (.pair (.int .i64) (.pair (.int .i64) (.pair (.slice tI5) (.pair (.int .i64) .unit))))
abbrev tConfig : Ty := (.pair (.slice tI4) tI6)
abbrev tBook : Ty := (.pair (.slice tI2) (.pair (.slice tI4) (.pair (.slice tI3) (.pair (.slice tI3) (.pair (.slice (.int .i64)) (.pair (.slice tI6) .unit))))))
abbrev tDefault : Ty := (.pair (.int .i64) (.pair (.int .i64) (.pair (.int .i64) (.pair (.int .i64) (.pair (.slice tI4) (.pair (.slice tLot) (.pair (.slice tI4) (.pair (.slice (.int .i64)) (.pair (.slice tI2) (.pair (.slice tI2) .unit))))))))))
abbrev tState : Ty := (.pair (.int .i64) (.pair (.int .i64) (.pair tBook (.pair tDefault (.pair tReport .unit)))))
abbrev ttrack : Ty := (.pair tConfig (.pair tState (.pair (.int .i64) .unit)))
def novationlaw29_small (N : Nat) : Option ((Ty.den tConfig) × (Ty.den tBook)) :=
  some (([((0 : Int), ((100 : Int), ((0 : Int), ((0 : Int), ()))))], ((0 : Int), ((0 : Int), ((0 : Int), ((0 : Int), ((1 : Int), ((0 : Int), ()))))))), ([((1 : Int), ((1 : Int), ()))], ([((1 : Int), ((1 : Int), ((1 : Int), ((0 : Int), ())))), ((2 : Int), ((1 : Int), ((2 : Int), ((0 : Int), ())))), ((3 : Int), ((1 : Int), ((2 : Int), ((0 : Int), ()))))], (([] : List ((Int) × ((Int) × ((Int) × (Unit))))), ([((0 : Int), ((0 : Int), ((3 : Int), ()))), ((1 : Int), ((0 : Int), ((-4 : Int), ()))), ((2 : Int), ((0 : Int), ((-2 : Int), ()))), ((3 : Int), ((0 : Int), ((3 : Int), ())))], ([(100 : Int)], (([] : List ((Int) × ((Int) × ((Int) × ((Int) × ((Int) × ((Int) × (Unit)))))))), ())))))))

def plan_in (N : Nat) (a0 : Int) (a1 : Int) (a2 : Int) : Option (Bool) :=
  cond (leB a1 a0) (some (leB a0 a2)) (some false)

abbrev plan_Right.t_l4 := Ty.den tConfig → (List (Ty.den tI4)) → Int → Int → Option (Bool)
def plan_Right.l4b (N : Nat) (k_l4 : plan_Right.t_l4) (x1 : Ty.den tConfig) (x11 : List (Ty.den tI4)) (x12 : Int) (x13 : Int) : Option (Bool) :=
  cond (ltB x13 x12) (cond (inb x13 (List.length x11)) ((plan_in N ((List.getD x11 x13.toNat ((0 : Int), ((0 : Int), ((0 : Int), ((0 : Int), ()))))).1) (0 : Int) (3 : Int)).bind fun r3 => cond (!r3) (some false) ((plan_in N (((List.getD x11 x13.toNat ((0 : Int), ((0 : Int), ((0 : Int), ((0 : Int), ()))))).2).1) (1 : Int) (1000000000000 : Int)).bind fun r4 => cond (!r4) (some false) ((plan_in N ((((List.getD x11 x13.toNat ((0 : Int), ((0 : Int), ((0 : Int), ((0 : Int), ()))))).2).2).1) (0 : Int) (1000000000 : Int)).bind fun r5 => cond (!r5) (some false) ((plan_in N (((((List.getD x11 x13.toNat ((0 : Int), ((0 : Int), ((0 : Int), ((0 : Int), ()))))).2).2).2).1) (0 : Int) (1000000000 : Int)).bind fun r6 => cond (!r6) (some false) (k_l4 x1 x11 x12 (W .i64 (x13 + 1))))))) (none)) (cond (leB 0 x1.2.1) ((plan_in N x1.2.2.1 (0 : Int) (4 : Int)).bind fun r8 => cond (r8) ((plan_in N x1.2.2.2.1 (0 : Int) (1000000 : Int)).bind fun r9 => cond (r9) ((plan_in N x1.2.2.2.2.1 (0 : Int) (1000000 : Int)).bind fun r10 => cond (r10) ((plan_in N x1.2.2.2.2.2.1 (1 : Int) (4611686018427387904 : Int)).bind fun r11 => cond (r11) (some (leB 0 x1.2.2.2.2.2.2.1)) (some false)) (some false)) (some false)) (some false)) (some false))
def plan_Right.l4 (N : Nat) : Nat → plan_Right.t_l4
  | 0, _, _, _, _ => none
  | n + 1, x1, x11, x12, x13 => plan_Right.l4b N (plan_Right.l4 N n) x1 x11 x12 x13
def plan_Right.b (N : Nat) (s_l4 : plan_Right.t_l4) (a0 : Ty.den tConfig) : Option (Bool) :=
  (plan_in N (List.length a0.1 : Int) (1 : Int) (6 : Int)).bind fun r1 => cond (!r1) (some false) (s_l4 a0 a0.1 (List.length a0.1 : Int) (0 : Int))
def plan_Right (N : Nat) (a0 : Ty.den tConfig) : Option (Bool) := plan_Right.b N (plan_Right.l4 N N) a0

abbrev roll_Members.t_l2 := (List (Ty.den tI2)) → (List (Ty.den tI2)) → Int → Int → Option (Bool)
def roll_Members.l2b (N : Nat) (k_l2 : roll_Members.t_l2) (x0 : List (Ty.den tI2)) (x5 : List (Ty.den tI2)) (x6 : Int) (x7 : Int) : Option (Bool) :=
  cond (ltB x7 x6) (cond (inb x7 (List.length x5)) (cond (ltB ((List.getD x5 x7.toNat ((0 : Int), ((0 : Int), ()))).1) (1 : Int)) (some false) (cond (ltB 12 ((List.getD x5 x7.toNat ((0 : Int), ((0 : Int), ()))).1)) (some false) (cond (ltB (((List.getD x5 x7.toNat ((0 : Int), ((0 : Int), ()))).2).1) (1 : Int)) (some false) (cond (ltB 4 (((List.getD x5 x7.toNat ((0 : Int), ((0 : Int), ()))).2).1)) (some false) (cond (ltB 0 x7) (let v2 : Int := W .i64 (x7 - 1); cond (inb v2 (List.length x0)) (cond (leB ((List.getD x5 x7.toNat ((0 : Int), ((0 : Int), ()))).1) ((List.getD x0 v2.toNat ((0 : Int), ((0 : Int), ()))).1)) (some false) (k_l2 x0 x5 x6 (W .i64 (x7 + 1)))) (none)) (k_l2 x0 x5 x6 (W .i64 (x7 + 1)))))))) (none)) (some true)
def roll_Members.l2 (N : Nat) : Nat → roll_Members.t_l2
  | 0, _, _, _, _ => none
  | n + 1, x0, x5, x6, x7 => roll_Members.l2b N (roll_Members.l2 N n) x0 x5 x6 x7
def roll_Members.b (N : Nat) (s_l2 : roll_Members.t_l2) (a0 : List (Ty.den tI2)) : Option (Bool) :=
  s_l2 a0 a0 (List.length a0 : Int) (0 : Int)
def roll_Members (N : Nat) (a0 : List (Ty.den tI2)) : Option (Bool) := roll_Members.b N (roll_Members.l2 N N) a0

abbrev roll_Accs.t_l3 := (List (Ty.den tI4)) → (List (Bool)) → (List (Ty.den tI4)) → Int → Int → Option (Bool)
def roll_Accs.l3b (N : Nat) (k_l3 : roll_Accs.t_l3) (x0 : List (Ty.den tI4)) (x3 : List (Bool)) (x6 : List (Ty.den tI4)) (x7 : Int) (x8 : Int) : Option (Bool) :=
  cond (ltB x8 x7) (cond (inb x8 (List.length x6)) (cond (ltB ((List.getD x6 x8.toNat ((0 : Int), ((0 : Int), ((0 : Int), ((0 : Int), ()))))).1) (1 : Int)) (some false) (cond (ltB 24 ((List.getD x6 x8.toNat ((0 : Int), ((0 : Int), ((0 : Int), ((0 : Int), ()))))).1)) (some false) (cond (ltB (((List.getD x6 x8.toNat ((0 : Int), ((0 : Int), ((0 : Int), ((0 : Int), ()))))).2).1) (1 : Int)) (some false) (cond (ltB 12 (((List.getD x6 x8.toNat ((0 : Int), ((0 : Int), ((0 : Int), ((0 : Int), ()))))).2).1)) (some false) (cond (!eqB ((((List.getD x6 x8.toNat ((0 : Int), ((0 : Int), ((0 : Int), ((0 : Int), ()))))).2).2).1) (1 : Int)) (cond (!eqB ((((List.getD x6 x8.toNat ((0 : Int), ((0 : Int), ((0 : Int), ((0 : Int), ()))))).2).2).1) (2 : Int)) (some false) (cond (ltB (((((List.getD x6 x8.toNat ((0 : Int), ((0 : Int), ((0 : Int), ((0 : Int), ()))))).2).2).2).1) (0 : Int)) (some false) (cond (ltB 1000000000000 (((((List.getD x6 x8.toNat ((0 : Int), ((0 : Int), ((0 : Int), ((0 : Int), ()))))).2).2).2).1)) (some false) (cond (ltB 0 x8) (let v2 : Int := W .i64 (x8 - 1); cond (inb v2 (List.length x0)) (cond (leB ((List.getD x6 x8.toNat ((0 : Int), ((0 : Int), ((0 : Int), ((0 : Int), ()))))).1) ((List.getD x0 v2.toNat ((0 : Int), ((0 : Int), ((0 : Int), ((0 : Int), ()))))).1)) (some false) (cond (eqB ((((List.getD x6 x8.toNat ((0 : Int), ((0 : Int), ((0 : Int), ((0 : Int), ()))))).2).2).1) (1 : Int)) (cond (inb (((List.getD x6 x8.toNat ((0 : Int), ((0 : Int), ((0 : Int), ((0 : Int), ()))))).2).1) 13) (cond (List.getD x3 (((List.getD x6 x8.toNat ((0 : Int), ((0 : Int), ((0 : Int), ((0 : Int), ()))))).2).1).toNat false) (some false) (cond (inb (((List.getD x6 x8.toNat ((0 : Int), ((0 : Int), ((0 : Int), ((0 : Int), ()))))).2).1) 13) (k_l3 x0 (List.set x3 (((List.getD x6 x8.toNat ((0 : Int), ((0 : Int), ((0 : Int), ((0 : Int), ()))))).2).1).toNat true) x6 x7 (W .i64 (x8 + 1))) (none))) (none)) (k_l3 x0 x3 x6 x7 (W .i64 (x8 + 1))))) (none)) (cond (eqB ((((List.getD x6 x8.toNat ((0 : Int), ((0 : Int), ((0 : Int), ((0 : Int), ()))))).2).2).1) (1 : Int)) (cond (inb (((List.getD x6 x8.toNat ((0 : Int), ((0 : Int), ((0 : Int), ((0 : Int), ()))))).2).1) 13) (cond (List.getD x3 (((List.getD x6 x8.toNat ((0 : Int), ((0 : Int), ((0 : Int), ((0 : Int), ()))))).2).1).toNat false) (some false) (cond (inb (((List.getD x6 x8.toNat ((0 : Int), ((0 : Int), ((0 : Int), ((0 : Int), ()))))).2).1) 13) (k_l3 x0 (List.set x3 (((List.getD x6 x8.toNat ((0 : Int), ((0 : Int), ((0 : Int), ((0 : Int), ()))))).2).1).toNat true) x6 x7 (W .i64 (x8 + 1))) (none))) (none)) (k_l3 x0 x3 x6 x7 (W .i64 (x8 + 1)))))))) (cond (ltB (((((List.getD x6 x8.toNat ((0 : Int), ((0 : Int), ((0 : Int), ((0 : Int), ()))))).2).2).2).1) (0 : Int)) (some false) (cond (ltB 1000000000000 (((((List.getD x6 x8.toNat ((0 : Int), ((0 : Int), ((0 : Int), ((0 : Int), ()))))).2).2).2).1)) (some false) (cond (ltB 0 x8) (let v7 : Int := W .i64 (x8 - 1); cond (inb v7 (List.length x0)) (cond (leB ((List.getD x6 x8.toNat ((0 : Int), ((0 : Int), ((0 : Int), ((0 : Int), ()))))).1) ((List.getD x0 v7.toNat ((0 : Int), ((0 : Int), ((0 : Int), ((0 : Int), ()))))).1)) (some false) (cond (eqB ((((List.getD x6 x8.toNat ((0 : Int), ((0 : Int), ((0 : Int), ((0 : Int), ()))))).2).2).1) (1 : Int)) (cond (inb (((List.getD x6 x8.toNat ((0 : Int), ((0 : Int), ((0 : Int), ((0 : Int), ()))))).2).1) 13) (cond (List.getD x3 (((List.getD x6 x8.toNat ((0 : Int), ((0 : Int), ((0 : Int), ((0 : Int), ()))))).2).1).toNat false) (some false) (cond (inb (((List.getD x6 x8.toNat ((0 : Int), ((0 : Int), ((0 : Int), ((0 : Int), ()))))).2).1) 13) (k_l3 x0 (List.set x3 (((List.getD x6 x8.toNat ((0 : Int), ((0 : Int), ((0 : Int), ((0 : Int), ()))))).2).1).toNat true) x6 x7 (W .i64 (x8 + 1))) (none))) (none)) (k_l3 x0 x3 x6 x7 (W .i64 (x8 + 1))))) (none)) (cond (eqB ((((List.getD x6 x8.toNat ((0 : Int), ((0 : Int), ((0 : Int), ((0 : Int), ()))))).2).2).1) (1 : Int)) (cond (inb (((List.getD x6 x8.toNat ((0 : Int), ((0 : Int), ((0 : Int), ((0 : Int), ()))))).2).1) 13) (cond (List.getD x3 (((List.getD x6 x8.toNat ((0 : Int), ((0 : Int), ((0 : Int), ((0 : Int), ()))))).2).1).toNat false) (some false) (cond (inb (((List.getD x6 x8.toNat ((0 : Int), ((0 : Int), ((0 : Int), ((0 : Int), ()))))).2).1) 13) (k_l3 x0 (List.set x3 (((List.getD x6 x8.toNat ((0 : Int), ((0 : Int), ((0 : Int), ((0 : Int), ()))))).2).1).toNat true) x6 x7 (W .i64 (x8 + 1))) (none))) (none)) (k_l3 x0 x3 x6 x7 (W .i64 (x8 + 1)))))))))))) (none)) (some true)
def roll_Accs.l3 (N : Nat) : Nat → roll_Accs.t_l3
  | 0, _, _, _, _, _ => none
  | n + 1, x0, x3, x6, x7, x8 => roll_Accs.l3b N (roll_Accs.l3 N n) x0 x3 x6 x7 x8
def roll_Accs.b (N : Nat) (s_l3 : roll_Accs.t_l3) (a0 : List (Ty.den tI4)) : Option (Bool) :=
  s_l3 a0 (List.replicate 13 false) a0 (List.length a0 : Int) (0 : Int)
def roll_Accs (N : Nat) (a0 : List (Ty.den tI4)) : Option (Bool) := roll_Accs.b N (roll_Accs.l3 N N) a0

abbrev roll_Status.t_l4 := Int → (List (Ty.den tI2)) → Int → Int → Option (Int)
def roll_Status.l4b (N : Nat) (k_l4 : roll_Status.t_l4) (x1 : Int) (x10 : List (Ty.den tI2)) (x11 : Int) (x12 : Int) : Option (Int) :=
  cond (ltB x12 x11) (cond (inb x12 (List.length x10)) (cond (eqB ((List.getD x10 x12.toNat ((0 : Int), ((0 : Int), ()))).1) x1) (some (((List.getD x10 x12.toNat ((0 : Int), ((0 : Int), ()))).2).1)) (k_l4 x1 x10 x11 (W .i64 (x12 + 1)))) (none)) (some (0 : Int))
def roll_Status.l4 (N : Nat) : Nat → roll_Status.t_l4
  | 0, _, _, _, _ => none
  | n + 1, x1, x10, x11, x12 => roll_Status.l4b N (roll_Status.l4 N n) x1 x10 x11 x12
def roll_Status.b (N : Nat) (s_l4 : roll_Status.t_l4) (a0 : List (Ty.den tI2)) (a1 : Int) : Option (Int) :=
  (roll_Members N a0).bind fun r1 => cond (!r1) (some (0 : Int)) (s_l4 a1 a0 (List.length a0 : Int) (0 : Int))
def roll_Status (N : Nat) (a0 : List (Ty.den tI2)) (a1 : Int) : Option (Int) := roll_Status.b N (roll_Status.l4 N N) a0 a1

abbrev roll_Right.t_l4 := (List (Ty.den tI2)) → (List (Ty.den tI4)) → Int → Int → Option (Bool)
def roll_Right.l4b (N : Nat) (k_l4 : roll_Right.t_l4) (x0 : List (Ty.den tI2)) (x15 : List (Ty.den tI4)) (x16 : Int) (x17 : Int) : Option (Bool) :=
  cond (ltB x17 x16) (cond (inb x17 (List.length x15)) ((roll_Status N x0 (((List.getD x15 x17.toNat ((0 : Int), ((0 : Int), ((0 : Int), ((0 : Int), ()))))).2).1)).bind fun r4 => cond (eqB r4 0) (some false) (k_l4 x0 x15 x16 (W .i64 (x17 + 1)))) (none)) (some true)
def roll_Right.l4 (N : Nat) : Nat → roll_Right.t_l4
  | 0, _, _, _, _ => none
  | n + 1, x0, x15, x16, x17 => roll_Right.l4b N (roll_Right.l4 N n) x0 x15 x16 x17
def roll_Right.b (N : Nat) (s_l4 : roll_Right.t_l4) (a0 : List (Ty.den tI2)) (a1 : List (Ty.den tI4)) : Option (Bool) :=
  (roll_Members N a0).bind fun r1 => cond (!r1) (some false) ((roll_Accs N a1).bind fun r2 => cond (!r2) (some false) (s_l4 a0 a1 (List.length a1 : Int) (0 : Int)))
def roll_Right (N : Nat) (a0 : List (Ty.den tI2)) (a1 : List (Ty.den tI4)) : Option (Bool) := roll_Right.b N (roll_Right.l4 N N) a0 a1

def ledger_Key (N : Nat) (a0 : Int) (a1 : Int) : Option (Bool) :=
  cond (eqB a0 1) (some (eqB a1 0)) (cond (eqB a0 2) (some (eqB a1 0)) (cond (eqB a0 3) (some (eqB a1 0)) (cond (eqB a0 4) (some (eqB a1 0)) (cond (eqB a0 5) (cond (leB 1 a1) (some (leB a1 24)) (some false)) (cond (eqB a0 6) (cond (leB 1 a1) (some (leB a1 12)) (some false)) (cond (eqB a0 7) (cond (leB 1 a1) (some (leB a1 12)) (some false)) (some false)))))))

def ledger_order (N : Nat) (a0 : Int) (a1 : Int) (a2 : Ty.den tI3) : Option (Int) :=
  cond (!eqB a0 a2.1) (some (W .i64 (a0 - a2.1))) (some (W .i64 (a1 - a2.2.1)))

abbrev ledger_Right.t_l2 := (List (Ty.den tI3)) → (List (Ty.den tI3)) → Int → Int → Option (Bool)
def ledger_Right.l2b (N : Nat) (k_l2 : ledger_Right.t_l2) (x0 : List (Ty.den tI3)) (x5 : List (Ty.den tI3)) (x6 : Int) (x7 : Int) : Option (Bool) :=
  cond (ltB x7 x6) (cond (inb x7 (List.length x5)) ((ledger_Key N ((List.getD x5 x7.toNat ((0 : Int), ((0 : Int), ((0 : Int), ())))).1) (((List.getD x5 x7.toNat ((0 : Int), ((0 : Int), ((0 : Int), ())))).2).1)).bind fun r2 => cond (!r2) (some false) (cond (eqB ((((List.getD x5 x7.toNat ((0 : Int), ((0 : Int), ((0 : Int), ())))).2).2).1) (0 : Int)) (some false) (cond (ltB 0 x7) (let v3 : Int := W .i64 (x7 - 1); cond (inb v3 (List.length x0)) ((ledger_order N ((List.getD x5 x7.toNat ((0 : Int), ((0 : Int), ((0 : Int), ())))).1) (((List.getD x5 x7.toNat ((0 : Int), ((0 : Int), ((0 : Int), ())))).2).1) (List.getD x0 v3.toNat ((0 : Int), ((0 : Int), ((0 : Int), ()))))).bind fun r4 => cond (leB r4 0) (some false) (k_l2 x0 x5 x6 (W .i64 (x7 + 1)))) (none)) (k_l2 x0 x5 x6 (W .i64 (x7 + 1)))))) (none)) (some true)
def ledger_Right.l2 (N : Nat) : Nat → ledger_Right.t_l2
  | 0, _, _, _, _ => none
  | n + 1, x0, x5, x6, x7 => ledger_Right.l2b N (ledger_Right.l2 N n) x0 x5 x6 x7
def ledger_Right.b (N : Nat) (s_l2 : ledger_Right.t_l2) (a0 : List (Ty.den tI3)) : Option (Bool) :=
  s_l2 a0 a0 (List.length a0 : Int) (0 : Int)
def ledger_Right (N : Nat) (a0 : List (Ty.den tI3)) : Option (Bool) := ledger_Right.b N (ledger_Right.l2 N N) a0

def wide_Of (N : Nat) (a0 : Int) : Option (Ty.den tWide) :=
  cond (ltB 63 0) (none) (some ((shr .i64 a0 63), ((W .u64 a0), ())))

abbrev wide_Sum.t_l3 := Ty.den tWide → Int → Int → Int → (List (Ty.den tWide)) → Int → Int → Option ((Ty.den tWide) × (Bool))
def wide_Sum.l3b (N : Nat) (k_l3 : wide_Sum.t_l3) (x2 : Ty.den tWide) (x4 : Int) (x5 : Int) (x6 : Int) (x10 : List (Ty.den tWide)) (x11 : Int) (x12 : Int) : Option ((Ty.den tWide) × (Bool)) :=
  cond (ltB x12 x11) (cond (inb x12 (List.length x10)) ((add64 N x6 (((List.getD x10 x12.toNat ((0 : Int), ((0 : Int), ()))).2).1) (0 : Int)).bind fun r2 => (add64 N x5 (W .u64 ((List.getD x10 x12.toNat ((0 : Int), ((0 : Int), ()))).1)) r2.2).bind fun r4 => cond (ltB 63 0) (none) (k_l3 x2 (W .i64 ((W .i64 (x4 + (shr .i64 ((List.getD x10 x12.toNat ((0 : Int), ((0 : Int), ()))).1) (63 : Int)))) + (W .i64 r4.2))) r4.1 r2.1 x10 x11 (W .i64 (x12 + 1)))) (none)) (cond (ltB 63 0) (none) (cond (!eqB x4 (shr .i64 (W .i64 x5) 63)) (some (((0 : Int), ((0 : Int), ())), false)) (some (((W .i64 x5), (x6, ())), true))))
def wide_Sum.l3 (N : Nat) : Nat → wide_Sum.t_l3
  | 0, _, _, _, _, _, _, _ => none
  | n + 1, x2, x4, x5, x6, x10, x11, x12 => wide_Sum.l3b N (wide_Sum.l3 N n) x2 x4 x5 x6 x10 x11 x12
def wide_Sum.b (N : Nat) (s_l3 : wide_Sum.t_l3) (a0 : List (Ty.den tWide)) : Option ((Ty.den tWide) × (Bool)) :=
  s_l3 ((0 : Int), ((0 : Int), ())) (0 : Int) (0 : Int) (0 : Int) a0 (List.length a0 : Int) (0 : Int)
def wide_Sum (N : Nat) (a0 : List (Ty.den tWide)) : Option ((Ty.den tWide) × (Bool)) := wide_Sum.b N (wide_Sum.l3 N N) a0

abbrev ledger_Total.t_l5 := Ty.den tWide → (List (Ty.den tWide)) → (List (Ty.den tI3)) → Int → Int → Option (Ty.den tWide)
def ledger_Total.l5b (N : Nat) (k_l5 : ledger_Total.t_l5) (x2 : Ty.den tWide) (x3 : List (Ty.den tWide)) (x12 : List (Ty.den tI3)) (x13 : Int) (x14 : Int) : Option (Ty.den tWide) :=
  cond (ltB x14 x13) (cond (inb x14 (List.length x12)) ((wide_Of N ((((List.getD x12 x14.toNat ((0 : Int), ((0 : Int), ((0 : Int), ())))).2).2).1)).bind fun r3 => cond (small (List.length x3 + List.length ([r3]))) (k_l5 x2 (x3 ++ ([r3])) x12 x13 (W .i64 (x14 + 1))) (none)) (none)) ((wide_Sum N x3).bind fun r6 => some r6.1)
def ledger_Total.l5 (N : Nat) : Nat → ledger_Total.t_l5
  | 0, _, _, _, _, _ => none
  | n + 1, x2, x3, x12, x13, x14 => ledger_Total.l5b N (ledger_Total.l5 N n) x2 x3 x12 x13 x14
def ledger_Total.b (N : Nat) (s_l5 : ledger_Total.t_l5) (a0 : List (Ty.den tI3)) : Option (Ty.den tWide) :=
  (ledger_Right N a0).bind fun r1 => cond (!r1) (some ((0 : Int), ((0 : Int), ()))) (s_l5 ((0 : Int), ((0 : Int), ())) ([]) a0 (List.length a0 : Int) (0 : Int))
def ledger_Total (N : Nat) (a0 : List (Ty.den tI3)) : Option (Ty.den tWide) := ledger_Total.b N (ledger_Total.l5 N N) a0

def wide_Cmp (N : Nat) (a0 : Ty.den tWide) (a1 : Ty.den tWide) : Option (Int) :=
  cond (ltB a0.1 a1.1) (some (-1 : Int)) (cond (eqB a0.1 a1.1) (cond (ltB a0.2.1 a1.2.1) (some (-1 : Int)) (cond (teq (.pair (.int .i64) (.pair (.int .u64) .unit)) a0 a1) (some (0 : Int)) (some (1 : Int)))) (cond (teq (.pair (.int .i64) (.pair (.int .u64) .unit)) a0 a1) (some (0 : Int)) (some (1 : Int))))

def wide_Sign (N : Nat) (a0 : Ty.den tWide) : Option (Int) :=
  (wide_Cmp N a0 ((0 : Int), ((0 : Int), ()))).bind fun r1 => some r1

def stock_key (N : Nat) (a0 : Int) (a1 : Int) : Option (Bool) :=
  cond (leB 0 a0) (cond (leB a0 24) (cond (leB 0 a1) (some (ltB a1 6)) (some false)) (some false)) (some false)

def stock_Quantity (N : Nat) (a0 : Int) : Option (Bool) :=
  some (!eqB a0 (-9223372036854775808))

def stock_order (N : Nat) (a0 : Int) (a1 : Int) (a2 : Ty.den tI3) : Option (Int) :=
  cond (!eqB a0 a2.1) (some (W .i64 (a0 - a2.1))) (some (W .i64 (a1 - a2.2.1)))

abbrev stock_Right.t_l2 := (List (Ty.den tI3)) → (List (Ty.den tI3)) → Int → Int → Option (Bool)
def stock_Right.l2b (N : Nat) (k_l2 : stock_Right.t_l2) (x0 : List (Ty.den tI3)) (x5 : List (Ty.den tI3)) (x6 : Int) (x7 : Int) : Option (Bool) :=
  cond (ltB x7 x6) (cond (inb x7 (List.length x5)) ((stock_key N ((List.getD x5 x7.toNat ((0 : Int), ((0 : Int), ((0 : Int), ())))).1) (((List.getD x5 x7.toNat ((0 : Int), ((0 : Int), ((0 : Int), ())))).2).1)).bind fun r2 => cond (!r2) (some false) (cond (eqB ((((List.getD x5 x7.toNat ((0 : Int), ((0 : Int), ((0 : Int), ())))).2).2).1) (0 : Int)) (some false) ((stock_Quantity N ((((List.getD x5 x7.toNat ((0 : Int), ((0 : Int), ((0 : Int), ())))).2).2).1)).bind fun r3 => cond (!r3) (some false) (cond (ltB 0 x7) (let v4 : Int := W .i64 (x7 - 1); cond (inb v4 (List.length x0)) ((stock_order N ((List.getD x5 x7.toNat ((0 : Int), ((0 : Int), ((0 : Int), ())))).1) (((List.getD x5 x7.toNat ((0 : Int), ((0 : Int), ((0 : Int), ())))).2).1) (List.getD x0 v4.toNat ((0 : Int), ((0 : Int), ((0 : Int), ()))))).bind fun r5 => cond (leB r5 0) (some false) (k_l2 x0 x5 x6 (W .i64 (x7 + 1)))) (none)) (k_l2 x0 x5 x6 (W .i64 (x7 + 1))))))) (none)) (some true)
def stock_Right.l2 (N : Nat) : Nat → stock_Right.t_l2
  | 0, _, _, _, _ => none
  | n + 1, x0, x5, x6, x7 => stock_Right.l2b N (stock_Right.l2 N n) x0 x5 x6 x7
def stock_Right.b (N : Nat) (s_l2 : stock_Right.t_l2) (a0 : List (Ty.den tI3)) : Option (Bool) :=
  s_l2 a0 a0 (List.length a0 : Int) (0 : Int)
def stock_Right (N : Nat) (a0 : List (Ty.den tI3)) : Option (Bool) := stock_Right.b N (stock_Right.l2 N N) a0

abbrev stock_Sum.t_l5 := Int → Ty.den tWide → (List (Ty.den tWide)) → (List (Ty.den tI3)) → Int → Int → Option (Ty.den tWide)
def stock_Sum.l5b (N : Nat) (k_l5 : stock_Sum.t_l5) (x1 : Int) (x4 : Ty.den tWide) (x5 : List (Ty.den tWide)) (x14 : List (Ty.den tI3)) (x15 : Int) (x16 : Int) : Option (Ty.den tWide) :=
  cond (ltB x16 x15) (cond (inb x16 (List.length x14)) (cond (eqB (((List.getD x14 x16.toNat ((0 : Int), ((0 : Int), ((0 : Int), ())))).2).1) x1) ((wide_Of N ((((List.getD x14 x16.toNat ((0 : Int), ((0 : Int), ((0 : Int), ())))).2).2).1)).bind fun r3 => cond (small (List.length x5 + List.length ([r3]))) (k_l5 x1 x4 (x5 ++ ([r3])) x14 x15 (W .i64 (x16 + 1))) (none)) (k_l5 x1 x4 x5 x14 x15 (W .i64 (x16 + 1)))) (none)) ((wide_Sum N x5).bind fun r7 => some r7.1)
def stock_Sum.l5 (N : Nat) : Nat → stock_Sum.t_l5
  | 0, _, _, _, _, _, _ => none
  | n + 1, x1, x4, x5, x14, x15, x16 => stock_Sum.l5b N (stock_Sum.l5 N n) x1 x4 x5 x14 x15 x16
def stock_Sum.b (N : Nat) (s_l5 : stock_Sum.t_l5) (a0 : List (Ty.den tI3)) (a1 : Int) : Option (Ty.den tWide) :=
  (stock_Right N a0).bind fun r1 => cond (!r1) (some ((0 : Int), ((0 : Int), ()))) (s_l5 a1 ((0 : Int), ((0 : Int), ())) ([]) a0 (List.length a0 : Int) (0 : Int))
def stock_Sum (N : Nat) (a0 : List (Ty.den tI3)) (a1 : Int) : Option (Ty.den tWide) := stock_Sum.b N (stock_Sum.l5 N N) a0 a1

abbrev stock_Flat.t_l2 := (List (Ty.den tI3)) → Int → Option (Bool)
def stock_Flat.l2b (N : Nat) (k_l2 : stock_Flat.t_l2) (x0 : List (Ty.den tI3)) (x4 : Int) : Option (Bool) :=
  cond (ltB x4 6) ((stock_Sum N x0 x4).bind fun r2 => (wide_Sign N r2).bind fun r3 => cond (!eqB r3 0) (some false) (k_l2 x0 (W .i64 (x4 + 1)))) ((stock_Right N x0).bind fun r5 => some r5)
def stock_Flat.l2 (N : Nat) : Nat → stock_Flat.t_l2
  | 0, _, _ => none
  | n + 1, x0, x4 => stock_Flat.l2b N (stock_Flat.l2 N n) x0 x4
def stock_Flat.b (N : Nat) (s_l2 : stock_Flat.t_l2) (a0 : List (Ty.den tI3)) : Option (Bool) :=
  s_l2 a0 (0 : Int)
def stock_Flat (N : Nat) (a0 : List (Ty.den tI3)) : Option (Bool) := stock_Flat.b N (stock_Flat.l2 N N) a0

def queue_Order (N : Nat) (a0 : Ty.den tI6) : Option (Bool) :=
  cond (leB 1 a0.1) (cond (leB a0.1 1099511627776) (cond (leB 1 a0.2.1) (cond (leB a0.2.1 24) (cond (leB 0 a0.2.2.1) (cond (ltB a0.2.2.1 6) (cond (eqB a0.2.2.2.1 1) (cond (leB 1 a0.2.2.2.2.1) (cond (leB a0.2.2.2.2.1 1000000000) (cond (leB 1 a0.2.2.2.2.2.1) (some (leB a0.2.2.2.2.2.1 1000000000000)) (some false)) (some false)) (some false)) (cond (eqB a0.2.2.2.1 2) (cond (leB 1 a0.2.2.2.2.1) (cond (leB a0.2.2.2.2.1 1000000000) (cond (leB 1 a0.2.2.2.2.2.1) (some (leB a0.2.2.2.2.2.1 1000000000000)) (some false)) (some false)) (some false)) (some false))) (some false)) (some false)) (some false)) (some false)) (some false)) (some false)

abbrev queue_Right.t_l2 := (List (Ty.den tI6)) → (List (Ty.den tI6)) → Int → Int → Option (Bool)
def queue_Right.l2b (N : Nat) (k_l2 : queue_Right.t_l2) (x0 : List (Ty.den tI6)) (x5 : List (Ty.den tI6)) (x6 : Int) (x7 : Int) : Option (Bool) :=
  cond (ltB x7 x6) (cond (inb x7 (List.length x5)) ((queue_Order N (List.getD x5 x7.toNat ((0 : Int), ((0 : Int), ((0 : Int), ((0 : Int), ((0 : Int), ((0 : Int), ())))))))).bind fun r2 => cond (!r2) (some false) (cond (ltB 0 x7) (let v3 : Int := W .i64 (x7 - 1); cond (inb v3 (List.length x0)) (cond (leB ((List.getD x5 x7.toNat ((0 : Int), ((0 : Int), ((0 : Int), ((0 : Int), ((0 : Int), ((0 : Int), ()))))))).1) ((List.getD x0 v3.toNat ((0 : Int), ((0 : Int), ((0 : Int), ((0 : Int), ((0 : Int), ((0 : Int), ()))))))).1)) (some false) (k_l2 x0 x5 x6 (W .i64 (x7 + 1)))) (none)) (k_l2 x0 x5 x6 (W .i64 (x7 + 1))))) (none)) (some (leB (List.length x0 : Int) 32))
def queue_Right.l2 (N : Nat) : Nat → queue_Right.t_l2
  | 0, _, _, _, _ => none
  | n + 1, x0, x5, x6, x7 => queue_Right.l2b N (queue_Right.l2 N n) x0 x5 x6 x7
def queue_Right.b (N : Nat) (s_l2 : queue_Right.t_l2) (a0 : List (Ty.den tI6)) : Option (Bool) :=
  s_l2 a0 a0 (List.length a0 : Int) (0 : Int)
def queue_Right (N : Nat) (a0 : List (Ty.den tI6)) : Option (Bool) := queue_Right.b N (queue_Right.l2 N N) a0

abbrev roll_Find.t_l4 := Int → Ty.den tI4 → (List (Ty.den tI4)) → Int → Int → Option ((Ty.den tI4) × (Bool))
def roll_Find.l4b (N : Nat) (k_l4 : roll_Find.t_l4) (x1 : Int) (x4 : Ty.den tI4) (x12 : List (Ty.den tI4)) (x13 : Int) (x14 : Int) : Option ((Ty.den tI4) × (Bool)) :=
  cond (ltB x14 x13) (cond (inb x14 (List.length x12)) (cond (eqB ((List.getD x12 x14.toNat ((0 : Int), ((0 : Int), ((0 : Int), ((0 : Int), ()))))).1) x1) (some (List.getD x12 x14.toNat ((0 : Int), ((0 : Int), ((0 : Int), ((0 : Int), ())))), true)) (k_l4 x1 x4 x12 x13 (W .i64 (x14 + 1)))) (none)) (some (((0 : Int), ((0 : Int), ((0 : Int), ((0 : Int), ())))), false))
def roll_Find.l4 (N : Nat) : Nat → roll_Find.t_l4
  | 0, _, _, _, _, _ => none
  | n + 1, x1, x4, x12, x13, x14 => roll_Find.l4b N (roll_Find.l4 N n) x1 x4 x12 x13 x14
def roll_Find.b (N : Nat) (s_l4 : roll_Find.t_l4) (a0 : List (Ty.den tI4)) (a1 : Int) : Option ((Ty.den tI4) × (Bool)) :=
  (roll_Accs N a0).bind fun r1 => cond (!r1) (some (((0 : Int), ((0 : Int), ((0 : Int), ((0 : Int), ())))), false)) (s_l4 a1 ((0 : Int), ((0 : Int), ((0 : Int), ((0 : Int), ())))) a0 (List.length a0 : Int) (0 : Int))
def roll_Find (N : Nat) (a0 : List (Ty.den tI4)) (a1 : Int) : Option ((Ty.den tI4) × (Bool)) := roll_Find.b N (roll_Find.l4 N N) a0 a1

def book_Acc (N : Nat) (a0 : Ty.den tBook) (a1 : Int) : Option (Bool) :=
  (roll_Find N a0.2.1 a1).bind fun r1 => some r1.2

def mark_Price (N : Nat) (a0 : Int) : Option (Bool) :=
  cond (leB 1 a0) (some (leB a0 1000000000000)) (some false)

def book_Right_1 (N : Nat) (a0 : Int) : Option (Bool) :=
  (mark_Price N a0).bind fun r1 => some (!r1)

abbrev slices_IndexFunc_int64__book_Right_1.t_l2 := (List (Int)) → Unit → Int → Int → Option (Int)
def slices_IndexFunc_int64__book_Right_1.l2b (N : Nat) (k_l2 : slices_IndexFunc_int64__book_Right_1.t_l2) (x0 : List (Int)) (x1 : Unit) (x7 : Int) (x8 : Int) : Option (Int) :=
  cond (ltB x8 x7) (cond (inb x8 (List.length x0)) ((book_Right_1 N (List.getD x0 x8.toNat (0 : Int))).bind fun r2 => cond (r2) (some x8) (k_l2 x0 () x7 (W .i64 (x8 + 1)))) (none)) (some (-1 : Int))
def slices_IndexFunc_int64__book_Right_1.l2 (N : Nat) : Nat → slices_IndexFunc_int64__book_Right_1.t_l2
  | 0, _, _, _, _ => none
  | n + 1, x0, x1, x7, x8 => slices_IndexFunc_int64__book_Right_1.l2b N (slices_IndexFunc_int64__book_Right_1.l2 N n) x0 x1 x7 x8
def slices_IndexFunc_int64__book_Right_1.b (N : Nat) (s_l2 : slices_IndexFunc_int64__book_Right_1.t_l2) (a0 : List (Int)) (a1 : Unit) : Option (Int) :=
  s_l2 a0 () (List.length a0 : Int) (0 : Int)
def slices_IndexFunc_int64__book_Right_1 (N : Nat) (a0 : List (Int)) (a1 : Unit) : Option (Int) := slices_IndexFunc_int64__book_Right_1.b N (slices_IndexFunc_int64__book_Right_1.l2 N N) a0 a1

def slices_ContainsFunc_int64__book_Right_1 (N : Nat) (a0 : List (Int)) (a1 : Unit) : Option (Bool) :=
  (slices_IndexFunc_int64__book_Right_1 N a0 ()).bind fun r1 => some (leB 0 r1)

abbrev book_Right.t_l22 := Ty.den tConfig → Ty.den tBook → (List (Ty.den tI6)) → Int → Int → Option (Bool)
abbrev book_Right.t_l16 := Ty.den tConfig → Ty.den tBook → (List (Ty.den tI3)) → Int → Int → Option (Bool)
abbrev book_Right.t_l4 := Ty.den tConfig → Ty.den tBook → (List (Ty.den tI3)) → Int → Int → Option (Bool)
def book_Right.l22b (N : Nat) (k_l22 : book_Right.t_l22) (x2 : Ty.den tConfig) (x3 : Ty.den tBook) (x109 : List (Ty.den tI6)) (x110 : Int) (x111 : Int) : Option (Bool) :=
  cond (ltB x111 x110) (cond (inb x111 (List.length x109)) ((book_Acc N x3 (((List.getD x109 x111.toNat ((0 : Int), ((0 : Int), ((0 : Int), ((0 : Int), ((0 : Int), ((0 : Int), ()))))))).2).1)).bind fun r21 => cond (!r21) (some false) (cond (leB (List.length x2.1 : Int) ((((List.getD x109 x111.toNat ((0 : Int), ((0 : Int), ((0 : Int), ((0 : Int), ((0 : Int), ((0 : Int), ()))))))).2).2).1)) (some false) (k_l22 x2 x3 x109 x110 (W .i64 (x111 + 1))))) (none)) ((slices_ContainsFunc_int64__book_Right_1 N x3.2.2.2.2.1 ()).bind fun r23 => some (!r23))
def book_Right.l22 (N : Nat) : Nat → book_Right.t_l22
  | 0, _, _, _, _, _ => none
  | n + 1, x2, x3, x109, x110, x111 => book_Right.l22b N (book_Right.l22 N n) x2 x3 x109 x110 x111
def book_Right.l16b (N : Nat) (s_l22 : book_Right.t_l22) (k_l16 : book_Right.t_l16) (x2 : Ty.den tConfig) (x3 : Ty.den tBook) (x83 : List (Ty.den tI3)) (x84 : Int) (x85 : Int) : Option (Bool) :=
  cond (ltB x85 x84) (cond (inb x85 (List.length x83)) (cond (!eqB ((List.getD x83 x85.toNat ((0 : Int), ((0 : Int), ((0 : Int), ())))).1) (0 : Int)) ((book_Acc N x3 ((List.getD x83 x85.toNat ((0 : Int), ((0 : Int), ((0 : Int), ())))).1)).bind fun r17 => cond (!r17) (some false) (cond (leB (List.length x2.1 : Int) (((List.getD x83 x85.toNat ((0 : Int), ((0 : Int), ((0 : Int), ())))).2).1)) (some false) (k_l16 x2 x3 x83 x84 (W .i64 (x85 + 1))))) (cond (leB (List.length x2.1 : Int) (((List.getD x83 x85.toNat ((0 : Int), ((0 : Int), ((0 : Int), ())))).2).1)) (some false) (k_l16 x2 x3 x83 x84 (W .i64 (x85 + 1))))) (none)) (s_l22 x2 x3 x3.2.2.2.2.2.1 (List.length x3.2.2.2.2.2.1 : Int) (0 : Int))
def book_Right.l16 (N : Nat) : Nat → book_Right.t_l16
  | 0, _, _, _, _, _ => none
  | n + 1, x2, x3, x83, x84, x85 => book_Right.l16b N (book_Right.l22 N N) (book_Right.l16 N n) x2 x3 x83 x84 x85
def book_Right.l4b (N : Nat) (s_l16 : book_Right.t_l16) (k_l4 : book_Right.t_l4) (x2 : Ty.den tConfig) (x3 : Ty.den tBook) (x57 : List (Ty.den tI3)) (x58 : Int) (x59 : Int) : Option (Bool) :=
  cond (ltB x59 x58) (cond (inb x59 (List.length x57)) (cond (eqB ((List.getD x57 x59.toNat ((0 : Int), ((0 : Int), ((0 : Int), ())))).1) (5 : Int)) ((book_Acc N x3 (((List.getD x57 x59.toNat ((0 : Int), ((0 : Int), ((0 : Int), ())))).2).1)).bind fun r9 => cond (!r9) (some false) (k_l4 x2 x3 x57 x58 (W .i64 (x59 + 1)))) (cond (eqB ((List.getD x57 x59.toNat ((0 : Int), ((0 : Int), ((0 : Int), ())))).1) (6 : Int)) ((roll_Status N x3.1 (((List.getD x57 x59.toNat ((0 : Int), ((0 : Int), ((0 : Int), ())))).2).1)).bind fun r11 => cond (eqB r11 0) (some false) (k_l4 x2 x3 x57 x58 (W .i64 (x59 + 1)))) (cond (eqB ((List.getD x57 x59.toNat ((0 : Int), ((0 : Int), ((0 : Int), ())))).1) (7 : Int)) ((roll_Status N x3.1 (((List.getD x57 x59.toNat ((0 : Int), ((0 : Int), ((0 : Int), ())))).2).1)).bind fun r13 => cond (eqB r13 0) (some false) (k_l4 x2 x3 x57 x58 (W .i64 (x59 + 1)))) (k_l4 x2 x3 x57 x58 (W .i64 (x59 + 1)))))) (none)) (s_l16 x2 x3 x3.2.2.2.1 (List.length x3.2.2.2.1 : Int) (0 : Int))
def book_Right.l4 (N : Nat) : Nat → book_Right.t_l4
  | 0, _, _, _, _, _ => none
  | n + 1, x2, x3, x57, x58, x59 => book_Right.l4b N (book_Right.l16 N N) (book_Right.l4 N n) x2 x3 x57 x58 x59
def book_Right.b (N : Nat) (s_l4 : book_Right.t_l4) (a0 : Ty.den tConfig) (a1 : Ty.den tBook) : Option (Bool) :=
  (plan_Right N a0).bind fun r1 => cond (!r1) (some false) ((roll_Right N a1.1 a1.2.1).bind fun r2 => cond (!r2) (some false) ((ledger_Right N a1.2.2.1).bind fun r3 => cond (!r3) (some false) ((ledger_Total N a1.2.2.1).bind fun r4 => (wide_Sign N r4).bind fun r5 => cond (!eqB r5 0) (some false) ((stock_Flat N a1.2.2.2.1).bind fun r6 => cond (!r6) (some false) ((queue_Right N a1.2.2.2.2.2.1).bind fun r7 => cond (!r7) (some false) (cond (!eqB (List.length a1.2.2.2.2.1 : Int) (List.length a0.1 : Int)) (some false) (s_l4 a0 a1 a1.2.2.1 (List.length a1.2.2.1 : Int) (0 : Int))))))))
def book_Right (N : Nat) (a0 : Ty.den tConfig) (a1 : Ty.den tBook) : Option (Bool) := book_Right.b N (book_Right.l4 N N) a0 a1

abbrev stock_Get.t_l4 := Int → Int → (List (Ty.den tI3)) → Int → Int → Option (Int)
def stock_Get.l4b (N : Nat) (k_l4 : stock_Get.t_l4) (x1 : Int) (x2 : Int) (x12 : List (Ty.den tI3)) (x13 : Int) (x14 : Int) : Option (Int) :=
  cond (ltB x14 x13) (cond (inb x14 (List.length x12)) (cond (eqB ((List.getD x12 x14.toNat ((0 : Int), ((0 : Int), ((0 : Int), ())))).1) x1) (cond (eqB (((List.getD x12 x14.toNat ((0 : Int), ((0 : Int), ((0 : Int), ())))).2).1) x2) (some ((((List.getD x12 x14.toNat ((0 : Int), ((0 : Int), ((0 : Int), ())))).2).2).1)) (k_l4 x1 x2 x12 x13 (W .i64 (x14 + 1)))) (k_l4 x1 x2 x12 x13 (W .i64 (x14 + 1)))) (none)) (some (0 : Int))
def stock_Get.l4 (N : Nat) : Nat → stock_Get.t_l4
  | 0, _, _, _, _, _ => none
  | n + 1, x1, x2, x12, x13, x14 => stock_Get.l4b N (stock_Get.l4 N n) x1 x2 x12 x13 x14
def stock_Get.b (N : Nat) (s_l4 : stock_Get.t_l4) (a0 : List (Ty.den tI3)) (a1 : Int) (a2 : Int) : Option (Int) :=
  (stock_Right N a0).bind fun r1 => cond (!r1) (some (0 : Int)) (s_l4 a1 a2 a0 (List.length a0 : Int) (0 : Int))
def stock_Get (N : Nat) (a0 : List (Ty.den tI3)) (a1 : Int) (a2 : Int) : Option (Int) := stock_Get.b N (stock_Get.l4 N N) a0 a1 a2

def amount_Size (N : Nat) (a0 : Int) : Option (Int) :=
  cond (ltB a0 0) (some (W .u64 (0 - (W .u64 a0)))) (some (W .u64 a0))

def share_may_1 (N : Nat) (a0 : Int) : Option (Bool) :=
  some (ltB a0 0)

abbrev slices_IndexFunc_int64__share_may_1.t_l2 := (List (Int)) → Unit → Int → Int → Option (Int)
def slices_IndexFunc_int64__share_may_1.l2b (N : Nat) (k_l2 : slices_IndexFunc_int64__share_may_1.t_l2) (x0 : List (Int)) (x1 : Unit) (x7 : Int) (x8 : Int) : Option (Int) :=
  cond (ltB x8 x7) (cond (inb x8 (List.length x0)) ((share_may_1 N (List.getD x0 x8.toNat (0 : Int))).bind fun r2 => cond (r2) (some x8) (k_l2 x0 () x7 (W .i64 (x8 + 1)))) (none)) (some (-1 : Int))
def slices_IndexFunc_int64__share_may_1.l2 (N : Nat) : Nat → slices_IndexFunc_int64__share_may_1.t_l2
  | 0, _, _, _, _ => none
  | n + 1, x0, x1, x7, x8 => slices_IndexFunc_int64__share_may_1.l2b N (slices_IndexFunc_int64__share_may_1.l2 N n) x0 x1 x7 x8
def slices_IndexFunc_int64__share_may_1.b (N : Nat) (s_l2 : slices_IndexFunc_int64__share_may_1.t_l2) (a0 : List (Int)) (a1 : Unit) : Option (Int) :=
  s_l2 a0 () (List.length a0 : Int) (0 : Int)
def slices_IndexFunc_int64__share_may_1 (N : Nat) (a0 : List (Int)) (a1 : Unit) : Option (Int) := slices_IndexFunc_int64__share_may_1.b N (slices_IndexFunc_int64__share_may_1.l2 N N) a0 a1

def slices_ContainsFunc_int64__share_may_1 (N : Nat) (a0 : List (Int)) (a1 : Unit) : Option (Bool) :=
  (slices_IndexFunc_int64__share_may_1 N a0 ()).bind fun r1 => some (leB 0 r1)

def share_may (N : Nat) (a0 : List (Int)) : Option (Bool) :=
  cond (leB (List.length a0 : Int) 64) ((slices_ContainsFunc_int64__share_may_1 N a0 ()).bind fun r1 => some (!r1)) (some false)

abbrev amount_Sum.t_l3 := Int → Int → (List (Int)) → Int → Int → Option ((Int) × (Bool))
def amount_Sum.l3b (N : Nat) (k_l3 : amount_Sum.t_l3) (x4 : Int) (x5 : Int) (x10 : List (Int)) (x11 : Int) (x12 : Int) : Option ((Int) × (Bool)) :=
  cond (ltB x12 x11) (cond (inb x12 (List.length x10)) ((add64 N x5 (W .u64 (List.getD x10 x12.toNat (0 : Int))) (0 : Int)).bind fun r3 => cond (ltB 63 0) (none) (k_l3 (W .i64 ((W .i64 (x4 + (shr .i64 (List.getD x10 x12.toNat (0 : Int)) (63 : Int)))) + (W .i64 r3.2))) r3.1 x10 x11 (W .i64 (x12 + 1)))) (none)) (cond (ltB 63 0) (none) (cond (!eqB x4 (shr .i64 (W .i64 x5) 63)) (some ((0 : Int), false)) (some ((W .i64 x5), true))))
def amount_Sum.l3 (N : Nat) : Nat → amount_Sum.t_l3
  | 0, _, _, _, _, _ => none
  | n + 1, x4, x5, x10, x11, x12 => amount_Sum.l3b N (amount_Sum.l3 N n) x4 x5 x10 x11 x12
def amount_Sum.b (N : Nat) (s_l3 : amount_Sum.t_l3) (a0 : List (Int)) : Option ((Int) × (Bool)) :=
  s_l3 (0 : Int) (0 : Int) a0 (List.length a0 : Int) (0 : Int)
def amount_Sum (N : Nat) (a0 : List (Int)) : Option ((Int) × (Bool)) := amount_Sum.b N (amount_Sum.l3 N N) a0

def bits_Mul64 (N : Nat) (a0 : Int) (a1 : Int) : Option ((Int) × (Int)) :=
  let v1 : Int := bitw .and .u64 a0 4294967295; cond (ltB 32 0) (none) (let v2 : Int := shr .u64 a0 32; let v3 : Int := bitw .and .u64 a1 4294967295; cond (ltB 32 0) (none) (let v4 : Int := shr .u64 a1 32; cond (ltB 32 0) (none) (let v8 : Int := W .u64 ((W .u64 (v2 * v3)) + (shr .u64 (W .u64 (v1 * v3)) (32 : Int))); cond (ltB 32 0) (none) (cond (ltB 32 0) (none) (some ((W .u64 ((W .u64 ((W .u64 (v2 * v4)) + (shr .u64 v8 32))) + (shr .u64 (W .u64 ((bitw .and .u64 v8 4294967295) + (W .u64 (v1 * v4)))) (32 : Int)))), (W .u64 (a0 * a1))))))))

abbrev wide_signed.t_j7 := Int → Int → Ty.den tWide → Option ((Ty.den tWide) × (Bool))
def wide_signed.j7b (N : Nat) (x1 : Int) (x2 : Int) (x6 : Ty.den tWide) : Option ((Ty.den tWide) × (Bool)) :=
  (sub64 N (0 : Int) x2 (0 : Int)).bind fun r3 => (sub64 N (0 : Int) x1 r3.2).bind fun r4 => some (((W .i64 r4.1), (r3.1, ())), true)
def wide_signed.j7 (N : Nat) (x1 : Int) (x2 : Int) (x6 : Ty.den tWide) : Option ((Ty.den tWide) × (Bool)) := wide_signed.j7b N x1 x2 x6
def wide_signed.b (N : Nat) (s_j7 : wide_signed.t_j7) (a0 : Bool) (a1 : Int) (a2 : Int) : Option ((Ty.den tWide) × (Bool)) :=
  cond (!a0) (cond (leB 9223372036854775808 a1) (some (((0 : Int), ((0 : Int), ())), false)) (some (((W .i64 a1), (a2, ())), true))) (cond (ltB 9223372036854775808 a1) (some (((0 : Int), ((0 : Int), ())), false)) (cond (eqB a1 9223372036854775808) (cond (ltB 0 a2) (some (((0 : Int), ((0 : Int), ())), false)) (s_j7 a1 a2 ((0 : Int), ((0 : Int), ())))) (s_j7 a1 a2 ((0 : Int), ((0 : Int), ())))))
def wide_signed (N : Nat) (a0 : Bool) (a1 : Int) (a2 : Int) : Option ((Ty.den tWide) × (Bool)) := wide_signed.b N (wide_signed.j7 N) a0 a1 a2

def wide_Mul (N : Nat) (a0 : Int) (a1 : Int) : Option (Ty.den tWide) :=
  (amount_Size N a0).bind fun r1 => (amount_Size N a1).bind fun r2 => (bits_Mul64 N r1 r2).bind fun r3 => (wide_signed N (!(teq .bool (ltB a0 0) (ltB a1 0))) r3.1 r3.2).bind fun r4 => some r4.1

def wide_size (N : Nat) (a0 : Ty.den tWide) : Option ((Int) × (Int)) :=
  cond (leB 0 a0.1) (some ((W .u64 a0.1), a0.2.1)) ((sub64 N (0 : Int) a0.2.1 (0 : Int)).bind fun r2 => (sub64 N (0 : Int) (W .u64 a0.1) r2.2).bind fun r4 => some (r4.1, r2.1))

abbrev bits_Len64.t_j7 := Int → Int → Option (Int)
abbrev bits_Len64.t_j4 := Int → Int → Option (Int)
def bits_Len64.j7b (N : Nat) (x0 : Int) (x2 : Int) : Option (Int) :=
  cond (leB 256 x0) (cond (ltB 8 0) (none) (let v8 : Int := W .u8 (shr .u64 x0 8); cond (inb v8 (ByteArray.size (strOf [0, 1, 2, 2, 3, 3, 3, 3, 4, 4, 4, 4, 4, 4, 4, 4, 5, 5, 5, 5, 5, 5, 5, 5, 5, 5, 5, 5, 5, 5, 5, 5, 6, 6, 6, 6, 6, 6, 6, 6, 6, 6, 6, 6, 6, 6, 6, 6, 6, 6, 6, 6, 6, 6, 6, 6, 6, 6, 6, 6, 6, 6, 6, 6, 7, 7, 7, 7, 7, 7, 7, 7, 7, 7, 7, 7, 7, 7, 7, 7, 7, 7, 7, 7, 7, 7, 7, 7, 7, 7, 7, 7, 7, 7, 7, 7, 7, 7, 7, 7, 7, 7, 7, 7, 7, 7, 7, 7, 7, 7, 7, 7, 7, 7, 7, 7, 7, 7, 7, 7, 7, 7, 7, 7, 7, 7, 7, 7, 8, 8, 8, 8, 8, 8, 8, 8, 8, 8, 8, 8, 8, 8, 8, 8, 8, 8, 8, 8, 8, 8, 8, 8, 8, 8, 8, 8, 8, 8, 8, 8, 8, 8, 8, 8, 8, 8, 8, 8, 8, 8, 8, 8, 8, 8, 8, 8, 8, 8, 8, 8, 8, 8, 8, 8, 8, 8, 8, 8, 8, 8, 8, 8, 8, 8, 8, 8, 8, 8, 8, 8, 8, 8, 8, 8, 8, 8, 8, 8, 8, 8, 8, 8, 8, 8, 8, 8, 8, 8, 8, 8, 8, 8, 8, 8, 8, 8, 8, 8, 8, 8, 8, 8, 8, 8, 8, 8, 8, 8, 8, 8, 8, 8, 8, 8, 8, 8, 8, 8, 8, 8, 8, 8, 8, 8, 8, 8]))) (some (W .i64 ((W .i64 (x2 + 8)) + (W .i64 (((strOf [0, 1, 2, 2, 3, 3, 3, 3, 4, 4, 4, 4, 4, 4, 4, 4, 5, 5, 5, 5, 5, 5, 5, 5, 5, 5, 5, 5, 5, 5, 5, 5, 6, 6, 6, 6, 6, 6, 6, 6, 6, 6, 6, 6, 6, 6, 6, 6, 6, 6, 6, 6, 6, 6, 6, 6, 6, 6, 6, 6, 6, 6, 6, 6, 7, 7, 7, 7, 7, 7, 7, 7, 7, 7, 7, 7, 7, 7, 7, 7, 7, 7, 7, 7, 7, 7, 7, 7, 7, 7, 7, 7, 7, 7, 7, 7, 7, 7, 7, 7, 7, 7, 7, 7, 7, 7, 7, 7, 7, 7, 7, 7, 7, 7, 7, 7, 7, 7, 7, 7, 7, 7, 7, 7, 7, 7, 7, 7, 8, 8, 8, 8, 8, 8, 8, 8, 8, 8, 8, 8, 8, 8, 8, 8, 8, 8, 8, 8, 8, 8, 8, 8, 8, 8, 8, 8, 8, 8, 8, 8, 8, 8, 8, 8, 8, 8, 8, 8, 8, 8, 8, 8, 8, 8, 8, 8, 8, 8, 8, 8, 8, 8, 8, 8, 8, 8, 8, 8, 8, 8, 8, 8, 8, 8, 8, 8, 8, 8, 8, 8, 8, 8, 8, 8, 8, 8, 8, 8, 8, 8, 8, 8, 8, 8, 8, 8, 8, 8, 8, 8, 8, 8, 8, 8, 8, 8, 8, 8, 8, 8, 8, 8, 8, 8, 8, 8, 8, 8, 8, 8, 8, 8, 8, 8, 8, 8, 8, 8, 8, 8, 8, 8, 8, 8, 8, 8]).data.getD v8.toNat 0).toNat : Int))))) (none))) (let v11 : Int := W .u8 x0; cond (inb v11 (ByteArray.size (strOf [0, 1, 2, 2, 3, 3, 3, 3, 4, 4, 4, 4, 4, 4, 4, 4, 5, 5, 5, 5, 5, 5, 5, 5, 5, 5, 5, 5, 5, 5, 5, 5, 6, 6, 6, 6, 6, 6, 6, 6, 6, 6, 6, 6, 6, 6, 6, 6, 6, 6, 6, 6, 6, 6, 6, 6, 6, 6, 6, 6, 6, 6, 6, 6, 7, 7, 7, 7, 7, 7, 7, 7, 7, 7, 7, 7, 7, 7, 7, 7, 7, 7, 7, 7, 7, 7, 7, 7, 7, 7, 7, 7, 7, 7, 7, 7, 7, 7, 7, 7, 7, 7, 7, 7, 7, 7, 7, 7, 7, 7, 7, 7, 7, 7, 7, 7, 7, 7, 7, 7, 7, 7, 7, 7, 7, 7, 7, 7, 8, 8, 8, 8, 8, 8, 8, 8, 8, 8, 8, 8, 8, 8, 8, 8, 8, 8, 8, 8, 8, 8, 8, 8, 8, 8, 8, 8, 8, 8, 8, 8, 8, 8, 8, 8, 8, 8, 8, 8, 8, 8, 8, 8, 8, 8, 8, 8, 8, 8, 8, 8, 8, 8, 8, 8, 8, 8, 8, 8, 8, 8, 8, 8, 8, 8, 8, 8, 8, 8, 8, 8, 8, 8, 8, 8, 8, 8, 8, 8, 8, 8, 8, 8, 8, 8, 8, 8, 8, 8, 8, 8, 8, 8, 8, 8, 8, 8, 8, 8, 8, 8, 8, 8, 8, 8, 8, 8, 8, 8, 8, 8, 8, 8, 8, 8, 8, 8, 8, 8, 8, 8, 8, 8, 8, 8, 8, 8]))) (some (W .i64 (x2 + (W .i64 (((strOf [0, 1, 2, 2, 3, 3, 3, 3, 4, 4, 4, 4, 4, 4, 4, 4, 5, 5, 5, 5, 5, 5, 5, 5, 5, 5, 5, 5, 5, 5, 5, 5, 6, 6, 6, 6, 6, 6, 6, 6, 6, 6, 6, 6, 6, 6, 6, 6, 6, 6, 6, 6, 6, 6, 6, 6, 6, 6, 6, 6, 6, 6, 6, 6, 7, 7, 7, 7, 7, 7, 7, 7, 7, 7, 7, 7, 7, 7, 7, 7, 7, 7, 7, 7, 7, 7, 7, 7, 7, 7, 7, 7, 7, 7, 7, 7, 7, 7, 7, 7, 7, 7, 7, 7, 7, 7, 7, 7, 7, 7, 7, 7, 7, 7, 7, 7, 7, 7, 7, 7, 7, 7, 7, 7, 7, 7, 7, 7, 8, 8, 8, 8, 8, 8, 8, 8, 8, 8, 8, 8, 8, 8, 8, 8, 8, 8, 8, 8, 8, 8, 8, 8, 8, 8, 8, 8, 8, 8, 8, 8, 8, 8, 8, 8, 8, 8, 8, 8, 8, 8, 8, 8, 8, 8, 8, 8, 8, 8, 8, 8, 8, 8, 8, 8, 8, 8, 8, 8, 8, 8, 8, 8, 8, 8, 8, 8, 8, 8, 8, 8, 8, 8, 8, 8, 8, 8, 8, 8, 8, 8, 8, 8, 8, 8, 8, 8, 8, 8, 8, 8, 8, 8, 8, 8, 8, 8, 8, 8, 8, 8, 8, 8, 8, 8, 8, 8, 8, 8, 8, 8, 8, 8, 8, 8, 8, 8, 8, 8, 8, 8, 8, 8, 8, 8, 8, 8]).data.getD v11.toNat 0).toNat : Int))))) (none))
def bits_Len64.j7 (N : Nat) (x0 : Int) (x2 : Int) : Option (Int) := bits_Len64.j7b N x0 x2
def bits_Len64.j4b (N : Nat) (s_j7 : bits_Len64.t_j7) (x0 : Int) (x2 : Int) : Option (Int) :=
  cond (leB 65536 x0) (cond (ltB 16 0) (none) (s_j7 (shr .u64 x0 16) (W .i64 (x2 + 16)))) (s_j7 x0 x2)
def bits_Len64.j4 (N : Nat) (x0 : Int) (x2 : Int) : Option (Int) := bits_Len64.j4b N (bits_Len64.j7 N) x0 x2
def bits_Len64.b (N : Nat) (s_j4 : bits_Len64.t_j4) (a0 : Int) : Option (Int) :=
  cond (leB 4294967296 a0) (cond (ltB 32 0) (none) (s_j4 (shr .u64 a0 32) (32 : Int))) (s_j4 a0 (0 : Int))
def bits_Len64 (N : Nat) (a0 : Int) : Option (Int) := bits_Len64.b N (bits_Len64.j4 N) a0

def bits_LeadingZeros64 (N : Nat) (a0 : Int) : Option (Int) :=
  (bits_Len64 N a0).bind fun r1 => some (W .i64 ((64 : Int) - r1))

abbrev bits_Div64.t_j28 := Int → Int → Int → Int → Int → Int → Option ((Int) × (Int))
abbrev bits_Div64.t_l24 := Int → Int → Int → Int → Int → Int → Int → Int → Int → Option ((Int) × (Int))
abbrev bits_Div64.t_j21 := Int → Int → Int → Int → Int → Int → Int → Int → Option ((Int) × (Int))
abbrev bits_Div64.t_l17 := Int → Int → Int → Int → Int → Int → Int → Int → Int → Option ((Int) × (Int))
def bits_Div64.j28b (N : Nat) (x2 : Int) (x8 : Int) (x14 : Int) (x15 : Int) (x17 : Int) (x18 : Int) : Option ((Int) × (Int)) :=
  cond (ltB x8 0) (none) (some ((W .u64 ((W .u64 (x15 * 4294967296)) + x18)), (shr .u64 (W .u64 ((W .u64 ((W .u64 (x17 * 4294967296)) + x14)) - (W .u64 (x18 * x2)))) x8)))
def bits_Div64.j28 (N : Nat) (x2 : Int) (x8 : Int) (x14 : Int) (x15 : Int) (x17 : Int) (x18 : Int) : Option ((Int) × (Int)) := bits_Div64.j28b N x2 x8 x14 x15 x17 x18
def bits_Div64.l24b (N : Nat) (s_j28 : bits_Div64.t_j28) (k_l24 : bits_Div64.t_l24) (x2 : Int) (x8 : Int) (x9 : Int) (x10 : Int) (x14 : Int) (x15 : Int) (x16 : Int) (x17 : Int) (x18 : Int) : Option ((Int) × (Int)) :=
  cond (leB 4294967296 x18) (let v30 : Int := W .u64 (x18 - 1); let v31 : Int := W .u64 (x16 + x9); cond (leB 4294967296 v31) (s_j28 x2 x8 x14 x15 x17 v30) (k_l24 x2 x8 x9 x10 x14 x15 v31 x17 v30)) (cond (ltB (W .u64 ((W .u64 ((4294967296 : Int) * x16)) + x14)) (W .u64 (x18 * x10))) (let v43 : Int := W .u64 (x18 - 1); let v44 : Int := W .u64 (x16 + x9); cond (leB 4294967296 v44) (s_j28 x2 x8 x14 x15 x17 v43) (k_l24 x2 x8 x9 x10 x14 x15 v44 x17 v43)) (s_j28 x2 x8 x14 x15 x17 x18))
def bits_Div64.l24 (N : Nat) : Nat → bits_Div64.t_l24
  | 0, _, _, _, _, _, _, _, _, _ => none
  | n + 1, x2, x8, x9, x10, x14, x15, x16, x17, x18 => bits_Div64.l24b N (bits_Div64.j28 N) (bits_Div64.l24 N n) x2 x8 x9 x10 x14 x15 x16 x17 x18
def bits_Div64.j21b (N : Nat) (s_l24 : bits_Div64.t_l24) (x2 : Int) (x8 : Int) (x9 : Int) (x10 : Int) (x11 : Int) (x13 : Int) (x14 : Int) (x15 : Int) : Option ((Int) × (Int)) :=
  let v25 : Int := W .u64 ((W .u64 ((W .u64 (x11 * 4294967296)) + x13)) - (W .u64 (x15 * x2))); cond (eqB x9 0) (none) (let v26 : Int := W .u64 (quo v25 x9); s_l24 x2 x8 x9 x10 x14 x15 (W .u64 (v25 - (W .u64 (v26 * x9)))) v25 v26)
def bits_Div64.j21 (N : Nat) (x2 : Int) (x8 : Int) (x9 : Int) (x10 : Int) (x11 : Int) (x13 : Int) (x14 : Int) (x15 : Int) : Option ((Int) × (Int)) := bits_Div64.j21b N (bits_Div64.l24 N N) x2 x8 x9 x10 x11 x13 x14 x15
def bits_Div64.l17b (N : Nat) (s_j21 : bits_Div64.t_j21) (k_l17 : bits_Div64.t_l17) (x2 : Int) (x8 : Int) (x9 : Int) (x10 : Int) (x11 : Int) (x13 : Int) (x14 : Int) (x15 : Int) (x16 : Int) : Option ((Int) × (Int)) :=
  cond (leB 4294967296 x15) (let v19 : Int := W .u64 (x15 - 1); let v20 : Int := W .u64 (x16 + x9); cond (leB 4294967296 v20) (s_j21 x2 x8 x9 x10 x11 x13 x14 v19) (k_l17 x2 x8 x9 x10 x11 x13 x14 v19 v20)) (cond (ltB (W .u64 ((W .u64 ((4294967296 : Int) * x16)) + x13)) (W .u64 (x15 * x10))) (let v48 : Int := W .u64 (x15 - 1); let v49 : Int := W .u64 (x16 + x9); cond (leB 4294967296 v49) (s_j21 x2 x8 x9 x10 x11 x13 x14 v48) (k_l17 x2 x8 x9 x10 x11 x13 x14 v48 v49)) (s_j21 x2 x8 x9 x10 x11 x13 x14 x15))
def bits_Div64.l17 (N : Nat) : Nat → bits_Div64.t_l17
  | 0, _, _, _, _, _, _, _, _, _ => none
  | n + 1, x2, x8, x9, x10, x11, x13, x14, x15, x16 => bits_Div64.l17b N (bits_Div64.j21 N) (bits_Div64.l17 N n) x2 x8 x9 x10 x11 x13 x14 x15 x16
def bits_Div64.b (N : Nat) (s_l17 : bits_Div64.t_l17) (a0 : Int) (a1 : Int) (a2 : Int) : Option ((Int) × (Int)) :=
  cond (eqB a2 0) (none) (cond (leB a2 a0) (none) (cond (eqB a0 0) (cond (eqB a2 0) (none) (cond (eqB a2 0) (none) (some ((W .u64 (quo a1 a2)), (rem a1 a2))))) ((bits_LeadingZeros64 N a2).bind fun r3 => let v4 : Int := W .u64 r3; cond (ltB v4 0) (none) (let v5 : Int := W .u64 (shl .u64 a2 v4); cond (ltB 32 0) (none) (let v6 : Int := shr .u64 v5 32; cond (ltB v4 0) (none) (let v9 : Int := W .u64 ((64 : Int) - v4); cond (ltB v9 0) (none) (let v11 : Int := bitw .or .u64 (W .u64 (shl .u64 a0 v4)) (shr .u64 a1 v9); cond (ltB v4 0) (none) (let v12 : Int := W .u64 (shl .u64 a1 v4); cond (ltB 32 0) (none) (cond (eqB v6 0) (none) (let v15 : Int := W .u64 (quo v11 v6); s_l17 v5 v4 v6 (bitw .and .u64 v5 4294967295) v11 (shr .u64 v12 32) (bitw .and .u64 v12 4294967295) v15 (W .u64 (v11 - (W .u64 (v15 * v6))))))))))))))
def bits_Div64 (N : Nat) (a0 : Int) (a1 : Int) (a2 : Int) : Option ((Int) × (Int)) := bits_Div64.b N (bits_Div64.l17 N N) a0 a1 a2

abbrev wide_Div.t_j13 := Ty.den tWide → Int → Int → Int → Option ((Ty.den tWide) × (Int) × (Bool))
def wide_Div.j13b (N : Nat) (x4 : Ty.den tWide) (x10 : Int) (x11 : Int) (x12 : Int) : Option ((Ty.den tWide) × (Int) × (Bool)) :=
  (wide_signed N true x10 x12).bind fun r11 => some (r11.1, (W .i64 x11), true)
def wide_Div.j13 (N : Nat) (x4 : Ty.den tWide) (x10 : Int) (x11 : Int) (x12 : Int) : Option ((Ty.den tWide) × (Int) × (Bool)) := wide_Div.j13b N x4 x10 x11 x12
def wide_Div.b (N : Nat) (s_j13 : wide_Div.t_j13) (a0 : Ty.den tWide) (a1 : Int) : Option ((Ty.den tWide) × (Int) × (Bool)) :=
  cond (ltB a1 1) (some (((0 : Int), ((0 : Int), ())), (0 : Int), false)) ((wide_size N a0).bind fun r1 => let v2 : Int := W .u64 a1; (bits_Div64 N (0 : Int) r1.1 v2).bind fun r3 => (bits_Div64 N r3.2 r1.2 v2).bind fun r4 => cond (leB 0 a0.1) (some (((W .i64 r3.1), (r4.1, ())), (W .i64 r4.2), true)) (cond (ltB 0 r4.2) ((add64 N r4.1 (1 : Int) (0 : Int)).bind fun r7 => s_j13 ((0 : Int), ((0 : Int), ())) (W .u64 (r3.1 + r7.2)) (W .u64 (v2 - r4.2)) r7.1) (s_j13 ((0 : Int), ((0 : Int), ())) r3.1 r4.2 r4.1)))
def wide_Div (N : Nat) (a0 : Ty.den tWide) (a1 : Int) : Option ((Ty.den tWide) × (Int) × (Bool)) := wide_Div.b N (wide_Div.j13 N) a0 a1

def wide_Int (N : Nat) (a0 : Ty.den tWide) : Option ((Int) × (Bool)) :=
  cond (ltB 63 0) (none) (cond (!eqB a0.1 (shr .i64 (W .i64 a0.2.1) 63)) (some ((0 : Int), false)) (some ((W .i64 a0.2.1), true)))

def slices_Clip_int (N : Nat) (a0 : List (Int)) : Option (List (Int)) :=
  cond (okCut 0 (List.length a0 : Int) (List.length a0 : Int) (List.length a0 : Int)) (some (List.drop (0 : Int).toNat (List.take (List.length a0 : Int).toNat a0))) (none)

abbrev share_Order.t_l6 := (List (Int)) → (List (Int)) → Int → Int → Int → Int → Option (List (Int))
abbrev share_Order.t_l3 := (List (Int)) → (List (Int)) → Int → Int → Option (List (Int))
def share_Order.l6b (N : Nat) (k_l3 : share_Order.t_l3) (k_l6 : share_Order.t_l6) (x0 : List (Int)) (x3 : List (Int)) (x4 : Int) (x5 : Int) (x10 : Int) (x11 : Int) : Option (List (Int)) :=
  cond (ltB 0 x5) (let v4 : Int := W .i64 (x5 - 1); cond (inb v4 (List.length x3)) (cond (inb (List.getD x3 v4.toNat (0 : Int)) (List.length x0)) (cond (inb x4 (List.length x0)) (cond (ltB (List.getD x0 (List.getD x3 v4.toNat (0 : Int)).toNat (0 : Int)) (List.getD x0 x4.toNat (0 : Int))) (k_l6 x0 x3 x4 (W .i64 (x5 - 1)) x10 x11) ((insertL N x3 x5 ([x4])).bind fun r6 => k_l3 x0 r6 x10 (W .i64 (x11 + 1)))) (none)) (none)) (none)) ((insertL N x3 x5 ([x4])).bind fun r8 => k_l3 x0 r8 x10 (W .i64 (x11 + 1)))
def share_Order.l6 (N : Nat) (k_l3 : share_Order.t_l3) : Nat → share_Order.t_l6
  | 0, _, _, _, _, _, _ => none
  | n + 1, x0, x3, x4, x5, x10, x11 => share_Order.l6b N k_l3 (share_Order.l6 N k_l3 n) x0 x3 x4 x5 x10 x11
def share_Order.l3b (N : Nat) (s_l6 : share_Order.t_l6) (k_l3 : share_Order.t_l3) (x0 : List (Int)) (x3 : List (Int)) (x10 : Int) (x11 : Int) : Option (List (Int)) :=
  cond (ltB x11 x10) (s_l6 x0 x3 x11 (List.length x3 : Int) x10 x11) ((slices_Clip_int N x3).bind fun r10 => some r10)
def share_Order.l3 (N : Nat) : Nat → share_Order.t_l3
  | 0, _, _, _, _ => none
  | n + 1, x0, x3, x10, x11 => share_Order.l3b N (share_Order.l6 N (share_Order.l3 N n) N) (share_Order.l3 N n) x0 x3 x10 x11
def share_Order.b (N : Nat) (s_l3 : share_Order.t_l3) (a0 : List (Int)) : Option (List (Int)) :=
  cond (okMake 0 (List.length a0 : Int)) (s_l3 a0 (List.replicate (0 : Int).toNat (0 : Int)) (List.length a0 : Int) (0 : Int)) (none)
def share_Order (N : Nat) (a0 : List (Int)) : Option (List (Int)) := share_Order.b N (share_Order.l3 N N) a0

abbrev share_Split.t_l21 := (List (Int)) → (List (Int)) → Int → Int → Option ((List (Int)) × (Int))
abbrev share_Split.t_l13 := Int → Int → (List (Int)) → (List (Int)) → Int → (List (Int)) → Int → Int → Option ((List (Int)) × (Int))
abbrev share_Split.t_j8 := Int → (List (Int)) → Int → Option ((List (Int)) × (Int))
def share_Split.l21b (N : Nat) (k_l21 : share_Split.t_l21) (x8 : List (Int)) (x88 : List (Int)) (x89 : Int) (x90 : Int) : Option ((List (Int)) × (Int)) :=
  cond (ltB x90 x89) (cond (inb x90 (List.length x88)) (cond (inb (List.getD x88 x90.toNat (0 : Int)) (List.length x8)) (cond (inb (List.getD x88 x90.toNat (0 : Int)) (List.length x8)) (k_l21 (List.set x8 (List.getD x88 x90.toNat (0 : Int)).toNat (W .i64 ((List.getD x8 (List.getD x88 x90.toNat (0 : Int)).toNat (0 : Int)) + 1))) x88 x89 (W .i64 (x90 + 1))) (none)) (none)) (none)) (some (x8, (0 : Int)))
def share_Split.l21 (N : Nat) : Nat → share_Split.t_l21
  | 0, _, _, _, _ => none
  | n + 1, x8, x88, x89, x90 => share_Split.l21b N (share_Split.l21 N n) x8 x88 x89 x90
def share_Split.l13b (N : Nat) (s_l21 : share_Split.t_l21) (k_l13 : share_Split.t_l13) (x0 : Int) (x6 : Int) (x8 : List (Int)) (x9 : List (Int)) (x10 : Int) (x50 : List (Int)) (x51 : Int) (x52 : Int) : Option ((List (Int)) × (Int)) :=
  cond (ltB x52 x51) (cond (inb x52 (List.length x50)) ((wide_Mul N x0 (List.getD x50 x52.toNat (0 : Int))).bind fun r7 => (wide_Div N r7 x6).bind fun r8 => (wide_Int N r8.1).bind fun r9 => cond (inb x52 (List.length x8)) (let v10 : List (Int) := List.set x8 x52.toNat r9.1; cond (inb x52 (List.length x9)) (cond (inb x52 (List.length v10)) (k_l13 x0 x6 v10 (List.set x9 x52.toNat r8.2.1) (W .i64 (x10 - (List.getD v10 x52.toNat (0 : Int)))) x50 x51 (W .i64 (x52 + 1))) (none)) (none)) (none)) (none)) ((share_Order N x9).bind fun r14 => cond (okCut 0 x10 (List.length r14 : Int) (List.length r14 : Int)) (let v15 : List (Int) := List.drop (0 : Int).toNat (List.take x10.toNat r14); s_l21 x8 v15 (List.length v15 : Int) (0 : Int)) (none))
def share_Split.l13 (N : Nat) : Nat → share_Split.t_l13
  | 0, _, _, _, _, _, _, _, _ => none
  | n + 1, x0, x6, x8, x9, x10, x50, x51, x52 => share_Split.l13b N (share_Split.l21 N N) (share_Split.l13 N n) x0 x6 x8 x9 x10 x50 x51 x52
def share_Split.j8b (N : Nat) (s_l13 : share_Split.t_l13) (x0 : Int) (x1 : List (Int)) (x6 : Int) : Option ((List (Int)) × (Int)) :=
  cond (okMake (List.length x1 : Int) (List.length x1 : Int)) (let v4 : List (Int) := List.replicate (List.length x1 : Int).toNat (0 : Int); cond (okMake (List.length x1 : Int) (List.length x1 : Int)) (cond (eqB x0 0) (some (v4, (0 : Int))) (s_l13 x0 x6 v4 (List.replicate (List.length x1 : Int).toNat (0 : Int)) x0 x1 (List.length x1 : Int) (0 : Int))) (none)) (none)
def share_Split.j8 (N : Nat) (x0 : Int) (x1 : List (Int)) (x6 : Int) : Option ((List (Int)) × (Int)) := share_Split.j8b N (share_Split.l13 N N) x0 x1 x6
def share_Split.b (N : Nat) (s_j8 : share_Split.t_j8) (a0 : Int) (a1 : List (Int)) : Option ((List (Int)) × (Int)) :=
  cond (ltB a0 0) (some ([], (1 : Int))) ((share_may N a1).bind fun r1 => cond (!r1) (some ([], (1 : Int))) ((amount_Sum N a1).bind fun r2 => cond (!r2.2) (some ([], (2 : Int))) (cond (eqB r2.1 0) (cond (ltB 0 a0) (some ([], (1 : Int))) (s_j8 a0 a1 r2.1)) (s_j8 a0 a1 r2.1))))
def share_Split (N : Nat) (a0 : Int) (a1 : List (Int)) : Option ((List (Int)) × (Int)) := share_Split.b N (share_Split.j8 N) a0 a1

abbrev share_Capped.t_l18 := (List (Int)) → (List (Int)) → (List (Int)) → Int → (List (Int)) → Int → Int → Option ((List (Int)) × (Int) × (Int))
abbrev share_Capped.t_l10 := (List (Int)) → (List (Int)) → (List (Int)) → Int → (List (Int)) → Int → Int → Option ((List (Int)) × (Int) × (Int))
abbrev share_Capped.t_l7 := (List (Int)) → (List (Int)) → (List (Int)) → Int → Option ((List (Int)) × (Int) × (Int))
def share_Capped.l18b (N : Nat) (k_l7 : share_Capped.t_l7) (k_l18 : share_Capped.t_l18) (x1 : List (Int)) (x2 : List (Int)) (x11 : List (Int)) (x12 : Int) (x84 : List (Int)) (x85 : Int) (x86 : Int) : Option ((List (Int)) × (Int) × (Int)) :=
  cond (ltB x86 x85) (cond (inb x86 (List.length x84)) (cond (inb x86 (List.length x2)) (cond (inb x86 (List.length x11)) (let v14 : Int := mn (List.getD x84 x86.toNat (0 : Int)) (W .i64 ((List.getD x2 x86.toNat (0 : Int)) - (List.getD x11 x86.toNat (0 : Int)))); cond (inb x86 (List.length x11)) (cond (inb x86 (List.length x11)) (k_l18 x1 x2 (List.set x11 x86.toNat (W .i64 ((List.getD x11 x86.toNat (0 : Int)) + v14))) (W .i64 (x12 - v14)) x84 x85 (W .i64 (x86 + 1))) (none)) (none)) (none)) (none)) (none)) (k_l7 x1 x2 x11 x12)
def share_Capped.l18 (N : Nat) (k_l7 : share_Capped.t_l7) : Nat → share_Capped.t_l18
  | 0, _, _, _, _, _, _, _ => none
  | n + 1, x1, x2, x11, x12, x84, x85, x86 => share_Capped.l18b N k_l7 (share_Capped.l18 N k_l7 n) x1 x2 x11 x12 x84 x85 x86
def share_Capped.l10b (N : Nat) (s_l18 : share_Capped.t_l18) (k_l7 : share_Capped.t_l7) (k_l10 : share_Capped.t_l10) (x1 : List (Int)) (x2 : List (Int)) (x11 : List (Int)) (x12 : Int) (x13 : List (Int)) (x55 : Int) (x56 : Int) : Option ((List (Int)) × (Int) × (Int)) :=
  cond (ltB x56 x55) (cond (inb x56 (List.length x11)) (cond (inb x56 (List.length x2)) (cond (ltB (List.getD x11 x56.toNat (0 : Int)) (List.getD x2 x56.toNat (0 : Int))) (cond (inb x56 (List.length x1)) (cond (inb x56 (List.length x13)) (k_l10 x1 x2 x11 x12 (List.set x13 x56.toNat (List.getD x1 x56.toNat (0 : Int))) x55 (W .i64 (x56 + 1))) (none)) (none)) (k_l10 x1 x2 x11 x12 x13 x55 (W .i64 (x56 + 1)))) (none)) (none)) ((share_Split N x12 x13).bind fun r11 => cond (!eqB r11.2 0) (some (x11, x12, (0 : Int))) (s_l18 x1 x2 x11 x12 r11.1 (List.length r11.1 : Int) (0 : Int)))
def share_Capped.l10 (N : Nat) (k_l7 : share_Capped.t_l7) : Nat → share_Capped.t_l10
  | 0, _, _, _, _, _, _, _ => none
  | n + 1, x1, x2, x11, x12, x13, x55, x56 => share_Capped.l10b N (share_Capped.l18 N k_l7 N) k_l7 (share_Capped.l10 N k_l7 n) x1 x2 x11 x12 x13 x55 x56
def share_Capped.l7b (N : Nat) (s_l10 : share_Capped.t_l10) (k_l7 : share_Capped.t_l7) (x1 : List (Int)) (x2 : List (Int)) (x11 : List (Int)) (x12 : Int) : Option ((List (Int)) × (Int) × (Int)) :=
  cond (ltB 0 x12) (cond (okMake (List.length x1 : Int) (List.length x1 : Int)) (s_l10 x1 x2 x11 x12 (List.replicate (List.length x1 : Int).toNat (0 : Int)) (List.length x1 : Int) (0 : Int)) (none)) (some (x11, x12, (0 : Int)))
def share_Capped.l7 (N : Nat) : Nat → share_Capped.t_l7
  | 0, _, _, _, _ => none
  | n + 1, x1, x2, x11, x12 => share_Capped.l7b N (share_Capped.l10 N (share_Capped.l7 N n) N) (share_Capped.l7 N n) x1 x2 x11 x12
def share_Capped.b (N : Nat) (s_l7 : share_Capped.t_l7) (a0 : Int) (a1 : List (Int)) (a2 : List (Int)) : Option ((List (Int)) × (Int) × (Int)) :=
  cond (ltB a0 0) (some ([], (0 : Int), (1 : Int))) ((share_may N a1).bind fun r1 => cond (!r1) (some ([], (0 : Int), (1 : Int))) (cond (!eqB (List.length a2 : Int) (List.length a1 : Int)) (some ([], (0 : Int), (1 : Int))) ((share_may N a2).bind fun r2 => cond (!r2) (some ([], (0 : Int), (1 : Int))) ((amount_Sum N a1).bind fun r3 => cond (!r3.2) (some ([], (0 : Int), (2 : Int))) (cond (okMake (List.length a1 : Int) (List.length a1 : Int)) (s_l7 a1 a2 (List.replicate (List.length a1 : Int).toNat (0 : Int)) a0) (none))))))
def share_Capped (N : Nat) (a0 : Int) (a1 : List (Int)) (a2 : List (Int)) : Option ((List (Int)) × (Int) × (Int)) := share_Capped.b N (share_Capped.l7 N N) a0 a1 a2

abbrev tear_Cuts.t_l21 := Int → Int → (List (Int)) → (List (Ty.den tI3)) → (List (Int)) → Int → Int → Option ((List (Ty.den tI3)) × (Int))
abbrev tear_Cuts.t_l11 := Int → Int → (List (Int)) → (List (Int)) → (List (Ty.den tI3)) → Int → Int → Option ((List (Ty.den tI3)) × (Int))
def tear_Cuts.l21b (N : Nat) (k_l21 : tear_Cuts.t_l21) (x2 : Int) (x8 : Int) (x9 : List (Int)) (x16 : List (Ty.den tI3)) (x95 : List (Int)) (x96 : Int) (x97 : Int) : Option ((List (Ty.den tI3)) × (Int)) :=
  cond (ltB x97 x96) (cond (inb x97 (List.length x95)) (cond (ltB x8 0) (let v17 : Int := W .i64 (0 - (List.getD x95 x97.toNat (0 : Int))); cond (!eqB v17 0) (cond (inb x97 (List.length x9)) (cond (small (List.length x16 + List.length ([(List.getD x9 x97.toNat (0 : Int), (x2, (v17, ())))]))) (k_l21 x2 x8 x9 (x16 ++ ([(List.getD x9 x97.toNat (0 : Int), (x2, (v17, ())))])) x95 x96 (W .i64 (x97 + 1))) (none)) (none)) (k_l21 x2 x8 x9 x16 x95 x96 (W .i64 (x97 + 1)))) (cond (!eqB (List.getD x95 x97.toNat (0 : Int)) (0 : Int)) (cond (inb x97 (List.length x9)) (cond (small (List.length x16 + List.length ([(List.getD x9 x97.toNat (0 : Int), (x2, (List.getD x95 x97.toNat (0 : Int), ())))]))) (k_l21 x2 x8 x9 (x16 ++ ([(List.getD x9 x97.toNat (0 : Int), (x2, (List.getD x95 x97.toNat (0 : Int), ())))])) x95 x96 (W .i64 (x97 + 1))) (none)) (none)) (k_l21 x2 x8 x9 x16 x95 x96 (W .i64 (x97 + 1))))) (none)) (some (x16, (0 : Int)))
def tear_Cuts.l21 (N : Nat) : Nat → tear_Cuts.t_l21
  | 0, _, _, _, _, _, _, _ => none
  | n + 1, x2, x8, x9, x16, x95, x96, x97 => tear_Cuts.l21b N (tear_Cuts.l21 N n) x2 x8 x9 x16 x95 x96 x97
def tear_Cuts.l11b (N : Nat) (s_l21 : tear_Cuts.t_l21) (k_l11 : tear_Cuts.t_l11) (x2 : Int) (x8 : Int) (x9 : List (Int)) (x10 : List (Int)) (x41 : List (Ty.den tI3)) (x42 : Int) (x43 : Int) : Option ((List (Ty.den tI3)) × (Int)) :=
  cond (ltB x43 x42) (cond (inb x43 (List.length x41)) (cond (!eqB ((List.getD x41 x43.toNat ((0 : Int), ((0 : Int), ((0 : Int), ())))).1) (0 : Int)) (cond (eqB (((List.getD x41 x43.toNat ((0 : Int), ((0 : Int), ((0 : Int), ())))).2).1) x2) (cond (!(teq .bool (ltB ((((List.getD x41 x43.toNat ((0 : Int), ((0 : Int), ((0 : Int), ())))).2).2).1) (0 : Int)) (ltB x8 0))) (cond (small (List.length x9 + List.length ([(List.getD x41 x43.toNat ((0 : Int), ((0 : Int), ((0 : Int), ())))).1]))) ((amount_Size N ((((List.getD x41 x43.toNat ((0 : Int), ((0 : Int), ((0 : Int), ())))).2).2).1)).bind fun r5 => let v6 : Int := W .i64 r5; cond (small (List.length x10 + List.length ([v6]))) (k_l11 x2 x8 (x9 ++ ([(List.getD x41 x43.toNat ((0 : Int), ((0 : Int), ((0 : Int), ())))).1])) (x10 ++ ([v6])) x41 x42 (W .i64 (x43 + 1))) (none)) (none)) (k_l11 x2 x8 x9 x10 x41 x42 (W .i64 (x43 + 1)))) (k_l11 x2 x8 x9 x10 x41 x42 (W .i64 (x43 + 1)))) (k_l11 x2 x8 x9 x10 x41 x42 (W .i64 (x43 + 1)))) (none)) ((amount_Size N x8).bind fun r12 => (share_Capped N (W .i64 r12) x10 x10).bind fun r14 => cond (!eqB r14.2.2 0) (some ([], r14.2.2)) (s_l21 x2 x8 x9 ([((0 : Int), (x2, ((W .i64 (0 - x8)), ())))]) r14.1 (List.length r14.1 : Int) (0 : Int)))
def tear_Cuts.l11 (N : Nat) : Nat → tear_Cuts.t_l11
  | 0, _, _, _, _, _, _, _ => none
  | n + 1, x2, x8, x9, x10, x41, x42, x43 => tear_Cuts.l11b N (tear_Cuts.l21 N N) (tear_Cuts.l11 N n) x2 x8 x9 x10 x41 x42 x43
def tear_Cuts.b (N : Nat) (s_l11 : tear_Cuts.t_l11) (a0 : Ty.den tConfig) (a1 : Ty.den tBook) (a2 : Int) : Option ((List (Ty.den tI3)) × (Int)) :=
  (book_Right N a0 a1).bind fun r1 => cond (!r1) (some ([], (1 : Int))) (cond (ltB a2 0) (some ([], (3 : Int))) (cond (leB (List.length a0.1 : Int) a2) (some ([], (3 : Int))) ((stock_Get N a1.2.2.2.1 (0 : Int) a2).bind fun r2 => cond (eqB r2 0) (some ([], (0 : Int))) (s_l11 a2 r2 ([]) ([]) a1.2.2.2.1 (List.length a1.2.2.2.1 : Int) (0 : Int)))))
def tear_Cuts (N : Nat) (a0 : Ty.den tConfig) (a1 : Ty.den tBook) (a2 : Int) : Option ((List (Ty.den tI3)) × (Int)) := tear_Cuts.b N (tear_Cuts.l11 N N) a0 a1 a2

def book_Copy (N : Nat) (a0 : Ty.den tBook) : Option (Ty.den tBook) :=
  (cloneL N a0.1).bind fun r1 => (cloneL N a0.2.1).bind fun r2 => (cloneL N a0.2.2.1).bind fun r3 => (cloneL N a0.2.2.2.1).bind fun r4 => (cloneL N a0.2.2.2.2.1).bind fun r5 => (cloneL N a0.2.2.2.2.2.1).bind fun r6 => some (r1, (r2, (r3, (r4, (r5, (r6, ()))))))

abbrev stock_flat.t_l6 := (List (Ty.den tI3)) → Int → (List (Ty.den tWide)) → Int → (List (Ty.den tI3)) → Int → Int → Option (Bool)
abbrev stock_flat.t_l2 := (List (Ty.den tI3)) → Int → Option (Bool)
def stock_flat.l6b (N : Nat) (k_l2 : stock_flat.t_l2) (k_l6 : stock_flat.t_l6) (x0 : List (Ty.den tI3)) (x3 : Int) (x4 : List (Ty.den tWide)) (x9 : Int) (x12 : List (Ty.den tI3)) (x13 : Int) (x14 : Int) : Option (Bool) :=
  cond (ltB x14 x13) (cond (inb x14 (List.length x12)) (cond (eqB (((List.getD x12 x14.toNat ((0 : Int), ((0 : Int), ((0 : Int), ())))).2).1) x3) ((wide_Of N ((((List.getD x12 x14.toNat ((0 : Int), ((0 : Int), ((0 : Int), ())))).2).2).1)).bind fun r3 => cond (small (List.length x4 + List.length ([r3]))) (k_l6 x0 x3 (x4 ++ ([r3])) x9 x12 x13 (W .i64 (x14 + 1))) (none)) (k_l6 x0 x3 x4 x9 x12 x13 (W .i64 (x14 + 1)))) (none)) ((wide_Sum N x4).bind fun r7 => cond (!r7.2) (some false) ((wide_Sign N r7.1).bind fun r8 => cond (!eqB r8 0) (some false) (k_l2 x0 (W .i64 (x9 + 1)))))
def stock_flat.l6 (N : Nat) (k_l2 : stock_flat.t_l2) : Nat → stock_flat.t_l6
  | 0, _, _, _, _, _, _, _ => none
  | n + 1, x0, x3, x4, x9, x12, x13, x14 => stock_flat.l6b N k_l2 (stock_flat.l6 N k_l2 n) x0 x3 x4 x9 x12 x13 x14
def stock_flat.l2b (N : Nat) (s_l6 : stock_flat.t_l6) (k_l2 : stock_flat.t_l2) (x0 : List (Ty.den tI3)) (x9 : Int) : Option (Bool) :=
  cond (ltB x9 6) (s_l6 x0 x9 ([]) x9 x0 (List.length x0 : Int) (0 : Int)) (some true)
def stock_flat.l2 (N : Nat) : Nat → stock_flat.t_l2
  | 0, _, _ => none
  | n + 1, x0, x9 => stock_flat.l2b N (stock_flat.l6 N (stock_flat.l2 N n) N) (stock_flat.l2 N n) x0 x9
def stock_flat.b (N : Nat) (s_l2 : stock_flat.t_l2) (a0 : List (Ty.den tI3)) : Option (Bool) :=
  s_l2 a0 (0 : Int)
def stock_flat (N : Nat) (a0 : List (Ty.den tI3)) : Option (Bool) := stock_flat.b N (stock_flat.l2 N N) a0

def slices_Clip_Pos (N : Nat) (a0 : List (Ty.den tI3)) : Option (List (Ty.den tI3)) :=
  cond (okCut 0 (List.length a0 : Int) (List.length a0 : Int) (List.length a0 : Int)) (some (List.drop (0 : Int).toNat (List.take (List.length a0 : Int).toNat a0))) (none)

abbrev stock_Post.t_j18 := (List (Ty.den tI3)) → (List (Ty.den tI3)) → Ty.den tI3 → Int → (List (Ty.den tI3)) → Int → Int → Option ((List (Ty.den tI3)) × (Int))
abbrev stock_Post.t_l16 := (List (Ty.den tI3)) → (List (Ty.den tI3)) → Ty.den tI3 → Int → (List (Ty.den tI3)) → Int → Int → Option ((List (Ty.den tI3)) × (Int))
abbrev stock_Post.t_l27 := (List (Ty.den tI3)) → (List (Ty.den tI3)) → Ty.den tI3 → (List (Ty.den tWide)) → (List (Ty.den tI3)) → Int → Int → (List (Ty.den tI3)) → Int → Int → Option ((List (Ty.den tI3)) × (Int))
abbrev stock_Post.t_l23 := (List (Ty.den tI3)) → (List (Ty.den tI3)) → (List (Ty.den tI3)) → Int → Int → Option ((List (Ty.den tI3)) × (Int))
abbrev stock_Post.t_l13 := (List (Ty.den tI3)) → (List (Ty.den tI3)) → (List (Ty.den tI3)) → Int → Int → Option ((List (Ty.den tI3)) × (Int))
abbrev stock_Post.t_l4 := (List (Ty.den tI3)) → (List (Ty.den tI3)) → (List (Ty.den tI3)) → Int → Int → Option ((List (Ty.den tI3)) × (Int))
def stock_Post.j18b (N : Nat) (k_l13 : stock_Post.t_l13) (x1 : List (Ty.den tI3)) (x8 : List (Ty.den tI3)) (x10 : Ty.den tI3) (x11 : Int) (x54 : List (Ty.den tI3)) (x55 : Int) (x56 : Int) : Option ((List (Ty.den tI3)) × (Int)) :=
  cond (eqB x11 (List.length x8 : Int)) ((insertL N x8 x11 ([(x10.1, (x10.2.1, ((0 : Int), ())))])).bind fun r13 => k_l13 x1 r13 x54 x55 (W .i64 (x56 + 1))) (cond (inb x11 (List.length x8)) ((stock_order N x10.1 x10.2.1 (List.getD x8 x11.toNat ((0 : Int), ((0 : Int), ((0 : Int), ()))))).bind fun r15 => cond (!eqB r15 0) ((insertL N x8 x11 ([(x10.1, (x10.2.1, ((0 : Int), ())))])).bind fun r16 => k_l13 x1 r16 x54 x55 (W .i64 (x56 + 1))) (k_l13 x1 x8 x54 x55 (W .i64 (x56 + 1)))) (none))
def stock_Post.j18 (N : Nat) (k_l13 : stock_Post.t_l13) (x1 : List (Ty.den tI3)) (x8 : List (Ty.den tI3)) (x10 : Ty.den tI3) (x11 : Int) (x54 : List (Ty.den tI3)) (x55 : Int) (x56 : Int) : Option ((List (Ty.den tI3)) × (Int)) := stock_Post.j18b N k_l13 x1 x8 x10 x11 x54 x55 x56
def stock_Post.l16b (N : Nat) (s_j18 : stock_Post.t_j18) (k_l13 : stock_Post.t_l13) (k_l16 : stock_Post.t_l16) (x1 : List (Ty.den tI3)) (x8 : List (Ty.den tI3)) (x10 : Ty.den tI3) (x11 : Int) (x54 : List (Ty.den tI3)) (x55 : Int) (x56 : Int) : Option ((List (Ty.den tI3)) × (Int)) :=
  cond (ltB x11 (List.length x8 : Int)) (cond (inb x11 (List.length x8)) ((stock_order N x10.1 x10.2.1 (List.getD x8 x11.toNat ((0 : Int), ((0 : Int), ((0 : Int), ()))))).bind fun r10 => cond (ltB 0 r10) (k_l16 x1 x8 x10 (W .i64 (x11 + 1)) x54 x55 x56) (s_j18 x1 x8 x10 x11 x54 x55 x56)) (none)) (s_j18 x1 x8 x10 x11 x54 x55 x56)
def stock_Post.l16 (N : Nat) (k_l13 : stock_Post.t_l13) : Nat → stock_Post.t_l16
  | 0, _, _, _, _, _, _, _ => none
  | n + 1, x1, x8, x10, x11, x54, x55, x56 => stock_Post.l16b N (stock_Post.j18 N k_l13) k_l13 (stock_Post.l16 N k_l13 n) x1 x8 x10 x11 x54 x55 x56
def stock_Post.l27b (N : Nat) (k_l23 : stock_Post.t_l23) (k_l27 : stock_Post.t_l27) (x1 : List (Ty.den tI3)) (x12 : List (Ty.den tI3)) (x14 : Ty.den tI3) (x15 : List (Ty.den tWide)) (x107 : List (Ty.den tI3)) (x108 : Int) (x109 : Int) (x117 : List (Ty.den tI3)) (x118 : Int) (x119 : Int) : Option ((List (Ty.den tI3)) × (Int)) :=
  cond (ltB x119 x118) (cond (inb x119 (List.length x117)) (cond (eqB ((List.getD x117 x119.toNat ((0 : Int), ((0 : Int), ((0 : Int), ())))).1) x14.1) (cond (eqB (((List.getD x117 x119.toNat ((0 : Int), ((0 : Int), ((0 : Int), ())))).2).1) x14.2.1) ((wide_Of N ((((List.getD x117 x119.toNat ((0 : Int), ((0 : Int), ((0 : Int), ())))).2).2).1)).bind fun r23 => cond (small (List.length x15 + List.length ([r23]))) (k_l27 x1 x12 x14 (x15 ++ ([r23])) x107 x108 x109 x117 x118 (W .i64 (x119 + 1))) (none)) (k_l27 x1 x12 x14 x15 x107 x108 x109 x117 x118 (W .i64 (x119 + 1)))) (k_l27 x1 x12 x14 x15 x107 x108 x109 x117 x118 (W .i64 (x119 + 1)))) (none)) ((wide_Sum N x15).bind fun r28 => (wide_Int N r28.1).bind fun r29 => cond (!r29.2) (some (([] : List ((Int) × ((Int) × ((Int) × (Unit))))), (2 : Int))) ((stock_Quantity N r29.1).bind fun r30 => cond (!r30) (some (([] : List ((Int) × ((Int) × ((Int) × (Unit))))), (2 : Int))) (cond (!eqB r29.1 0) (cond (small (List.length x12 + List.length ([(x14.1, (x14.2.1, (r29.1, ())))]))) (k_l23 x1 (x12 ++ ([(x14.1, (x14.2.1, (r29.1, ())))])) x107 x108 (W .i64 (x109 + 1))) (none)) (k_l23 x1 x12 x107 x108 (W .i64 (x109 + 1))))))
def stock_Post.l27 (N : Nat) (k_l23 : stock_Post.t_l23) : Nat → stock_Post.t_l27
  | 0, _, _, _, _, _, _, _, _, _, _ => none
  | n + 1, x1, x12, x14, x15, x107, x108, x109, x117, x118, x119 => stock_Post.l27b N k_l23 (stock_Post.l27 N k_l23 n) x1 x12 x14 x15 x107 x108 x109 x117 x118 x119
def stock_Post.l23b (N : Nat) (s_l27 : stock_Post.t_l27) (k_l23 : stock_Post.t_l23) (x1 : List (Ty.den tI3)) (x12 : List (Ty.den tI3)) (x107 : List (Ty.den tI3)) (x108 : Int) (x109 : Int) : Option ((List (Ty.den tI3)) × (Int)) :=
  cond (ltB x109 x108) (cond (inb x109 (List.length x107)) ((wide_Of N ((((List.getD x107 x109.toNat ((0 : Int), ((0 : Int), ((0 : Int), ())))).2).2).1)).bind fun r21 => s_l27 x1 x12 (List.getD x107 x109.toNat ((0 : Int), ((0 : Int), ((0 : Int), ())))) ([r21]) x107 x108 x109 x1 (List.length x1 : Int) (0 : Int)) (none)) ((slices_Clip_Pos N x12).bind fun r34 => some (r34, (0 : Int)))
def stock_Post.l23 (N : Nat) : Nat → stock_Post.t_l23
  | 0, _, _, _, _, _ => none
  | n + 1, x1, x12, x107, x108, x109 => stock_Post.l23b N (stock_Post.l27 N (stock_Post.l23 N n) N) (stock_Post.l23 N n) x1 x12 x107 x108 x109
def stock_Post.l13b (N : Nat) (s_l16 : stock_Post.t_l16) (s_l23 : stock_Post.t_l23) (k_l13 : stock_Post.t_l13) (x1 : List (Ty.den tI3)) (x8 : List (Ty.den tI3)) (x54 : List (Ty.den tI3)) (x55 : Int) (x56 : Int) : Option ((List (Ty.den tI3)) × (Int)) :=
  cond (ltB x56 x55) (cond (inb x56 (List.length x54)) (s_l16 x1 x8 (List.getD x54 x56.toNat ((0 : Int), ((0 : Int), ((0 : Int), ())))) (0 : Int) x54 x55 x56) (none)) (cond (okMake 0 (List.length x8 : Int)) (s_l23 x1 (List.replicate (0 : Int).toNat ((0 : Int), ((0 : Int), ((0 : Int), ())))) x8 (List.length x8 : Int) (0 : Int)) (none))
def stock_Post.l13 (N : Nat) : Nat → stock_Post.t_l13
  | 0, _, _, _, _, _ => none
  | n + 1, x1, x8, x54, x55, x56 => stock_Post.l13b N (stock_Post.l16 N (stock_Post.l13 N n) N) (stock_Post.l23 N N) (stock_Post.l13 N n) x1 x8 x54 x55 x56
def stock_Post.l4b (N : Nat) (s_l13 : stock_Post.t_l13) (k_l4 : stock_Post.t_l4) (x0 : List (Ty.den tI3)) (x1 : List (Ty.den tI3)) (x30 : List (Ty.den tI3)) (x31 : Int) (x32 : Int) : Option ((List (Ty.den tI3)) × (Int)) :=
  cond (ltB x32 x31) (cond (inb x32 (List.length x30)) ((stock_key N ((List.getD x30 x32.toNat ((0 : Int), ((0 : Int), ((0 : Int), ())))).1) (((List.getD x30 x32.toNat ((0 : Int), ((0 : Int), ((0 : Int), ())))).2).1)).bind fun r3 => cond (!r3) (some (([] : List ((Int) × ((Int) × ((Int) × (Unit))))), (1 : Int))) ((stock_Quantity N ((((List.getD x30 x32.toNat ((0 : Int), ((0 : Int), ((0 : Int), ())))).2).2).1)).bind fun r4 => cond (!r4) (some (([] : List ((Int) × ((Int) × ((Int) × (Unit))))), (1 : Int))) (k_l4 x0 x1 x30 x31 (W .i64 (x32 + 1))))) (none)) ((stock_flat N x1).bind fun r6 => cond (!r6) (some (([] : List ((Int) × ((Int) × ((Int) × (Unit))))), (1 : Int))) ((cloneL N x0).bind fun r7 => s_l13 x1 r7 x1 (List.length x1 : Int) (0 : Int)))
def stock_Post.l4 (N : Nat) : Nat → stock_Post.t_l4
  | 0, _, _, _, _, _ => none
  | n + 1, x0, x1, x30, x31, x32 => stock_Post.l4b N (stock_Post.l13 N N) (stock_Post.l4 N n) x0 x1 x30 x31 x32
def stock_Post.b (N : Nat) (s_l4 : stock_Post.t_l4) (a0 : List (Ty.den tI3)) (a1 : List (Ty.den tI3)) : Option ((List (Ty.den tI3)) × (Int)) :=
  (stock_Right N a0).bind fun r1 => cond (!r1) (some (([] : List ((Int) × ((Int) × ((Int) × (Unit))))), (1 : Int))) (cond (ltB 400 (List.length a1 : Int)) (some (([] : List ((Int) × ((Int) × ((Int) × (Unit))))), (1 : Int))) (s_l4 a0 a1 a1 (List.length a1 : Int) (0 : Int)))
def stock_Post (N : Nat) (a0 : List (Ty.den tI3)) (a1 : List (Ty.den tI3)) : Option ((List (Ty.den tI3)) × (Int)) := stock_Post.b N (stock_Post.l4 N N) a0 a1

def slices_Clip_Row (N : Nat) (a0 : List (Ty.den tI3)) : Option (List (Ty.den tI3)) :=
  cond (okCut 0 (List.length a0 : Int) (List.length a0 : Int) (List.length a0 : Int)) (some (List.drop (0 : Int).toNat (List.take (List.length a0 : Int).toNat a0))) (none)

abbrev ledger_Post.t_j21 := (List (Ty.den tEntry)) → (List (Ty.den tI3)) → Ty.den tEntry → Int → (List (Ty.den tEntry)) → Int → Int → Option ((List (Ty.den tI3)) × (Int))
abbrev ledger_Post.t_l19 := (List (Ty.den tEntry)) → (List (Ty.den tI3)) → Ty.den tEntry → Int → (List (Ty.den tEntry)) → Int → Int → Option ((List (Ty.den tI3)) × (Int))
abbrev ledger_Post.t_l30 := (List (Ty.den tEntry)) → (List (Ty.den tI3)) → Ty.den tI3 → (List (Ty.den tWide)) → (List (Ty.den tI3)) → Int → Int → (List (Ty.den tEntry)) → Int → Int → Option ((List (Ty.den tI3)) × (Int))
abbrev ledger_Post.t_l26 := (List (Ty.den tEntry)) → (List (Ty.den tI3)) → (List (Ty.den tI3)) → Int → Int → Option ((List (Ty.den tI3)) × (Int))
abbrev ledger_Post.t_l16 := (List (Ty.den tEntry)) → (List (Ty.den tI3)) → (List (Ty.den tEntry)) → Int → Int → Option ((List (Ty.den tI3)) × (Int))
abbrev ledger_Post.t_l5 := (List (Ty.den tI3)) → (List (Ty.den tEntry)) → (List (Ty.den tWide)) → (List (Ty.den tEntry)) → Int → Int → Option ((List (Ty.den tI3)) × (Int))
def ledger_Post.j21b (N : Nat) (k_l16 : ledger_Post.t_l16) (x1 : List (Ty.den tEntry)) (x11 : List (Ty.den tI3)) (x13 : Ty.den tEntry) (x14 : Int) (x68 : List (Ty.den tEntry)) (x69 : Int) (x70 : Int) : Option ((List (Ty.den tI3)) × (Int)) :=
  cond (eqB x14 (List.length x11 : Int)) ((insertL N x11 x14 ([(x13.1, (x13.2.1, ((0 : Int), ())))])).bind fun r15 => k_l16 x1 r15 x68 x69 (W .i64 (x70 + 1))) (cond (inb x14 (List.length x11)) ((ledger_order N x13.1 x13.2.1 (List.getD x11 x14.toNat ((0 : Int), ((0 : Int), ((0 : Int), ()))))).bind fun r17 => cond (!eqB r17 0) ((insertL N x11 x14 ([(x13.1, (x13.2.1, ((0 : Int), ())))])).bind fun r18 => k_l16 x1 r18 x68 x69 (W .i64 (x70 + 1))) (k_l16 x1 x11 x68 x69 (W .i64 (x70 + 1)))) (none))
def ledger_Post.j21 (N : Nat) (k_l16 : ledger_Post.t_l16) (x1 : List (Ty.den tEntry)) (x11 : List (Ty.den tI3)) (x13 : Ty.den tEntry) (x14 : Int) (x68 : List (Ty.den tEntry)) (x69 : Int) (x70 : Int) : Option ((List (Ty.den tI3)) × (Int)) := ledger_Post.j21b N k_l16 x1 x11 x13 x14 x68 x69 x70
def ledger_Post.l19b (N : Nat) (s_j21 : ledger_Post.t_j21) (k_l16 : ledger_Post.t_l16) (k_l19 : ledger_Post.t_l19) (x1 : List (Ty.den tEntry)) (x11 : List (Ty.den tI3)) (x13 : Ty.den tEntry) (x14 : Int) (x68 : List (Ty.den tEntry)) (x69 : Int) (x70 : Int) : Option ((List (Ty.den tI3)) × (Int)) :=
  cond (ltB x14 (List.length x11 : Int)) (cond (inb x14 (List.length x11)) ((ledger_order N x13.1 x13.2.1 (List.getD x11 x14.toNat ((0 : Int), ((0 : Int), ((0 : Int), ()))))).bind fun r12 => cond (ltB 0 r12) (k_l19 x1 x11 x13 (W .i64 (x14 + 1)) x68 x69 x70) (s_j21 x1 x11 x13 x14 x68 x69 x70)) (none)) (s_j21 x1 x11 x13 x14 x68 x69 x70)
def ledger_Post.l19 (N : Nat) (k_l16 : ledger_Post.t_l16) : Nat → ledger_Post.t_l19
  | 0, _, _, _, _, _, _, _ => none
  | n + 1, x1, x11, x13, x14, x68, x69, x70 => ledger_Post.l19b N (ledger_Post.j21 N k_l16) k_l16 (ledger_Post.l19 N k_l16 n) x1 x11 x13 x14 x68 x69 x70
def ledger_Post.l30b (N : Nat) (k_l26 : ledger_Post.t_l26) (k_l30 : ledger_Post.t_l30) (x1 : List (Ty.den tEntry)) (x15 : List (Ty.den tI3)) (x17 : Ty.den tI3) (x18 : List (Ty.den tWide)) (x121 : List (Ty.den tI3)) (x122 : Int) (x123 : Int) (x131 : List (Ty.den tEntry)) (x132 : Int) (x133 : Int) : Option ((List (Ty.den tI3)) × (Int)) :=
  cond (ltB x133 x132) (cond (inb x133 (List.length x131)) (cond (eqB ((List.getD x131 x133.toNat ((0 : Int), ((0 : Int), (((0 : Int), ((0 : Int), ())), ())))).1) x17.1) (cond (eqB (((List.getD x131 x133.toNat ((0 : Int), ((0 : Int), (((0 : Int), ((0 : Int), ())), ())))).2).1) x17.2.1) (cond (small (List.length x18 + List.length ([(((List.getD x131 x133.toNat ((0 : Int), ((0 : Int), (((0 : Int), ((0 : Int), ())), ())))).2).2).1]))) (k_l30 x1 x15 x17 (x18 ++ ([(((List.getD x131 x133.toNat ((0 : Int), ((0 : Int), (((0 : Int), ((0 : Int), ())), ())))).2).2).1])) x121 x122 x123 x131 x132 (W .i64 (x133 + 1))) (none)) (k_l30 x1 x15 x17 x18 x121 x122 x123 x131 x132 (W .i64 (x133 + 1)))) (k_l30 x1 x15 x17 x18 x121 x122 x123 x131 x132 (W .i64 (x133 + 1)))) (none)) ((wide_Sum N x18).bind fun r29 => (wide_Int N r29.1).bind fun r30 => cond (!r29.2) (some (([] : List ((Int) × ((Int) × ((Int) × (Unit))))), (2 : Int))) (cond (!r30.2) (some (([] : List ((Int) × ((Int) × ((Int) × (Unit))))), (2 : Int))) (cond (!eqB r30.1 0) (cond (small (List.length x15 + List.length ([(x17.1, (x17.2.1, (r30.1, ())))]))) (k_l26 x1 (x15 ++ ([(x17.1, (x17.2.1, (r30.1, ())))])) x121 x122 (W .i64 (x123 + 1))) (none)) (k_l26 x1 x15 x121 x122 (W .i64 (x123 + 1))))))
def ledger_Post.l30 (N : Nat) (k_l26 : ledger_Post.t_l26) : Nat → ledger_Post.t_l30
  | 0, _, _, _, _, _, _, _, _, _, _ => none
  | n + 1, x1, x15, x17, x18, x121, x122, x123, x131, x132, x133 => ledger_Post.l30b N k_l26 (ledger_Post.l30 N k_l26 n) x1 x15 x17 x18 x121 x122 x123 x131 x132 x133
def ledger_Post.l26b (N : Nat) (s_l30 : ledger_Post.t_l30) (k_l26 : ledger_Post.t_l26) (x1 : List (Ty.den tEntry)) (x15 : List (Ty.den tI3)) (x121 : List (Ty.den tI3)) (x122 : Int) (x123 : Int) : Option ((List (Ty.den tI3)) × (Int)) :=
  cond (ltB x123 x122) (cond (inb x123 (List.length x121)) ((wide_Of N ((((List.getD x121 x123.toNat ((0 : Int), ((0 : Int), ((0 : Int), ())))).2).2).1)).bind fun r23 => s_l30 x1 x15 (List.getD x121 x123.toNat ((0 : Int), ((0 : Int), ((0 : Int), ())))) ([r23]) x121 x122 x123 x1 (List.length x1 : Int) (0 : Int)) (none)) ((slices_Clip_Row N x15).bind fun r34 => some (r34, (0 : Int)))
def ledger_Post.l26 (N : Nat) : Nat → ledger_Post.t_l26
  | 0, _, _, _, _, _ => none
  | n + 1, x1, x15, x121, x122, x123 => ledger_Post.l26b N (ledger_Post.l30 N (ledger_Post.l26 N n) N) (ledger_Post.l26 N n) x1 x15 x121 x122 x123
def ledger_Post.l16b (N : Nat) (s_l19 : ledger_Post.t_l19) (s_l26 : ledger_Post.t_l26) (k_l16 : ledger_Post.t_l16) (x1 : List (Ty.den tEntry)) (x11 : List (Ty.den tI3)) (x68 : List (Ty.den tEntry)) (x69 : Int) (x70 : Int) : Option ((List (Ty.den tI3)) × (Int)) :=
  cond (ltB x70 x69) (cond (inb x70 (List.length x68)) (s_l19 x1 x11 (List.getD x68 x70.toNat ((0 : Int), ((0 : Int), (((0 : Int), ((0 : Int), ())), ())))) (0 : Int) x68 x69 x70) (none)) (cond (okMake 0 (List.length x11 : Int)) (s_l26 x1 (List.replicate (0 : Int).toNat ((0 : Int), ((0 : Int), ((0 : Int), ())))) x11 (List.length x11 : Int) (0 : Int)) (none))
def ledger_Post.l16 (N : Nat) : Nat → ledger_Post.t_l16
  | 0, _, _, _, _, _ => none
  | n + 1, x1, x11, x68, x69, x70 => ledger_Post.l16b N (ledger_Post.l19 N (ledger_Post.l16 N n) N) (ledger_Post.l26 N N) (ledger_Post.l16 N n) x1 x11 x68 x69 x70
def ledger_Post.l5b (N : Nat) (s_l16 : ledger_Post.t_l16) (k_l5 : ledger_Post.t_l5) (x0 : List (Ty.den tI3)) (x1 : List (Ty.den tEntry)) (x6 : List (Ty.den tWide)) (x36 : List (Ty.den tEntry)) (x37 : Int) (x38 : Int) : Option ((List (Ty.den tI3)) × (Int)) :=
  cond (ltB x38 x37) (cond (inb x38 (List.length x36)) ((ledger_Key N ((List.getD x36 x38.toNat ((0 : Int), ((0 : Int), (((0 : Int), ((0 : Int), ())), ())))).1) (((List.getD x36 x38.toNat ((0 : Int), ((0 : Int), (((0 : Int), ((0 : Int), ())), ())))).2).1)).bind fun r4 => cond (!r4) (some (([] : List ((Int) × ((Int) × ((Int) × (Unit))))), (1 : Int))) (cond (small (List.length x6 + List.length ([(((List.getD x36 x38.toNat ((0 : Int), ((0 : Int), (((0 : Int), ((0 : Int), ())), ())))).2).2).1]))) (k_l5 x0 x1 (x6 ++ ([(((List.getD x36 x38.toNat ((0 : Int), ((0 : Int), (((0 : Int), ((0 : Int), ())), ())))).2).2).1])) x36 x37 (W .i64 (x38 + 1))) (none))) (none)) ((wide_Sum N x6).bind fun r7 => cond (!r7.2) (some (([] : List ((Int) × ((Int) × ((Int) × (Unit))))), (1 : Int))) ((wide_Sign N r7.1).bind fun r8 => cond (!eqB r8 0) (some (([] : List ((Int) × ((Int) × ((Int) × (Unit))))), (1 : Int))) ((cloneL N x0).bind fun r9 => s_l16 x1 r9 x1 (List.length x1 : Int) (0 : Int))))
def ledger_Post.l5 (N : Nat) : Nat → ledger_Post.t_l5
  | 0, _, _, _, _, _, _ => none
  | n + 1, x0, x1, x6, x36, x37, x38 => ledger_Post.l5b N (ledger_Post.l16 N N) (ledger_Post.l5 N n) x0 x1 x6 x36 x37 x38
def ledger_Post.b (N : Nat) (s_l5 : ledger_Post.t_l5) (a0 : List (Ty.den tI3)) (a1 : List (Ty.den tEntry)) : Option ((List (Ty.den tI3)) × (Int)) :=
  (ledger_Right N a0).bind fun r1 => cond (!r1) (some (([] : List ((Int) × ((Int) × ((Int) × (Unit))))), (1 : Int))) (cond (ltB 400 (List.length a1 : Int)) (some (([] : List ((Int) × ((Int) × ((Int) × (Unit))))), (1 : Int))) (cond (okMake 0 (List.length a1 : Int)) (s_l5 a0 a1 (List.replicate (0 : Int).toNat ((0 : Int), ((0 : Int), ()))) a1 (List.length a1 : Int) (0 : Int)) (none)))
def ledger_Post (N : Nat) (a0 : List (Ty.den tI3)) (a1 : List (Ty.den tEntry)) : Option ((List (Ty.den tI3)) × (Int)) := ledger_Post.b N (ledger_Post.l5 N N) a0 a1

def book_Moved (N : Nat) (a0 : Ty.den tBook) (a1 : List (Ty.den tI3)) (a2 : List (Ty.den tEntry)) : Option ((Ty.den tBook) × (Int)) :=
  (book_Copy N a0).bind fun r1 => (stock_Post N a0.2.2.2.1 a1).bind fun r2 => cond (!eqB r2.2 0) (some ((([] : List ((Int) × ((Int) × (Unit)))), (([] : List ((Int) × ((Int) × ((Int) × ((Int) × (Unit)))))), (([] : List ((Int) × ((Int) × ((Int) × (Unit))))), (([] : List ((Int) × ((Int) × ((Int) × (Unit))))), (([] : List (Int)), (([] : List ((Int) × ((Int) × ((Int) × ((Int) × ((Int) × ((Int) × (Unit)))))))), ())))))), r2.2)) ((ledger_Post N a0.2.2.1 a2).bind fun r3 => cond (!eqB r3.2 0) (some ((([] : List ((Int) × ((Int) × (Unit)))), (([] : List ((Int) × ((Int) × ((Int) × ((Int) × (Unit)))))), (([] : List ((Int) × ((Int) × ((Int) × (Unit))))), (([] : List ((Int) × ((Int) × ((Int) × (Unit))))), (([] : List (Int)), (([] : List ((Int) × ((Int) × ((Int) × ((Int) × ((Int) × ((Int) × (Unit)))))))), ())))))), r3.2)) (some ((r1.1, (r1.2.1, (r3.1, (r2.1, r1.2.2.2.2)))), (0 : Int))))

abbrev tear_Tear.t_l5 := Ty.den tConfig → Ty.den tBook → Ty.den tBook → (List (Ty.den tI3)) → Int → Int → Option ((Ty.den tBook) × (Int))
def tear_Tear.l5b (N : Nat) (k_l5 : tear_Tear.t_l5) (x2 : Ty.den tConfig) (x3 : Ty.den tBook) (x4 : Ty.den tBook) (x6 : List (Ty.den tI3)) (x17 : Int) (x18 : Int) : Option ((Ty.den tBook) × (Int)) :=
  cond (ltB x18 x17) ((tear_Cuts N x2 x3 x18).bind fun r3 => cond (!eqB r3.2 0) (some ((([] : List ((Int) × ((Int) × (Unit)))), (([] : List ((Int) × ((Int) × ((Int) × ((Int) × (Unit)))))), (([] : List ((Int) × ((Int) × ((Int) × (Unit))))), (([] : List ((Int) × ((Int) × ((Int) × (Unit))))), (([] : List (Int)), (([] : List ((Int) × ((Int) × ((Int) × ((Int) × ((Int) × ((Int) × (Unit)))))))), ())))))), r3.2)) (cond (small (List.length x6 + List.length r3.1)) (k_l5 x2 x3 x4 (x6 ++ r3.1) x17 (W .i64 (x18 + 1))) (none))) ((book_Moved N x3 x6 ([] : List ((Int) × ((Int) × (((Int) × ((Int) × (Unit))) × (Unit)))))).bind fun r6 => some (r6.1, r6.2))
def tear_Tear.l5 (N : Nat) : Nat → tear_Tear.t_l5
  | 0, _, _, _, _, _, _ => none
  | n + 1, x2, x3, x4, x6, x17, x18 => tear_Tear.l5b N (tear_Tear.l5 N n) x2 x3 x4 x6 x17 x18
def tear_Tear.b (N : Nat) (s_l5 : tear_Tear.t_l5) (a0 : Ty.den tConfig) (a1 : Ty.den tBook) : Option ((Ty.den tBook) × (Int)) :=
  (book_Right N a0 a1).bind fun r1 => cond (!r1) (some ((([] : List ((Int) × ((Int) × (Unit)))), (([] : List ((Int) × ((Int) × ((Int) × ((Int) × (Unit)))))), (([] : List ((Int) × ((Int) × ((Int) × (Unit))))), (([] : List ((Int) × ((Int) × ((Int) × (Unit))))), (([] : List (Int)), (([] : List ((Int) × ((Int) × ((Int) × ((Int) × ((Int) × ((Int) × (Unit)))))))), ())))))), (1 : Int))) (s_l5 a0 a1 (([] : List ((Int) × ((Int) × (Unit)))), (([] : List ((Int) × ((Int) × ((Int) × ((Int) × (Unit)))))), (([] : List ((Int) × ((Int) × ((Int) × (Unit))))), (([] : List ((Int) × ((Int) × ((Int) × (Unit))))), (([] : List (Int)), (([] : List ((Int) × ((Int) × ((Int) × ((Int) × ((Int) × ((Int) × (Unit)))))))), ())))))) ([]) (List.length a0.1 : Int) (0 : Int))
def tear_Tear (N : Nat) (a0 : Ty.den tConfig) (a1 : Ty.den tBook) : Option ((Ty.den tBook) × (Int)) := tear_Tear.b N (tear_Tear.l5 N N) a0 a1

abbrev novationhelp_Shifts.t_l4 := (List (Ty.den tI3)) → (List (Ty.den tI3)) → Int → Option (Bool)
def novationhelp_Shifts.l4b (N : Nat) (k_l4 : novationhelp_Shifts.t_l4) (x0 : List (Ty.den tI3)) (x1 : List (Ty.den tI3)) (x5 : Int) : Option (Bool) :=
  cond (ltB x5 (List.length x0 : Int)) (cond (inb x5 (List.length x0)) (cond (inb x5 (List.length x1)) (cond (!(teq (.pair (.int .i64) (.pair (.int .i64) (.pair (.int .i64) .unit))) (List.getD x0 x5.toNat ((0 : Int), ((0 : Int), ((0 : Int), ())))) (List.getD x1 x5.toNat ((0 : Int), ((0 : Int), ((0 : Int), ())))))) (some false) (k_l4 x0 x1 (W .i64 (x5 + 1)))) (none)) (none)) (some true)
def novationhelp_Shifts.l4 (N : Nat) : Nat → novationhelp_Shifts.t_l4
  | 0, _, _, _ => none
  | n + 1, x0, x1, x5 => novationhelp_Shifts.l4b N (novationhelp_Shifts.l4 N n) x0 x1 x5
def novationhelp_Shifts.b (N : Nat) (s_l4 : novationhelp_Shifts.t_l4) (a0 : List (Ty.den tI3)) (a1 : List (Ty.den tI3)) : Option (Bool) :=
  cond (!eqB (List.length a0 : Int) (List.length a1 : Int)) (some false) (s_l4 a0 a1 (0 : Int))
def novationhelp_Shifts (N : Nat) (a0 : List (Ty.den tI3)) (a1 : List (Ty.den tI3)) : Option (Bool) := novationhelp_Shifts.b N (novationhelp_Shifts.l4 N N) a0 a1

abbrev novationhelp_Stock.t_l4 := (List (Ty.den tI3)) → (List (Ty.den tI3)) → Int → Option (Bool)
def novationhelp_Stock.l4b (N : Nat) (k_l4 : novationhelp_Stock.t_l4) (x0 : List (Ty.den tI3)) (x1 : List (Ty.den tI3)) (x5 : Int) : Option (Bool) :=
  cond (ltB x5 (List.length x0 : Int)) (cond (inb x5 (List.length x0)) (cond (inb x5 (List.length x1)) (cond (!(teq (.pair (.int .i64) (.pair (.int .i64) (.pair (.int .i64) .unit))) (List.getD x0 x5.toNat ((0 : Int), ((0 : Int), ((0 : Int), ())))) (List.getD x1 x5.toNat ((0 : Int), ((0 : Int), ((0 : Int), ())))))) (some false) (k_l4 x0 x1 (W .i64 (x5 + 1)))) (none)) (none)) (some true)
def novationhelp_Stock.l4 (N : Nat) : Nat → novationhelp_Stock.t_l4
  | 0, _, _, _ => none
  | n + 1, x0, x1, x5 => novationhelp_Stock.l4b N (novationhelp_Stock.l4 N n) x0 x1 x5
def novationhelp_Stock.b (N : Nat) (s_l4 : novationhelp_Stock.t_l4) (a0 : List (Ty.den tI3)) (a1 : List (Ty.den tI3)) : Option (Bool) :=
  cond (!eqB (List.length a0 : Int) (List.length a1 : Int)) (some false) (s_l4 a0 a1 (0 : Int))
def novationhelp_Stock (N : Nat) (a0 : List (Ty.den tI3)) (a1 : List (Ty.den tI3)) : Option (Bool) := novationhelp_Stock.b N (novationhelp_Stock.l4 N N) a0 a1

def novationlaw29_known (N : Nat) : Option (Bool) :=
  (novationlaw29_small N ).bind fun r1 => (tear_Cuts N r1.1 r1.2 (0 : Int)).bind fun r2 => (tear_Tear N r1.1 r1.2).bind fun r3 => (tear_Cuts N r1.1 r1.2 (1 : Int)).bind fun r4 => cond (eqB r2.2 0) ((novationhelp_Shifts N r2.1 ([((0 : Int), ((0 : Int), ((-3 : Int), ()))), ((1 : Int), ((0 : Int), ((2 : Int), ()))), ((2 : Int), ((0 : Int), ((1 : Int), ())))])).bind fun r5 => cond (r5) (cond (eqB r3.2 0) ((novationhelp_Stock N r3.1.2.2.2.1 ([((1 : Int), ((0 : Int), ((-2 : Int), ()))), ((2 : Int), ((0 : Int), ((-1 : Int), ()))), ((3 : Int), ((0 : Int), ((3 : Int), ())))])).bind fun r6 => cond (r6) (some (eqB r4.2 3)) (some false)) (some false)) (some false)) (some false)

def novationref4_within (N : Nat) (a0 : Int) (a1 : Int) (a2 : Int) : Option (Bool) :=
  cond (leB a1 a0) (some (leB a0 a2)) (some false)

abbrev novationref4_RightPlan.t_l4 := Ty.den tConfig → Int → Option (Bool)
def novationref4_RightPlan.l4b (N : Nat) (k_l4 : novationref4_RightPlan.t_l4) (x1 : Ty.den tConfig) (x3 : Int) : Option (Bool) :=
  cond (ltB x3 (List.length x1.1 : Int)) (cond (inb x3 (List.length x1.1)) ((novationref4_within N ((List.getD x1.1 x3.toNat ((0 : Int), ((0 : Int), ((0 : Int), ((0 : Int), ()))))).1) (0 : Int) (3 : Int)).bind fun r2 => cond (!r2) (some false) ((novationref4_within N (((List.getD x1.1 x3.toNat ((0 : Int), ((0 : Int), ((0 : Int), ((0 : Int), ()))))).2).1) (1 : Int) (1000000000000 : Int)).bind fun r3 => cond (!r3) (some false) ((novationref4_within N ((((List.getD x1.1 x3.toNat ((0 : Int), ((0 : Int), ((0 : Int), ((0 : Int), ()))))).2).2).1) (0 : Int) (1000000000 : Int)).bind fun r4 => cond (!r4) (some false) ((novationref4_within N (((((List.getD x1.1 x3.toNat ((0 : Int), ((0 : Int), ((0 : Int), ((0 : Int), ()))))).2).2).2).1) (0 : Int) (1000000000 : Int)).bind fun r5 => cond (!r5) (some false) (k_l4 x1 (W .i64 (x3 + 1))))))) (none)) (cond (leB 0 x1.2.1) ((novationref4_within N x1.2.2.1 (0 : Int) (4 : Int)).bind fun r7 => cond (r7) ((novationref4_within N x1.2.2.2.1 (0 : Int) (1000000 : Int)).bind fun r8 => cond (r8) ((novationref4_within N x1.2.2.2.2.1 (0 : Int) (1000000 : Int)).bind fun r9 => cond (r9) ((novationref4_within N x1.2.2.2.2.2.1 (1 : Int) (4611686018427387904 : Int)).bind fun r10 => cond (r10) (some (leB 0 x1.2.2.2.2.2.2.1)) (some false)) (some false)) (some false)) (some false)) (some false))
def novationref4_RightPlan.l4 (N : Nat) : Nat → novationref4_RightPlan.t_l4
  | 0, _, _ => none
  | n + 1, x1, x3 => novationref4_RightPlan.l4b N (novationref4_RightPlan.l4 N n) x1 x3
def novationref4_RightPlan.b (N : Nat) (s_l4 : novationref4_RightPlan.t_l4) (a0 : Ty.den tConfig) : Option (Bool) :=
  cond (ltB (List.length a0.1 : Int) 1) (some false) (cond (ltB 6 (List.length a0.1 : Int)) (some false) (s_l4 a0 (0 : Int)))
def novationref4_RightPlan (N : Nat) (a0 : Ty.den tConfig) : Option (Bool) := novationref4_RightPlan.b N (novationref4_RightPlan.l4 N N) a0

abbrev novationref10_Members.t_l2 := (List (Ty.den tI2)) → Int → Option (Bool)
def novationref10_Members.l2b (N : Nat) (k_l2 : novationref10_Members.t_l2) (x0 : List (Ty.den tI2)) (x3 : Int) : Option (Bool) :=
  cond (ltB x3 (List.length x0 : Int)) (cond (inb x3 (List.length x0)) (cond (ltB ((List.getD x0 x3.toNat ((0 : Int), ((0 : Int), ()))).1) (1 : Int)) (some false) (cond (inb x3 (List.length x0)) (cond (ltB 12 ((List.getD x0 x3.toNat ((0 : Int), ((0 : Int), ()))).1)) (some false) (cond (inb x3 (List.length x0)) (cond (ltB (((List.getD x0 x3.toNat ((0 : Int), ((0 : Int), ()))).2).1) (1 : Int)) (some false) (cond (inb x3 (List.length x0)) (cond (ltB 4 (((List.getD x0 x3.toNat ((0 : Int), ((0 : Int), ()))).2).1)) (some false) (cond (ltB 0 x3) (cond (inb x3 (List.length x0)) (let v2 : Int := W .i64 (x3 - 1); cond (inb v2 (List.length x0)) (cond (leB ((List.getD x0 x3.toNat ((0 : Int), ((0 : Int), ()))).1) ((List.getD x0 v2.toNat ((0 : Int), ((0 : Int), ()))).1)) (some false) (k_l2 x0 (W .i64 (x3 + 1)))) (none)) (none)) (k_l2 x0 (W .i64 (x3 + 1))))) (none))) (none))) (none))) (none)) (some true)
def novationref10_Members.l2 (N : Nat) : Nat → novationref10_Members.t_l2
  | 0, _, _ => none
  | n + 1, x0, x3 => novationref10_Members.l2b N (novationref10_Members.l2 N n) x0 x3
def novationref10_Members.b (N : Nat) (s_l2 : novationref10_Members.t_l2) (a0 : List (Ty.den tI2)) : Option (Bool) :=
  s_l2 a0 (0 : Int)
def novationref10_Members (N : Nat) (a0 : List (Ty.den tI2)) : Option (Bool) := novationref10_Members.b N (novationref10_Members.l2 N N) a0

abbrev novationref10_Accs.t_l8 := (List (Ty.den tI4)) → Int → Ty.den tI4 → Int → Option (Bool)
abbrev novationref10_Accs.t_j7 := (List (Ty.den tI4)) → Int → Ty.den tI4 → Option (Bool)
abbrev novationref10_Accs.t_l2 := (List (Ty.den tI4)) → Int → Option (Bool)
def novationref10_Accs.l8b (N : Nat) (k_l2 : novationref10_Accs.t_l2) (k_l8 : novationref10_Accs.t_l8) (x0 : List (Ty.den tI4)) (x3 : Int) (x4 : Ty.den tI4) (x5 : Int) : Option (Bool) :=
  cond (ltB x5 x3) (cond (eqB x4.2.2.1 1) (cond (inb x5 (List.length x0)) (cond (eqB ((((List.getD x0 x5.toNat ((0 : Int), ((0 : Int), ((0 : Int), ((0 : Int), ()))))).2).2).1) (1 : Int)) (cond (inb x5 (List.length x0)) (cond (eqB (((List.getD x0 x5.toNat ((0 : Int), ((0 : Int), ((0 : Int), ((0 : Int), ()))))).2).1) x4.2.1) (some false) (k_l8 x0 x3 x4 (W .i64 (x5 + 1)))) (none)) (k_l8 x0 x3 x4 (W .i64 (x5 + 1)))) (none)) (k_l8 x0 x3 x4 (W .i64 (x5 + 1)))) (k_l2 x0 (W .i64 (x3 + 1)))
def novationref10_Accs.l8 (N : Nat) (k_l2 : novationref10_Accs.t_l2) : Nat → novationref10_Accs.t_l8
  | 0, _, _, _, _ => none
  | n + 1, x0, x3, x4, x5 => novationref10_Accs.l8b N k_l2 (novationref10_Accs.l8 N k_l2 n) x0 x3 x4 x5
def novationref10_Accs.j7b (N : Nat) (s_l8 : novationref10_Accs.t_l8) (k_l2 : novationref10_Accs.t_l2) (x0 : List (Ty.den tI4)) (x3 : Int) (x4 : Ty.den tI4) : Option (Bool) :=
  s_l8 x0 x3 x4 (0 : Int)
def novationref10_Accs.j7 (N : Nat) (k_l2 : novationref10_Accs.t_l2) (x0 : List (Ty.den tI4)) (x3 : Int) (x4 : Ty.den tI4) : Option (Bool) := novationref10_Accs.j7b N (novationref10_Accs.l8 N k_l2 N) k_l2 x0 x3 x4
def novationref10_Accs.l2b (N : Nat) (s_j7 : novationref10_Accs.t_j7) (k_l2 : novationref10_Accs.t_l2) (x0 : List (Ty.den tI4)) (x3 : Int) : Option (Bool) :=
  cond (ltB x3 (List.length x0 : Int)) (cond (inb x3 (List.length x0)) (cond (ltB ((List.getD x0 x3.toNat ((0 : Int), ((0 : Int), ((0 : Int), ((0 : Int), ()))))).1) (1 : Int)) (some false) (cond (ltB 24 ((List.getD x0 x3.toNat ((0 : Int), ((0 : Int), ((0 : Int), ((0 : Int), ()))))).1)) (some false) (cond (ltB (((List.getD x0 x3.toNat ((0 : Int), ((0 : Int), ((0 : Int), ((0 : Int), ()))))).2).1) (1 : Int)) (some false) (cond (ltB 12 (((List.getD x0 x3.toNat ((0 : Int), ((0 : Int), ((0 : Int), ((0 : Int), ()))))).2).1)) (some false) (cond (!eqB ((((List.getD x0 x3.toNat ((0 : Int), ((0 : Int), ((0 : Int), ((0 : Int), ()))))).2).2).1) (1 : Int)) (cond (!eqB ((((List.getD x0 x3.toNat ((0 : Int), ((0 : Int), ((0 : Int), ((0 : Int), ()))))).2).2).1) (2 : Int)) (some false) (cond (ltB (((((List.getD x0 x3.toNat ((0 : Int), ((0 : Int), ((0 : Int), ((0 : Int), ()))))).2).2).2).1) (0 : Int)) (some false) (cond (ltB 1000000000000 (((((List.getD x0 x3.toNat ((0 : Int), ((0 : Int), ((0 : Int), ((0 : Int), ()))))).2).2).2).1)) (some false) (cond (ltB 0 x3) (let v2 : Int := W .i64 (x3 - 1); cond (inb v2 (List.length x0)) (cond (leB ((List.getD x0 x3.toNat ((0 : Int), ((0 : Int), ((0 : Int), ((0 : Int), ()))))).1) ((List.getD x0 v2.toNat ((0 : Int), ((0 : Int), ((0 : Int), ((0 : Int), ()))))).1)) (some false) (s_j7 x0 x3 (List.getD x0 x3.toNat ((0 : Int), ((0 : Int), ((0 : Int), ((0 : Int), ()))))))) (none)) (s_j7 x0 x3 (List.getD x0 x3.toNat ((0 : Int), ((0 : Int), ((0 : Int), ((0 : Int), ())))))))))) (cond (ltB (((((List.getD x0 x3.toNat ((0 : Int), ((0 : Int), ((0 : Int), ((0 : Int), ()))))).2).2).2).1) (0 : Int)) (some false) (cond (ltB 1000000000000 (((((List.getD x0 x3.toNat ((0 : Int), ((0 : Int), ((0 : Int), ((0 : Int), ()))))).2).2).2).1)) (some false) (cond (ltB 0 x3) (let v9 : Int := W .i64 (x3 - 1); cond (inb v9 (List.length x0)) (cond (leB ((List.getD x0 x3.toNat ((0 : Int), ((0 : Int), ((0 : Int), ((0 : Int), ()))))).1) ((List.getD x0 v9.toNat ((0 : Int), ((0 : Int), ((0 : Int), ((0 : Int), ()))))).1)) (some false) (s_j7 x0 x3 (List.getD x0 x3.toNat ((0 : Int), ((0 : Int), ((0 : Int), ((0 : Int), ()))))))) (none)) (s_j7 x0 x3 (List.getD x0 x3.toNat ((0 : Int), ((0 : Int), ((0 : Int), ((0 : Int), ())))))))))))))) (none)) (some true)
def novationref10_Accs.l2 (N : Nat) : Nat → novationref10_Accs.t_l2
  | 0, _, _ => none
  | n + 1, x0, x3 => novationref10_Accs.l2b N (novationref10_Accs.j7 N (novationref10_Accs.l2 N n)) (novationref10_Accs.l2 N n) x0 x3
def novationref10_Accs.b (N : Nat) (s_l2 : novationref10_Accs.t_l2) (a0 : List (Ty.den tI4)) : Option (Bool) :=
  s_l2 a0 (0 : Int)
def novationref10_Accs (N : Nat) (a0 : List (Ty.den tI4)) : Option (Bool) := novationref10_Accs.b N (novationref10_Accs.l2 N N) a0

abbrev novationref10_status.t_l2 := (List (Ty.den tI2)) → Int → Int → Option (Int)
def novationref10_status.l2b (N : Nat) (k_l2 : novationref10_status.t_l2) (x0 : List (Ty.den tI2)) (x1 : Int) (x5 : Int) : Option (Int) :=
  cond (ltB x5 (List.length x0 : Int)) (cond (inb x5 (List.length x0)) (cond (eqB ((List.getD x0 x5.toNat ((0 : Int), ((0 : Int), ()))).1) x1) (cond (inb x5 (List.length x0)) (some (((List.getD x0 x5.toNat ((0 : Int), ((0 : Int), ()))).2).1)) (none)) (k_l2 x0 x1 (W .i64 (x5 + 1)))) (none)) (some (0 : Int))
def novationref10_status.l2 (N : Nat) : Nat → novationref10_status.t_l2
  | 0, _, _, _ => none
  | n + 1, x0, x1, x5 => novationref10_status.l2b N (novationref10_status.l2 N n) x0 x1 x5
def novationref10_status.b (N : Nat) (s_l2 : novationref10_status.t_l2) (a0 : List (Ty.den tI2)) (a1 : Int) : Option (Int) :=
  s_l2 a0 a1 (0 : Int)
def novationref10_status (N : Nat) (a0 : List (Ty.den tI2)) (a1 : Int) : Option (Int) := novationref10_status.b N (novationref10_status.l2 N N) a0 a1

abbrev novationref10_RightRoll.t_l4 := (List (Ty.den tI2)) → (List (Ty.den tI4)) → Int → Option (Bool)
def novationref10_RightRoll.l4b (N : Nat) (k_l4 : novationref10_RightRoll.t_l4) (x0 : List (Ty.den tI2)) (x1 : List (Ty.den tI4)) (x5 : Int) : Option (Bool) :=
  cond (ltB x5 (List.length x1 : Int)) (cond (inb x5 (List.length x1)) ((novationref10_status N x0 (((List.getD x1 x5.toNat ((0 : Int), ((0 : Int), ((0 : Int), ((0 : Int), ()))))).2).1)).bind fun r4 => cond (eqB r4 0) (some false) (k_l4 x0 x1 (W .i64 (x5 + 1)))) (none)) (some true)
def novationref10_RightRoll.l4 (N : Nat) : Nat → novationref10_RightRoll.t_l4
  | 0, _, _, _ => none
  | n + 1, x0, x1, x5 => novationref10_RightRoll.l4b N (novationref10_RightRoll.l4 N n) x0 x1 x5
def novationref10_RightRoll.b (N : Nat) (s_l4 : novationref10_RightRoll.t_l4) (a0 : List (Ty.den tI2)) (a1 : List (Ty.den tI4)) : Option (Bool) :=
  (novationref10_Members N a0).bind fun r1 => cond (!r1) (some false) ((novationref10_Accs N a1).bind fun r2 => cond (!r2) (some false) (s_l4 a0 a1 (0 : Int)))
def novationref10_RightRoll (N : Nat) (a0 : List (Ty.den tI2)) (a1 : List (Ty.den tI4)) : Option (Bool) := novationref10_RightRoll.b N (novationref10_RightRoll.l4 N N) a0 a1

def novationref10_Key (N : Nat) (a0 : Int) (a1 : Int) : Option (Bool) :=
  cond (eqB a0 1) (some (eqB a1 0)) (cond (eqB a0 2) (some (eqB a1 0)) (cond (eqB a0 3) (some (eqB a1 0)) (cond (eqB a0 4) (some (eqB a1 0)) (cond (eqB a0 5) (cond (leB 1 a1) (some (leB a1 24)) (some false)) (cond (eqB a0 6) (cond (leB 1 a1) (some (leB a1 12)) (some false)) (cond (eqB a0 7) (cond (leB 1 a1) (some (leB a1 12)) (some false)) (some false)))))))

abbrev novationref10_Rows.t_l2 := (List (Ty.den tI3)) → Int → Option (Bool)
def novationref10_Rows.l2b (N : Nat) (k_l2 : novationref10_Rows.t_l2) (x0 : List (Ty.den tI3)) (x3 : Int) : Option (Bool) :=
  cond (ltB x3 (List.length x0 : Int)) (cond (inb x3 (List.length x0)) (cond (inb x3 (List.length x0)) ((novationref10_Key N ((List.getD x0 x3.toNat ((0 : Int), ((0 : Int), ((0 : Int), ())))).1) (((List.getD x0 x3.toNat ((0 : Int), ((0 : Int), ((0 : Int), ())))).2).1)).bind fun r2 => cond (!r2) (some false) (cond (inb x3 (List.length x0)) (cond (eqB ((((List.getD x0 x3.toNat ((0 : Int), ((0 : Int), ((0 : Int), ())))).2).2).1) (0 : Int)) (some false) (cond (ltB 0 x3) (cond (inb x3 (List.length x0)) (let v3 : Int := W .i64 (x3 - 1); cond (inb v3 (List.length x0)) (cond (ltB ((List.getD x0 x3.toNat ((0 : Int), ((0 : Int), ((0 : Int), ())))).1) ((List.getD x0 v3.toNat ((0 : Int), ((0 : Int), ((0 : Int), ())))).1)) (some false) (cond (inb x3 (List.length x0)) (let v4 : Int := W .i64 (x3 - 1); cond (inb v4 (List.length x0)) (cond (eqB ((List.getD x0 x3.toNat ((0 : Int), ((0 : Int), ((0 : Int), ())))).1) ((List.getD x0 v4.toNat ((0 : Int), ((0 : Int), ((0 : Int), ())))).1)) (cond (inb x3 (List.length x0)) (let v5 : Int := W .i64 (x3 - 1); cond (inb v5 (List.length x0)) (cond (leB (((List.getD x0 x3.toNat ((0 : Int), ((0 : Int), ((0 : Int), ())))).2).1) (((List.getD x0 v5.toNat ((0 : Int), ((0 : Int), ((0 : Int), ())))).2).1)) (some false) (k_l2 x0 (W .i64 (x3 + 1)))) (none)) (none)) (k_l2 x0 (W .i64 (x3 + 1)))) (none)) (none))) (none)) (none)) (k_l2 x0 (W .i64 (x3 + 1))))) (none))) (none)) (none)) (some true)
def novationref10_Rows.l2 (N : Nat) : Nat → novationref10_Rows.t_l2
  | 0, _, _ => none
  | n + 1, x0, x3 => novationref10_Rows.l2b N (novationref10_Rows.l2 N n) x0 x3
def novationref10_Rows.b (N : Nat) (s_l2 : novationref10_Rows.t_l2) (a0 : List (Ty.den tI3)) : Option (Bool) :=
  s_l2 a0 (0 : Int)
def novationref10_Rows (N : Nat) (a0 : List (Ty.den tI3)) : Option (Bool) := novationref10_Rows.b N (novationref10_Rows.l2 N N) a0

abbrev novationref10_Stock.t_l2 := (List (Ty.den tI3)) → Int → Option (Bool)
def novationref10_Stock.l2b (N : Nat) (k_l2 : novationref10_Stock.t_l2) (x0 : List (Ty.den tI3)) (x3 : Int) : Option (Bool) :=
  cond (ltB x3 (List.length x0 : Int)) (cond (inb x3 (List.length x0)) (cond (ltB ((List.getD x0 x3.toNat ((0 : Int), ((0 : Int), ((0 : Int), ())))).1) (0 : Int)) (some false) (cond (ltB 24 ((List.getD x0 x3.toNat ((0 : Int), ((0 : Int), ((0 : Int), ())))).1)) (some false) (cond (ltB (((List.getD x0 x3.toNat ((0 : Int), ((0 : Int), ((0 : Int), ())))).2).1) (0 : Int)) (some false) (cond (leB 6 (((List.getD x0 x3.toNat ((0 : Int), ((0 : Int), ((0 : Int), ())))).2).1)) (some false) (cond (eqB ((((List.getD x0 x3.toNat ((0 : Int), ((0 : Int), ((0 : Int), ())))).2).2).1) (0 : Int)) (some false) (cond (eqB ((((List.getD x0 x3.toNat ((0 : Int), ((0 : Int), ((0 : Int), ())))).2).2).1) (-9223372036854775808 : Int)) (some false) (cond (ltB 0 x3) (let v2 : Int := W .i64 (x3 - 1); cond (inb v2 (List.length x0)) (cond (ltB ((List.getD x0 x3.toNat ((0 : Int), ((0 : Int), ((0 : Int), ())))).1) ((List.getD x0 v2.toNat ((0 : Int), ((0 : Int), ((0 : Int), ())))).1)) (some false) (let v3 : Int := W .i64 (x3 - 1); cond (inb v3 (List.length x0)) (cond (eqB ((List.getD x0 x3.toNat ((0 : Int), ((0 : Int), ((0 : Int), ())))).1) ((List.getD x0 v3.toNat ((0 : Int), ((0 : Int), ((0 : Int), ())))).1)) (let v4 : Int := W .i64 (x3 - 1); cond (inb v4 (List.length x0)) (cond (leB (((List.getD x0 x3.toNat ((0 : Int), ((0 : Int), ((0 : Int), ())))).2).1) (((List.getD x0 v4.toNat ((0 : Int), ((0 : Int), ((0 : Int), ())))).2).1)) (some false) (k_l2 x0 (W .i64 (x3 + 1)))) (none)) (k_l2 x0 (W .i64 (x3 + 1)))) (none))) (none)) (k_l2 x0 (W .i64 (x3 + 1)))))))))) (none)) (some true)
def novationref10_Stock.l2 (N : Nat) : Nat → novationref10_Stock.t_l2
  | 0, _, _ => none
  | n + 1, x0, x3 => novationref10_Stock.l2b N (novationref10_Stock.l2 N n) x0 x3
def novationref10_Stock.b (N : Nat) (s_l2 : novationref10_Stock.t_l2) (a0 : List (Ty.den tI3)) : Option (Bool) :=
  s_l2 a0 (0 : Int)
def novationref10_Stock (N : Nat) (a0 : List (Ty.den tI3)) : Option (Bool) := novationref10_Stock.b N (novationref10_Stock.l2 N N) a0

abbrev novationref1_trim.t_l2 := (List (Int)) → Int → Option (List (Int))
def novationref1_trim.l2b (N : Nat) (k_l2 : novationref1_trim.t_l2) (x0 : List (Int)) (x3 : Int) : Option (List (Int)) :=
  cond (ltB 0 x3) (let v2 : Int := W .i64 (x3 - 1); cond (inb v2 (List.length x0)) (cond (eqB (List.getD x0 v2.toNat (0 : Int)) (0 : Int)) (k_l2 x0 (W .i64 (x3 - 1))) (cond (okCut 0 x3 x3 (List.length x0 : Int)) (some (List.drop (0 : Int).toNat (List.take x3.toNat x0))) (none))) (none)) (cond (okCut 0 x3 x3 (List.length x0 : Int)) (some (List.drop (0 : Int).toNat (List.take x3.toNat x0))) (none))
def novationref1_trim.l2 (N : Nat) : Nat → novationref1_trim.t_l2
  | 0, _, _ => none
  | n + 1, x0, x3 => novationref1_trim.l2b N (novationref1_trim.l2 N n) x0 x3
def novationref1_trim.b (N : Nat) (s_l2 : novationref1_trim.t_l2) (a0 : List (Int)) : Option (List (Int)) :=
  s_l2 a0 (List.length a0 : Int)
def novationref1_trim (N : Nat) (a0 : List (Int)) : Option (List (Int)) := novationref1_trim.b N (novationref1_trim.l2 N N) a0

def novationref1_size (N : Nat) (a0 : Int) : Option (List (Int)) :=
  cond (ltB 32 0) (none) ((novationref1_trim N ([(bitw .and .u64 a0 4294967295), (shr .u64 a0 32)])).bind fun r3 => some r3)

def novationref1_made (N : Nat) (a0 : Bool) (a1 : List (Int)) : Option (Ty.den tBig) :=
  (novationref1_trim N a1).bind fun r1 => cond (a0) (some (ltB 0 (List.length r1 : Int), (r1, ()))) (some (false, (r1, ())))

def novationref1_Whole (N : Nat) (a0 : Int) : Option (Ty.den tBig) :=
  let v1 : Int := W .u64 a0; cond (ltB a0 0) ((novationref1_size N (W .u64 (0 - v1))).bind fun r3 => (novationref1_made N (ltB a0 0) r3).bind fun r4 => some r4) ((novationref1_size N v1).bind fun r5 => (novationref1_made N (ltB a0 0) r5).bind fun r6 => some r6)

def novationref1_digit (N : Nat) (a0 : List (Int)) (a1 : Int) : Option (Int) :=
  cond (ltB a1 (List.length a0 : Int)) (cond (inb a1 (List.length a0)) (some (List.getD a0 a1.toNat (0 : Int))) (none)) (some (0 : Int))

abbrev novationref1_addSizes.t_j6 := (List (Int)) → (List (Int)) → (List (Int)) → Int → Int → Option (List (Int))
abbrev novationref1_addSizes.t_l4 := (List (Int)) → (List (Int)) → (List (Int)) → Int → Int → Option (List (Int))
def novationref1_addSizes.j6b (N : Nat) (k_l4 : novationref1_addSizes.t_l4) (x0 : List (Int)) (x1 : List (Int)) (x5 : List (Int)) (x6 : Int) (x7 : Int) : Option (List (Int)) :=
  (novationref1_digit N x0 x7).bind fun r3 => (novationref1_digit N x1 x7).bind fun r4 => let v6 : Int := W .u64 (x6 + (W .u64 (r3 + r4))); let v7 : Int := bitw .and .u64 v6 4294967295; cond (small (List.length x5 + List.length ([v7]))) (cond (ltB 32 0) (none) (k_l4 x0 x1 (x5 ++ ([v7])) (shr .u64 v6 32) (W .i64 (x7 + 1)))) (none)
def novationref1_addSizes.j6 (N : Nat) (k_l4 : novationref1_addSizes.t_l4) (x0 : List (Int)) (x1 : List (Int)) (x5 : List (Int)) (x6 : Int) (x7 : Int) : Option (List (Int)) := novationref1_addSizes.j6b N k_l4 x0 x1 x5 x6 x7
def novationref1_addSizes.l4b (N : Nat) (s_j6 : novationref1_addSizes.t_j6) (k_l4 : novationref1_addSizes.t_l4) (x0 : List (Int)) (x1 : List (Int)) (x5 : List (Int)) (x6 : Int) (x7 : Int) : Option (List (Int)) :=
  cond (ltB x7 (List.length x0 : Int)) (s_j6 x0 x1 x5 x6 x7) (cond (ltB x7 (List.length x1 : Int)) (s_j6 x0 x1 x5 x6 x7) (cond (ltB 0 x6) (s_j6 x0 x1 x5 x6 x7) (some x5)))
def novationref1_addSizes.l4 (N : Nat) : Nat → novationref1_addSizes.t_l4
  | 0, _, _, _, _, _ => none
  | n + 1, x0, x1, x5, x6, x7 => novationref1_addSizes.l4b N (novationref1_addSizes.j6 N (novationref1_addSizes.l4 N n)) (novationref1_addSizes.l4 N n) x0 x1 x5 x6 x7
def novationref1_addSizes.b (N : Nat) (s_l4 : novationref1_addSizes.t_l4) (a0 : List (Int)) (a1 : List (Int)) : Option (List (Int)) :=
  s_l4 a0 a1 ([]) (0 : Int) (0 : Int)
def novationref1_addSizes (N : Nat) (a0 : List (Int)) (a1 : List (Int)) : Option (List (Int)) := novationref1_addSizes.b N (novationref1_addSizes.l4 N N) a0 a1

abbrev novationref1_cmpSizes.t_l6 := (List (Int)) → (List (Int)) → Int → Option (Int)
def novationref1_cmpSizes.l6b (N : Nat) (k_l6 : novationref1_cmpSizes.t_l6) (x0 : List (Int)) (x1 : List (Int)) (x5 : Int) : Option (Int) :=
  cond (leB 0 x5) (cond (inb x5 (List.length x0)) (cond (inb x5 (List.length x1)) (cond (ltB (List.getD x0 x5.toNat (0 : Int)) (List.getD x1 x5.toNat (0 : Int))) (some (-1 : Int)) (cond (inb x5 (List.length x0)) (cond (inb x5 (List.length x1)) (cond (ltB (List.getD x1 x5.toNat (0 : Int)) (List.getD x0 x5.toNat (0 : Int))) (some (1 : Int)) (k_l6 x0 x1 (W .i64 (x5 - 1)))) (none)) (none))) (none)) (none)) (some (0 : Int))
def novationref1_cmpSizes.l6 (N : Nat) : Nat → novationref1_cmpSizes.t_l6
  | 0, _, _, _ => none
  | n + 1, x0, x1, x5 => novationref1_cmpSizes.l6b N (novationref1_cmpSizes.l6 N n) x0 x1 x5
def novationref1_cmpSizes.b (N : Nat) (s_l6 : novationref1_cmpSizes.t_l6) (a0 : List (Int)) (a1 : List (Int)) : Option (Int) :=
  cond (!eqB (List.length a0 : Int) (List.length a1 : Int)) (cond (ltB (List.length a0 : Int) (List.length a1 : Int)) (some (-1 : Int)) (some (1 : Int))) (s_l6 a0 a1 (W .i64 ((List.length a0 : Int) - 1)))
def novationref1_cmpSizes (N : Nat) (a0 : List (Int)) (a1 : List (Int)) : Option (Int) := novationref1_cmpSizes.b N (novationref1_cmpSizes.l6 N N) a0 a1

abbrev novationref1_subSizes.t_l4 := (List (Int)) → (List (Int)) → (List (Int)) → Int → Int → Option (List (Int))
def novationref1_subSizes.l4b (N : Nat) (k_l4 : novationref1_subSizes.t_l4) (x0 : List (Int)) (x1 : List (Int)) (x5 : List (Int)) (x6 : Int) (x7 : Int) : Option (List (Int)) :=
  cond (ltB x7 (List.length x0 : Int)) (cond (inb x7 (List.length x0)) ((novationref1_digit N x1 x7).bind fun r2 => let v3 : Int := W .u64 (r2 + x6); cond (ltB (List.getD x0 x7.toNat (0 : Int)) v3) (let v5 : Int := W .u64 ((W .u64 ((List.getD x0 x7.toNat (0 : Int)) + 4294967296)) - v3); cond (small (List.length x5 + List.length ([v5]))) (k_l4 x0 x1 (x5 ++ ([v5])) (1 : Int) (W .i64 (x7 + 1))) (none)) (let v8 : Int := W .u64 ((List.getD x0 x7.toNat (0 : Int)) - v3); cond (small (List.length x5 + List.length ([v8]))) (k_l4 x0 x1 (x5 ++ ([v8])) (0 : Int) (W .i64 (x7 + 1))) (none))) (none)) (some x5)
def novationref1_subSizes.l4 (N : Nat) : Nat → novationref1_subSizes.t_l4
  | 0, _, _, _, _, _ => none
  | n + 1, x0, x1, x5, x6, x7 => novationref1_subSizes.l4b N (novationref1_subSizes.l4 N n) x0 x1 x5 x6 x7
def novationref1_subSizes.b (N : Nat) (s_l4 : novationref1_subSizes.t_l4) (a0 : List (Int)) (a1 : List (Int)) : Option (List (Int)) :=
  s_l4 a0 a1 ([]) (0 : Int) (0 : Int)
def novationref1_subSizes (N : Nat) (a0 : List (Int)) (a1 : List (Int)) : Option (List (Int)) := novationref1_subSizes.b N (novationref1_subSizes.l4 N N) a0 a1

def novationref1_Plus (N : Nat) (a0 : Ty.den tBig) (a1 : Ty.den tBig) : Option (Ty.den tBig) :=
  cond (teq .bool a0.1 a1.1) ((novationref1_addSizes N a0.2.1 a1.2.1).bind fun r1 => (novationref1_made N a0.1 r1).bind fun r2 => some r2) ((novationref1_cmpSizes N a0.2.1 a1.2.1).bind fun r3 => cond (leB 0 r3) ((novationref1_subSizes N a0.2.1 a1.2.1).bind fun r4 => (novationref1_made N a0.1 r4).bind fun r5 => some r5) ((novationref1_subSizes N a1.2.1 a0.2.1).bind fun r6 => (novationref1_made N a1.1 r6).bind fun r7 => some r7))

abbrev novationref10_SumInst.t_l5 := (List (Ty.den tI3)) → Int → Ty.den tBig → Ty.den tBig → Int → Option (Ty.den tBig)
def novationref10_SumInst.l5b (N : Nat) (k_l5 : novationref10_SumInst.t_l5) (x0 : List (Ty.den tI3)) (x1 : Int) (x4 : Ty.den tBig) (x5 : Ty.den tBig) (x6 : Int) : Option (Ty.den tBig) :=
  cond (ltB x6 (List.length x0 : Int)) (cond (inb x6 (List.length x0)) (cond (eqB (((List.getD x0 x6.toNat ((0 : Int), ((0 : Int), ((0 : Int), ())))).2).1) x1) (cond (inb x6 (List.length x0)) ((novationref1_Whole N ((((List.getD x0 x6.toNat ((0 : Int), ((0 : Int), ((0 : Int), ())))).2).2).1)).bind fun r3 => (novationref1_Plus N x5 r3).bind fun r4 => k_l5 x0 x1 x4 r4 (W .i64 (x6 + 1))) (none)) (k_l5 x0 x1 x4 x5 (W .i64 (x6 + 1)))) (none)) (some x5)
def novationref10_SumInst.l5 (N : Nat) : Nat → novationref10_SumInst.t_l5
  | 0, _, _, _, _, _ => none
  | n + 1, x0, x1, x4, x5, x6 => novationref10_SumInst.l5b N (novationref10_SumInst.l5 N n) x0 x1 x4 x5 x6
def novationref10_SumInst.b (N : Nat) (s_l5 : novationref10_SumInst.t_l5) (a0 : List (Ty.den tI3)) (a1 : Int) : Option (Ty.den tBig) :=
  (novationref10_Stock N a0).bind fun r1 => cond (!r1) (some (false, (([] : List (Int)), ()))) (s_l5 a0 a1 (false, (([] : List (Int)), ())) (false, (([] : List (Int)), ())) (0 : Int))
def novationref10_SumInst (N : Nat) (a0 : List (Ty.den tI3)) (a1 : Int) : Option (Ty.den tBig) := novationref10_SumInst.b N (novationref10_SumInst.l5 N N) a0 a1

def novationref1_Sign (N : Nat) (a0 : Ty.den tBig) : Option (Int) :=
  cond (eqB (List.length a0.2.1 : Int) 0) (some (0 : Int)) (cond (a0.1) (some (-1 : Int)) (some (1 : Int)))

abbrev novationref10_Flat.t_l2 := (List (Ty.den tI3)) → Int → Option (Bool)
def novationref10_Flat.l2b (N : Nat) (k_l2 : novationref10_Flat.t_l2) (x0 : List (Ty.den tI3)) (x3 : Int) : Option (Bool) :=
  cond (ltB x3 6) ((novationref10_SumInst N x0 x3).bind fun r2 => (novationref1_Sign N r2).bind fun r3 => cond (!eqB r3 0) (some false) (k_l2 x0 (W .i64 (x3 + 1)))) ((novationref10_Stock N x0).bind fun r5 => some r5)
def novationref10_Flat.l2 (N : Nat) : Nat → novationref10_Flat.t_l2
  | 0, _, _ => none
  | n + 1, x0, x3 => novationref10_Flat.l2b N (novationref10_Flat.l2 N n) x0 x3
def novationref10_Flat.b (N : Nat) (s_l2 : novationref10_Flat.t_l2) (a0 : List (Ty.den tI3)) : Option (Bool) :=
  s_l2 a0 (0 : Int)
def novationref10_Flat (N : Nat) (a0 : List (Ty.den tI3)) : Option (Bool) := novationref10_Flat.b N (novationref10_Flat.l2 N N) a0

def novationref15_price (N : Nat) (a0 : Int) : Option (Bool) :=
  cond (leB 1 a0) (some (leB a0 1000000000000)) (some false)

def novationref15_RightOrder (N : Nat) (a0 : Ty.den tI6) : Option (Bool) :=
  cond (leB 1 a0.1) (cond (leB a0.1 1099511627776) (cond (leB 1 a0.2.1) (cond (leB a0.2.1 24) (cond (leB 0 a0.2.2.1) (cond (ltB a0.2.2.1 6) (cond (eqB a0.2.2.2.1 1) (cond (leB 1 a0.2.2.2.2.1) (cond (leB a0.2.2.2.2.1 1000000000) ((novationref15_price N a0.2.2.2.2.2.1).bind fun r1 => some r1) (some false)) (some false)) (cond (eqB a0.2.2.2.1 2) (cond (leB 1 a0.2.2.2.2.1) (cond (leB a0.2.2.2.2.1 1000000000) ((novationref15_price N a0.2.2.2.2.2.1).bind fun r2 => some r2) (some false)) (some false)) (some false))) (some false)) (some false)) (some false)) (some false)) (some false)) (some false)

abbrev novationref15_Orders.t_l4 := (List (Ty.den tI6)) → Int → Option (Bool)
def novationref15_Orders.l4b (N : Nat) (k_l4 : novationref15_Orders.t_l4) (x0 : List (Ty.den tI6)) (x3 : Int) : Option (Bool) :=
  cond (ltB x3 (List.length x0 : Int)) (cond (inb x3 (List.length x0)) ((novationref15_RightOrder N (List.getD x0 x3.toNat ((0 : Int), ((0 : Int), ((0 : Int), ((0 : Int), ((0 : Int), ((0 : Int), ())))))))).bind fun r2 => cond (!r2) (some false) (cond (ltB 0 x3) (cond (inb x3 (List.length x0)) (let v3 : Int := W .i64 (x3 - 1); cond (inb v3 (List.length x0)) (cond (leB ((List.getD x0 x3.toNat ((0 : Int), ((0 : Int), ((0 : Int), ((0 : Int), ((0 : Int), ((0 : Int), ()))))))).1) ((List.getD x0 v3.toNat ((0 : Int), ((0 : Int), ((0 : Int), ((0 : Int), ((0 : Int), ((0 : Int), ()))))))).1)) (some false) (k_l4 x0 (W .i64 (x3 + 1)))) (none)) (none)) (k_l4 x0 (W .i64 (x3 + 1))))) (none)) (some true)
def novationref15_Orders.l4 (N : Nat) : Nat → novationref15_Orders.t_l4
  | 0, _, _ => none
  | n + 1, x0, x3 => novationref15_Orders.l4b N (novationref15_Orders.l4 N n) x0 x3
def novationref15_Orders.b (N : Nat) (s_l4 : novationref15_Orders.t_l4) (a0 : List (Ty.den tI6)) : Option (Bool) :=
  cond (ltB 32 (List.length a0 : Int)) (some false) (s_l4 a0 (0 : Int))
def novationref15_Orders (N : Nat) (a0 : List (Ty.den tI6)) : Option (Bool) := novationref15_Orders.b N (novationref15_Orders.l4 N N) a0

abbrev novationref10_Total.t_l5 := (List (Ty.den tI3)) → Ty.den tBig → Ty.den tBig → Int → Option (Ty.den tBig)
def novationref10_Total.l5b (N : Nat) (k_l5 : novationref10_Total.t_l5) (x0 : List (Ty.den tI3)) (x2 : Ty.den tBig) (x3 : Ty.den tBig) (x4 : Int) : Option (Ty.den tBig) :=
  cond (ltB x4 (List.length x0 : Int)) (cond (inb x4 (List.length x0)) ((novationref1_Whole N ((((List.getD x0 x4.toNat ((0 : Int), ((0 : Int), ((0 : Int), ())))).2).2).1)).bind fun r3 => (novationref1_Plus N x3 r3).bind fun r4 => k_l5 x0 x2 r4 (W .i64 (x4 + 1))) (none)) (some x3)
def novationref10_Total.l5 (N : Nat) : Nat → novationref10_Total.t_l5
  | 0, _, _, _, _ => none
  | n + 1, x0, x2, x3, x4 => novationref10_Total.l5b N (novationref10_Total.l5 N n) x0 x2 x3 x4
def novationref10_Total.b (N : Nat) (s_l5 : novationref10_Total.t_l5) (a0 : List (Ty.den tI3)) : Option (Ty.den tBig) :=
  (novationref10_Rows N a0).bind fun r1 => cond (!r1) (some (false, (([] : List (Int)), ()))) (s_l5 a0 (false, (([] : List (Int)), ())) (false, (([] : List (Int)), ())) (0 : Int))
def novationref10_Total (N : Nat) (a0 : List (Ty.den tI3)) : Option (Ty.den tBig) := novationref10_Total.b N (novationref10_Total.l5 N N) a0

abbrev novationref10_find.t_l2 := (List (Ty.den tI4)) → Int → Ty.den tI4 → Int → Option ((Ty.den tI4) × (Bool))
def novationref10_find.l2b (N : Nat) (k_l2 : novationref10_find.t_l2) (x0 : List (Ty.den tI4)) (x1 : Int) (x4 : Ty.den tI4) (x6 : Int) : Option ((Ty.den tI4) × (Bool)) :=
  cond (ltB x6 (List.length x0 : Int)) (cond (inb x6 (List.length x0)) (cond (eqB ((List.getD x0 x6.toNat ((0 : Int), ((0 : Int), ((0 : Int), ((0 : Int), ()))))).1) x1) (cond (inb x6 (List.length x0)) (some (List.getD x0 x6.toNat ((0 : Int), ((0 : Int), ((0 : Int), ((0 : Int), ())))), true)) (none)) (k_l2 x0 x1 x4 (W .i64 (x6 + 1)))) (none)) (some (((0 : Int), ((0 : Int), ((0 : Int), ((0 : Int), ())))), false))
def novationref10_find.l2 (N : Nat) : Nat → novationref10_find.t_l2
  | 0, _, _, _, _ => none
  | n + 1, x0, x1, x4, x6 => novationref10_find.l2b N (novationref10_find.l2 N n) x0 x1 x4 x6
def novationref10_find.b (N : Nat) (s_l2 : novationref10_find.t_l2) (a0 : List (Ty.den tI4)) (a1 : Int) : Option ((Ty.den tI4) × (Bool)) :=
  s_l2 a0 a1 ((0 : Int), ((0 : Int), ((0 : Int), ((0 : Int), ())))) (0 : Int)
def novationref10_find (N : Nat) (a0 : List (Ty.den tI4)) (a1 : Int) : Option ((Ty.den tI4) × (Bool)) := novationref10_find.b N (novationref10_find.l2 N N) a0 a1

def novationref10_Find (N : Nat) (a0 : List (Ty.den tI4)) (a1 : Int) : Option ((Ty.den tI4) × (Bool)) :=
  (novationref10_Accs N a0).bind fun r1 => cond (!r1) (some (((0 : Int), ((0 : Int), ((0 : Int), ((0 : Int), ())))), false)) ((novationref10_find N a0 a1).bind fun r2 => some (r2.1, r2.2))

def novationref15_there (N : Nat) (a0 : Ty.den tBook) (a1 : Int) : Option (Bool) :=
  (novationref10_Find N a0.2.1 a1).bind fun r1 => cond (r1.2) (some true) (some (eqB a1 0))

def novationref10_Status (N : Nat) (a0 : List (Ty.den tI2)) (a1 : Int) : Option (Int) :=
  (novationref10_Members N a0).bind fun r1 => cond (!r1) (some (0 : Int)) ((novationref10_status N a0 a1).bind fun r2 => some r2)

abbrev novationref15_RightBook.t_l22 := Ty.den tConfig → Ty.den tBook → Int → Option (Bool)
abbrev novationref15_RightBook.t_l17 := Ty.den tConfig → Ty.den tBook → Int → Option (Bool)
abbrev novationref15_RightBook.t_l12 := Ty.den tConfig → Ty.den tBook → Int → Option (Bool)
abbrev novationref15_RightBook.t_l6 := Ty.den tConfig → Ty.den tBook → Int → Option (Bool)
def novationref15_RightBook.l22b (N : Nat) (k_l22 : novationref15_RightBook.t_l22) (x2 : Ty.den tConfig) (x3 : Ty.den tBook) (x9 : Int) : Option (Bool) :=
  cond (ltB x9 (List.length x3.2.2.2.2.2.1 : Int)) (cond (inb x9 (List.length x3.2.2.2.2.2.1)) ((novationref15_there N x3 (((List.getD x3.2.2.2.2.2.1 x9.toNat ((0 : Int), ((0 : Int), ((0 : Int), ((0 : Int), ((0 : Int), ((0 : Int), ()))))))).2).1)).bind fun r27 => cond (!r27) (some false) (cond (inb x9 (List.length x3.2.2.2.2.2.1)) (cond (leB (List.length x2.1 : Int) ((((List.getD x3.2.2.2.2.2.1 x9.toNat ((0 : Int), ((0 : Int), ((0 : Int), ((0 : Int), ((0 : Int), ((0 : Int), ()))))))).2).2).1)) (some false) (k_l22 x2 x3 (W .i64 (x9 + 1)))) (none))) (none)) (some true)
def novationref15_RightBook.l22 (N : Nat) : Nat → novationref15_RightBook.t_l22
  | 0, _, _, _ => none
  | n + 1, x2, x3, x9 => novationref15_RightBook.l22b N (novationref15_RightBook.l22 N n) x2 x3 x9
def novationref15_RightBook.l17b (N : Nat) (s_l22 : novationref15_RightBook.t_l22) (k_l17 : novationref15_RightBook.t_l17) (x2 : Ty.den tConfig) (x3 : Ty.den tBook) (x8 : Int) : Option (Bool) :=
  cond (ltB x8 (List.length x3.2.2.2.2.1 : Int)) (cond (inb x8 (List.length x3.2.2.2.2.1)) ((novationref15_price N (List.getD x3.2.2.2.2.1 x8.toNat (0 : Int))).bind fun r24 => cond (!r24) (some false) (k_l17 x2 x3 (W .i64 (x8 + 1)))) (none)) (s_l22 x2 x3 (0 : Int))
def novationref15_RightBook.l17 (N : Nat) : Nat → novationref15_RightBook.t_l17
  | 0, _, _, _ => none
  | n + 1, x2, x3, x8 => novationref15_RightBook.l17b N (novationref15_RightBook.l22 N N) (novationref15_RightBook.l17 N n) x2 x3 x8
def novationref15_RightBook.l12b (N : Nat) (s_l17 : novationref15_RightBook.t_l17) (k_l12 : novationref15_RightBook.t_l12) (x2 : Ty.den tConfig) (x3 : Ty.den tBook) (x7 : Int) : Option (Bool) :=
  cond (ltB x7 (List.length x3.2.2.2.1 : Int)) (cond (inb x7 (List.length x3.2.2.2.1)) ((novationref15_there N x3 ((List.getD x3.2.2.2.1 x7.toNat ((0 : Int), ((0 : Int), ((0 : Int), ())))).1)).bind fun r21 => cond (!r21) (some false) (cond (inb x7 (List.length x3.2.2.2.1)) (cond (leB (List.length x2.1 : Int) (((List.getD x3.2.2.2.1 x7.toNat ((0 : Int), ((0 : Int), ((0 : Int), ())))).2).1)) (some false) (k_l12 x2 x3 (W .i64 (x7 + 1)))) (none))) (none)) (s_l17 x2 x3 (0 : Int))
def novationref15_RightBook.l12 (N : Nat) : Nat → novationref15_RightBook.t_l12
  | 0, _, _, _ => none
  | n + 1, x2, x3, x7 => novationref15_RightBook.l12b N (novationref15_RightBook.l17 N N) (novationref15_RightBook.l12 N n) x2 x3 x7
def novationref15_RightBook.l6b (N : Nat) (s_l12 : novationref15_RightBook.t_l12) (k_l6 : novationref15_RightBook.t_l6) (x2 : Ty.den tConfig) (x3 : Ty.den tBook) (x5 : Int) : Option (Bool) :=
  cond (ltB x5 (List.length x3.2.2.1 : Int)) (cond (inb x5 (List.length x3.2.2.1)) (cond (eqB ((List.getD x3.2.2.1 x5.toNat ((0 : Int), ((0 : Int), ((0 : Int), ())))).1) (5 : Int)) ((novationref15_there N x3 (((List.getD x3.2.2.1 x5.toNat ((0 : Int), ((0 : Int), ((0 : Int), ())))).2).1)).bind fun r9 => cond (!r9) (some false) (cond (eqB ((List.getD x3.2.2.1 x5.toNat ((0 : Int), ((0 : Int), ((0 : Int), ())))).1) (6 : Int)) ((novationref10_Status N x3.1 (((List.getD x3.2.2.1 x5.toNat ((0 : Int), ((0 : Int), ((0 : Int), ())))).2).1)).bind fun r10 => cond (eqB r10 0) (some false) (k_l6 x2 x3 (W .i64 (x5 + 1)))) (cond (eqB ((List.getD x3.2.2.1 x5.toNat ((0 : Int), ((0 : Int), ((0 : Int), ())))).1) (7 : Int)) ((novationref10_Status N x3.1 (((List.getD x3.2.2.1 x5.toNat ((0 : Int), ((0 : Int), ((0 : Int), ())))).2).1)).bind fun r12 => cond (eqB r12 0) (some false) (k_l6 x2 x3 (W .i64 (x5 + 1)))) (k_l6 x2 x3 (W .i64 (x5 + 1)))))) (cond (eqB ((List.getD x3.2.2.1 x5.toNat ((0 : Int), ((0 : Int), ((0 : Int), ())))).1) (6 : Int)) ((novationref10_Status N x3.1 (((List.getD x3.2.2.1 x5.toNat ((0 : Int), ((0 : Int), ((0 : Int), ())))).2).1)).bind fun r15 => cond (eqB r15 0) (some false) (k_l6 x2 x3 (W .i64 (x5 + 1)))) (cond (eqB ((List.getD x3.2.2.1 x5.toNat ((0 : Int), ((0 : Int), ((0 : Int), ())))).1) (7 : Int)) ((novationref10_Status N x3.1 (((List.getD x3.2.2.1 x5.toNat ((0 : Int), ((0 : Int), ((0 : Int), ())))).2).1)).bind fun r17 => cond (eqB r17 0) (some false) (k_l6 x2 x3 (W .i64 (x5 + 1)))) (k_l6 x2 x3 (W .i64 (x5 + 1)))))) (none)) (s_l12 x2 x3 (0 : Int))
def novationref15_RightBook.l6 (N : Nat) : Nat → novationref15_RightBook.t_l6
  | 0, _, _, _ => none
  | n + 1, x2, x3, x5 => novationref15_RightBook.l6b N (novationref15_RightBook.l12 N N) (novationref15_RightBook.l6 N n) x2 x3 x5
def novationref15_RightBook.b (N : Nat) (s_l6 : novationref15_RightBook.t_l6) (a0 : Ty.den tConfig) (a1 : Ty.den tBook) : Option (Bool) :=
  (novationref4_RightPlan N a0).bind fun r1 => cond (!r1) (some false) ((novationref10_RightRoll N a1.1 a1.2.1).bind fun r2 => cond (!r2) (some false) ((novationref10_Rows N a1.2.2.1).bind fun r3 => cond (!r3) (some false) ((novationref10_Flat N a1.2.2.2.1).bind fun r4 => cond (!r4) (some false) ((novationref15_Orders N a1.2.2.2.2.2.1).bind fun r5 => cond (!r5) (some false) (cond (!eqB (List.length a1.2.2.2.2.1 : Int) (List.length a0.1 : Int)) (some false) ((novationref10_Total N a1.2.2.1).bind fun r6 => (novationref1_Sign N r6).bind fun r7 => cond (!eqB r7 0) (some false) (s_l6 a0 a1 (0 : Int))))))))
def novationref15_RightBook (N : Nat) (a0 : Ty.den tConfig) (a1 : Ty.den tBook) : Option (Bool) := novationref15_RightBook.b N (novationref15_RightBook.l6 N N) a0 a1

abbrev novationref10_Held.t_l4 := (List (Ty.den tI3)) → Int → Int → Int → Option (Int)
def novationref10_Held.l4b (N : Nat) (k_l4 : novationref10_Held.t_l4) (x0 : List (Ty.den tI3)) (x1 : Int) (x2 : Int) (x7 : Int) : Option (Int) :=
  cond (ltB x7 (List.length x0 : Int)) (cond (inb x7 (List.length x0)) (cond (eqB ((List.getD x0 x7.toNat ((0 : Int), ((0 : Int), ((0 : Int), ())))).1) x1) (cond (inb x7 (List.length x0)) (cond (eqB (((List.getD x0 x7.toNat ((0 : Int), ((0 : Int), ((0 : Int), ())))).2).1) x2) (cond (inb x7 (List.length x0)) (some ((((List.getD x0 x7.toNat ((0 : Int), ((0 : Int), ((0 : Int), ())))).2).2).1)) (none)) (k_l4 x0 x1 x2 (W .i64 (x7 + 1)))) (none)) (k_l4 x0 x1 x2 (W .i64 (x7 + 1)))) (none)) (some (0 : Int))
def novationref10_Held.l4 (N : Nat) : Nat → novationref10_Held.t_l4
  | 0, _, _, _, _ => none
  | n + 1, x0, x1, x2, x7 => novationref10_Held.l4b N (novationref10_Held.l4 N n) x0 x1 x2 x7
def novationref10_Held.b (N : Nat) (s_l4 : novationref10_Held.t_l4) (a0 : List (Ty.den tI3)) (a1 : Int) (a2 : Int) : Option (Int) :=
  (novationref10_Stock N a0).bind fun r1 => cond (!r1) (some (0 : Int)) (s_l4 a0 a1 a2 (0 : Int))
def novationref10_Held (N : Nat) (a0 : List (Ty.den tI3)) (a1 : Int) (a2 : Int) : Option (Int) := novationref10_Held.b N (novationref10_Held.l4 N N) a0 a1 a2

abbrev novationref1_wrong.t_l4 := (List (Int)) → Int → Option (Bool)
def novationref1_wrong.l4b (N : Nat) (k_l4 : novationref1_wrong.t_l4) (x1 : List (Int)) (x5 : Int) : Option (Bool) :=
  cond (ltB x5 (List.length x1 : Int)) (cond (inb x5 (List.length x1)) (cond (ltB (List.getD x1 x5.toNat (0 : Int)) (0 : Int)) (some true) (k_l4 x1 (W .i64 (x5 + 1)))) (none)) (some false)
def novationref1_wrong.l4 (N : Nat) : Nat → novationref1_wrong.t_l4
  | 0, _, _ => none
  | n + 1, x1, x5 => novationref1_wrong.l4b N (novationref1_wrong.l4 N n) x1 x5
def novationref1_wrong.b (N : Nat) (s_l4 : novationref1_wrong.t_l4) (a0 : Int) (a1 : List (Int)) : Option (Bool) :=
  cond (ltB a0 0) (some true) (cond (ltB 64 (List.length a1 : Int)) (some true) (s_l4 a1 (0 : Int)))
def novationref1_wrong (N : Nat) (a0 : Int) (a1 : List (Int)) : Option (Bool) := novationref1_wrong.b N (novationref1_wrong.l4 N N) a0 a1

abbrev novationref1_SumInts.t_l3 := (List (Int)) → Ty.den tBig → Ty.den tBig → Int → Option (Ty.den tBig)
def novationref1_SumInts.l3b (N : Nat) (k_l3 : novationref1_SumInts.t_l3) (x0 : List (Int)) (x2 : Ty.den tBig) (x3 : Ty.den tBig) (x4 : Int) : Option (Ty.den tBig) :=
  cond (ltB x4 (List.length x0 : Int)) (cond (inb x4 (List.length x0)) ((novationref1_Whole N (List.getD x0 x4.toNat (0 : Int))).bind fun r2 => (novationref1_Plus N x3 r2).bind fun r3 => k_l3 x0 x2 r3 (W .i64 (x4 + 1))) (none)) (some x3)
def novationref1_SumInts.l3 (N : Nat) : Nat → novationref1_SumInts.t_l3
  | 0, _, _, _, _ => none
  | n + 1, x0, x2, x3, x4 => novationref1_SumInts.l3b N (novationref1_SumInts.l3 N n) x0 x2 x3 x4
def novationref1_SumInts.b (N : Nat) (s_l3 : novationref1_SumInts.t_l3) (a0 : List (Int)) : Option (Ty.den tBig) :=
  s_l3 a0 (false, (([] : List (Int)), ())) (false, (([] : List (Int)), ())) (0 : Int)
def novationref1_SumInts (N : Nat) (a0 : List (Int)) : Option (Ty.den tBig) := novationref1_SumInts.b N (novationref1_SumInts.l3 N N) a0

def novationref1_Int (N : Nat) (a0 : Ty.den tBig) : Option ((Int) × (Bool)) :=
  cond (ltB 2 (List.length a0.2.1 : Int)) (some ((0 : Int), false)) ((novationref1_digit N a0.2.1 (0 : Int)).bind fun r1 => (novationref1_digit N a0.2.1 (1 : Int)).bind fun r2 => cond (ltB 32 0) (none) (let v4 : Int := bitw .or .u64 r1 (W .u64 (shl .u64 r2 32)); cond (a0.1) (cond (ltB 9223372036854775808 v4) (some ((0 : Int), false)) (some ((W .i64 (W .u64 (0 - v4))), true))) (cond (ltB 9223372036854775807 v4) (some ((0 : Int), false)) (some ((W .i64 v4), true)))))

abbrev novationref1_Times.t_j9 := Ty.den tBig → Ty.den tBig → Ty.den tBig → (List (Int)) → Int → Int → Int → Option (Ty.den tBig)
abbrev novationref1_Times.t_l7 := Ty.den tBig → Ty.den tBig → Ty.den tBig → (List (Int)) → Int → Int → Int → Option (Ty.den tBig)
abbrev novationref1_Times.t_l3 := Ty.den tBig → Ty.den tBig → Ty.den tBig → (List (Int)) → Int → Option (Ty.den tBig)
def novationref1_Times.j9b (N : Nat) (k_l3 : novationref1_Times.t_l3) (k_l7 : novationref1_Times.t_l7) (x2 : Ty.den tBig) (x3 : Ty.den tBig) (x4 : Ty.den tBig) (x5 : List (Int)) (x6 : Int) (x7 : Int) (x8 : Int) : Option (Ty.den tBig) :=
  let v7 : Int := W .i64 (x6 + x8); cond (inb v7 (List.length x5)) (cond (inb x6 (List.length x2.2.1)) ((novationref1_digit N x3.2.1 x8).bind fun r8 => let v11 : Int := W .u64 (x7 + (W .u64 ((List.getD x5 v7.toNat (0 : Int)) + (W .u64 ((List.getD x2.2.1 x6.toNat (0 : Int)) * r8))))); let v12 : Int := W .i64 (x6 + x8); cond (inb v12 (List.length x5)) (cond (ltB 32 0) (none) (k_l7 x2 x3 x4 (List.set x5 v12.toNat (bitw .and .u64 v11 4294967295)) x6 (shr .u64 v11 32) (W .i64 (x8 + 1)))) (none)) (none)) (none)
def novationref1_Times.j9 (N : Nat) (k_l3 : novationref1_Times.t_l3) (k_l7 : novationref1_Times.t_l7) (x2 : Ty.den tBig) (x3 : Ty.den tBig) (x4 : Ty.den tBig) (x5 : List (Int)) (x6 : Int) (x7 : Int) (x8 : Int) : Option (Ty.den tBig) := novationref1_Times.j9b N k_l3 k_l7 x2 x3 x4 x5 x6 x7 x8
def novationref1_Times.l7b (N : Nat) (s_j9 : novationref1_Times.t_j9) (k_l3 : novationref1_Times.t_l3) (k_l7 : novationref1_Times.t_l7) (x2 : Ty.den tBig) (x3 : Ty.den tBig) (x4 : Ty.den tBig) (x5 : List (Int)) (x6 : Int) (x7 : Int) (x8 : Int) : Option (Ty.den tBig) :=
  cond (ltB x8 (List.length x3.2.1 : Int)) (s_j9 x2 x3 x4 x5 x6 x7 x8) (cond (ltB 0 x7) (s_j9 x2 x3 x4 x5 x6 x7 x8) (k_l3 x2 x3 x4 x5 (W .i64 (x6 + 1))))
def novationref1_Times.l7 (N : Nat) (k_l3 : novationref1_Times.t_l3) : Nat → novationref1_Times.t_l7
  | 0, _, _, _, _, _, _, _ => none
  | n + 1, x2, x3, x4, x5, x6, x7, x8 => novationref1_Times.l7b N (novationref1_Times.j9 N k_l3 (novationref1_Times.l7 N k_l3 n)) k_l3 (novationref1_Times.l7 N k_l3 n) x2 x3 x4 x5 x6 x7 x8
def novationref1_Times.l3b (N : Nat) (s_l7 : novationref1_Times.t_l7) (k_l3 : novationref1_Times.t_l3) (x2 : Ty.den tBig) (x3 : Ty.den tBig) (x4 : Ty.den tBig) (x5 : List (Int)) (x6 : Int) : Option (Ty.den tBig) :=
  cond (ltB x6 (List.length x2.2.1 : Int)) (s_l7 x2 x3 x4 x5 x6 (0 : Int) (0 : Int)) ((novationref1_made N (!(teq .bool x2.1 x3.1)) x5).bind fun r18 => some r18)
def novationref1_Times.l3 (N : Nat) : Nat → novationref1_Times.t_l3
  | 0, _, _, _, _, _ => none
  | n + 1, x2, x3, x4, x5, x6 => novationref1_Times.l3b N (novationref1_Times.l7 N (novationref1_Times.l3 N n) N) (novationref1_Times.l3 N n) x2 x3 x4 x5 x6
def novationref1_Times.b (N : Nat) (s_l3 : novationref1_Times.t_l3) (a0 : Ty.den tBig) (a1 : Ty.den tBig) : Option (Ty.den tBig) :=
  let v2 : Int := W .i64 ((W .i64 ((List.length a0.2.1 : Int) + (List.length a1.2.1 : Int))) + 1); cond (okMake v2 v2) (s_l3 a0 a1 (false, (([] : List (Int)), ())) (List.replicate v2.toNat (0 : Int)) (0 : Int)) (none)
def novationref1_Times (N : Nat) (a0 : Ty.den tBig) (a1 : Ty.den tBig) : Option (Ty.den tBig) := novationref1_Times.b N (novationref1_Times.l3 N N) a0 a1

abbrev novationref1_half.t_l4 := (List (Int)) → (List (Int)) → Int → Int → Option ((List (Int)) × (Int))
def novationref1_half.l4b (N : Nat) (k_l4 : novationref1_half.t_l4) (x0 : List (Int)) (x4 : List (Int)) (x5 : Int) (x6 : Int) : Option ((List (Int)) × (Int)) :=
  cond (leB 0 x6) (cond (ltB 32 0) (none) (cond (inb x6 (List.length x0)) (let v5 : Int := bitw .or .u64 (W .u64 (shl .u64 x5 32)) (List.getD x0 x6.toNat (0 : Int)); cond (ltB 1 0) (none) (cond (inb x6 (List.length x4)) (k_l4 x0 (List.set x4 x6.toNat (shr .u64 v5 1)) (bitw .and .u64 v5 1) (W .i64 (x6 - 1))) (none))) (none))) ((novationref1_trim N x4).bind fun r10 => some (r10, x5))
def novationref1_half.l4 (N : Nat) : Nat → novationref1_half.t_l4
  | 0, _, _, _, _ => none
  | n + 1, x0, x4, x5, x6 => novationref1_half.l4b N (novationref1_half.l4 N n) x0 x4 x5 x6
def novationref1_half.b (N : Nat) (s_l4 : novationref1_half.t_l4) (a0 : List (Int)) : Option ((List (Int)) × (Int)) :=
  cond (okMake (List.length a0 : Int) (List.length a0 : Int)) (s_l4 a0 (List.replicate (List.length a0 : Int).toNat (0 : Int)) (0 : Int) (W .i64 ((List.length a0 : Int) - 1))) (none)
def novationref1_half (N : Nat) (a0 : List (Int)) : Option ((List (Int)) × (Int)) := novationref1_half.b N (novationref1_half.l4 N N) a0

def novationref1_Turned (N : Nat) (a0 : Ty.den tBig) : Option (Ty.den tBig) :=
  (novationref1_made N (!a0.1) a0.2.1).bind fun r1 => some r1

def novationref1_Less (N : Nat) (a0 : Ty.den tBig) (a1 : Ty.den tBig) : Option (Ty.den tBig) :=
  (novationref1_Turned N a1).bind fun r1 => (novationref1_Plus N a0 r1).bind fun r2 => some r2

def novationref1_Cmp (N : Nat) (a0 : Ty.den tBig) (a1 : Ty.den tBig) : Option (Int) :=
  (novationref1_Less N a0 a1).bind fun r1 => (novationref1_Sign N r1).bind fun r2 => some r2

abbrev novationref1_Over.t_l9 := Ty.den tBig → Ty.den tBig → Ty.den tBig → Ty.den tBig → (List (Int)) → Ty.den tBig → Ty.den tBig → Int → Option ((Ty.den tBig) × (Ty.den tBig))
abbrev novationref1_Over.t_l3 := Ty.den tBig → Ty.den tBig → Ty.den tBig → Ty.den tBig → (List (Int)) → (List (Int)) → Option ((Ty.den tBig) × (Ty.den tBig))
def novationref1_Over.l9b (N : Nat) (k_l9 : novationref1_Over.t_l9) (x2 : Ty.den tBig) (x3 : Ty.den tBig) (x4 : Ty.den tBig) (x5 : Ty.den tBig) (x6 : List (Int)) (x10 : Ty.den tBig) (x11 : Ty.den tBig) (x12 : Int) : Option ((Ty.den tBig) × (Ty.den tBig)) :=
  cond (leB 0 x12) ((novationref1_Plus N x10 x10).bind fun r6 => (novationref1_Plus N x11 x11).bind fun r7 => cond (inb x12 (List.length x6)) (cond (eqB (List.getD x6 x12.toNat (0 : Int)) (1 : Int)) ((novationref1_Whole N (1 : Int)).bind fun r8 => (novationref1_Plus N r7 r8).bind fun r9 => (novationref1_Cmp N r9 x3).bind fun r10 => cond (leB 0 r10) ((novationref1_Less N r9 x3).bind fun r11 => (novationref1_Whole N (1 : Int)).bind fun r12 => (novationref1_Plus N r6 r12).bind fun r13 => k_l9 x2 x3 x4 x5 x6 r13 r11 (W .i64 (x12 - 1))) (k_l9 x2 x3 x4 x5 x6 r6 r9 (W .i64 (x12 - 1)))) ((novationref1_Cmp N r7 x3).bind fun r16 => cond (leB 0 r16) ((novationref1_Less N r7 x3).bind fun r17 => (novationref1_Whole N (1 : Int)).bind fun r18 => (novationref1_Plus N r6 r18).bind fun r19 => k_l9 x2 x3 x4 x5 x6 r19 r17 (W .i64 (x12 - 1))) (k_l9 x2 x3 x4 x5 x6 r6 r7 (W .i64 (x12 - 1))))) (none)) (cond (!x2.1) (some (x10, x11)) ((novationref1_Sign N x11).bind fun r22 => cond (eqB r22 0) ((novationref1_Turned N x10).bind fun r23 => some (r23, x11)) ((novationref1_Turned N x10).bind fun r24 => (novationref1_Whole N (1 : Int)).bind fun r25 => (novationref1_Less N r24 r25).bind fun r26 => (novationref1_Less N x3 x11).bind fun r27 => some (r26, r27))))
def novationref1_Over.l9 (N : Nat) : Nat → novationref1_Over.t_l9
  | 0, _, _, _, _, _, _, _, _ => none
  | n + 1, x2, x3, x4, x5, x6, x10, x11, x12 => novationref1_Over.l9b N (novationref1_Over.l9 N n) x2 x3 x4 x5 x6 x10 x11 x12
def novationref1_Over.l3b (N : Nat) (s_l9 : novationref1_Over.t_l9) (k_l3 : novationref1_Over.t_l3) (x2 : Ty.den tBig) (x3 : Ty.den tBig) (x4 : Ty.den tBig) (x5 : Ty.den tBig) (x6 : List (Int)) (x7 : List (Int)) : Option ((Ty.den tBig) × (Ty.den tBig)) :=
  cond (ltB 0 (List.length x7 : Int)) ((novationref1_half N x7).bind fun r2 => cond (small (List.length x6 + List.length ([r2.2]))) (k_l3 x2 x3 x4 x5 (x6 ++ ([r2.2])) r2.1) (none)) (s_l9 x2 x3 x4 x5 x6 (false, (([] : List (Int)), ())) (false, (([] : List (Int)), ())) (W .i64 ((List.length x6 : Int) - 1)))
def novationref1_Over.l3 (N : Nat) : Nat → novationref1_Over.t_l3
  | 0, _, _, _, _, _, _ => none
  | n + 1, x2, x3, x4, x5, x6, x7 => novationref1_Over.l3b N (novationref1_Over.l9 N N) (novationref1_Over.l3 N n) x2 x3 x4 x5 x6 x7
def novationref1_Over.b (N : Nat) (s_l3 : novationref1_Over.t_l3) (a0 : Ty.den tBig) (a1 : Ty.den tBig) : Option ((Ty.den tBig) × (Ty.den tBig)) :=
  s_l3 a0 a1 (false, (([] : List (Int)), ())) (false, (([] : List (Int)), ())) ([]) a0.2.1
def novationref1_Over (N : Nat) (a0 : Ty.den tBig) (a1 : Ty.den tBig) : Option ((Ty.den tBig) × (Ty.den tBig)) := novationref1_Over.b N (novationref1_Over.l3 N N) a0 a1

abbrev novationref1_Order.t_j8 := (List (Int)) → (List (Int)) → Int → Int → Option (List (Int))
abbrev novationref1_Order.t_l6 := (List (Int)) → (List (Int)) → Int → Int → Option (List (Int))
abbrev novationref1_Order.t_l3 := (List (Int)) → (List (Int)) → Int → Option (List (Int))
def novationref1_Order.j8b (N : Nat) (k_l3 : novationref1_Order.t_l3) (x0 : List (Int)) (x3 : List (Int)) (x4 : Int) (x5 : Int) : Option (List (Int)) :=
  cond (okCut 0 x5 (List.length x3 : Int) (List.length x3 : Int)) (let v5 : List (Int) := List.drop (0 : Int).toNat (List.take x5.toNat x3); cond (small (List.length v5)) (cond (small (List.length v5 + List.length ([x4]))) (let v6 : List (Int) := v5 ++ ([x4]); cond (okCut x5 (List.length x3 : Int) (List.length x3 : Int) (List.length x3 : Int)) (let v7 : List (Int) := List.drop x5.toNat (List.take (List.length x3 : Int).toNat x3); cond (small (List.length v6 + List.length v7)) (k_l3 x0 (v6 ++ v7) (W .i64 (x4 + 1))) (none)) (none)) (none)) (none)) (none)
def novationref1_Order.j8 (N : Nat) (k_l3 : novationref1_Order.t_l3) (x0 : List (Int)) (x3 : List (Int)) (x4 : Int) (x5 : Int) : Option (List (Int)) := novationref1_Order.j8b N k_l3 x0 x3 x4 x5
def novationref1_Order.l6b (N : Nat) (s_j8 : novationref1_Order.t_j8) (k_l3 : novationref1_Order.t_l3) (k_l6 : novationref1_Order.t_l6) (x0 : List (Int)) (x3 : List (Int)) (x4 : Int) (x5 : Int) : Option (List (Int)) :=
  cond (ltB x5 (List.length x3 : Int)) (cond (inb x5 (List.length x3)) (cond (inb (List.getD x3 x5.toNat (0 : Int)) (List.length x0)) (cond (inb x4 (List.length x0)) (cond (leB (List.getD x0 x4.toNat (0 : Int)) (List.getD x0 (List.getD x3 x5.toNat (0 : Int)).toNat (0 : Int))) (k_l6 x0 x3 x4 (W .i64 (x5 + 1))) (s_j8 x0 x3 x4 x5)) (none)) (none)) (none)) (s_j8 x0 x3 x4 x5)
def novationref1_Order.l6 (N : Nat) (k_l3 : novationref1_Order.t_l3) : Nat → novationref1_Order.t_l6
  | 0, _, _, _, _ => none
  | n + 1, x0, x3, x4, x5 => novationref1_Order.l6b N (novationref1_Order.j8 N k_l3) k_l3 (novationref1_Order.l6 N k_l3 n) x0 x3 x4 x5
def novationref1_Order.l3b (N : Nat) (s_l6 : novationref1_Order.t_l6) (k_l3 : novationref1_Order.t_l3) (x0 : List (Int)) (x3 : List (Int)) (x4 : Int) : Option (List (Int)) :=
  cond (ltB x4 (List.length x0 : Int)) (s_l6 x0 x3 x4 (0 : Int)) (some x3)
def novationref1_Order.l3 (N : Nat) : Nat → novationref1_Order.t_l3
  | 0, _, _, _ => none
  | n + 1, x0, x3, x4 => novationref1_Order.l3b N (novationref1_Order.l6 N (novationref1_Order.l3 N n) N) (novationref1_Order.l3 N n) x0 x3 x4
def novationref1_Order.b (N : Nat) (s_l3 : novationref1_Order.t_l3) (a0 : List (Int)) : Option (List (Int)) :=
  s_l3 a0 ([]) (0 : Int)
def novationref1_Order (N : Nat) (a0 : List (Int)) : Option (List (Int)) := novationref1_Order.b N (novationref1_Order.l3 N N) a0

abbrev novationref1_Split.t_l22 := (List (Int)) → Int → (List (Int)) → Int → Option ((List (Int)) × (Int))
abbrev novationref1_Split.t_l14 := Int → (List (Int)) → Ty.den tBig → (List (Int)) → (List (Int)) → Int → Int → Option ((List (Int)) × (Int))
abbrev novationref1_Split.t_j6 := Int → (List (Int)) → Ty.den tBig → Option ((List (Int)) × (Int))
def novationref1_Split.l22b (N : Nat) (k_l22 : novationref1_Split.t_l22) (x9 : List (Int)) (x11 : Int) (x15 : List (Int)) (x16 : Int) : Option ((List (Int)) × (Int)) :=
  cond (ltB x16 (List.length x15 : Int)) (cond (ltB 0 x11) (cond (inb x16 (List.length x15)) (cond (inb (List.getD x15 x16.toNat (0 : Int)) (List.length x9)) (cond (inb (List.getD x15 x16.toNat (0 : Int)) (List.length x9)) (k_l22 (List.set x9 (List.getD x15 x16.toNat (0 : Int)).toNat (W .i64 ((List.getD x9 (List.getD x15 x16.toNat (0 : Int)).toNat (0 : Int)) + 1))) (W .i64 (x11 - 1)) x15 (W .i64 (x16 + 1))) (none)) (none)) (none)) (some (x9, (0 : Int)))) (some (x9, (0 : Int)))
def novationref1_Split.l22 (N : Nat) : Nat → novationref1_Split.t_l22
  | 0, _, _, _, _ => none
  | n + 1, x9, x11, x15, x16 => novationref1_Split.l22b N (novationref1_Split.l22 N n) x9 x11 x15 x16
def novationref1_Split.l14b (N : Nat) (s_l22 : novationref1_Split.t_l22) (k_l14 : novationref1_Split.t_l14) (x0 : Int) (x1 : List (Int)) (x6 : Ty.den tBig) (x9 : List (Int)) (x10 : List (Int)) (x11 : Int) (x12 : Int) : Option ((List (Int)) × (Int)) :=
  cond (ltB x12 (List.length x1 : Int)) ((novationref1_Whole N x0).bind fun r10 => cond (inb x12 (List.length x1)) ((novationref1_Whole N (List.getD x1 x12.toNat (0 : Int))).bind fun r11 => (novationref1_Times N r10 r11).bind fun r12 => (novationref1_Over N r12 x6).bind fun r13 => (novationref1_Int N r13.1).bind fun r14 => cond (inb x12 (List.length x9)) (let v15 : List (Int) := List.set x9 x12.toNat r14.1; (novationref1_Int N r13.2).bind fun r16 => cond (inb x12 (List.length x10)) (cond (inb x12 (List.length v15)) (k_l14 x0 x1 x6 v15 (List.set x10 x12.toNat r16.1) (W .i64 (x11 - (List.getD v15 x12.toNat (0 : Int)))) (W .i64 (x12 + 1))) (none)) (none)) (none)) (none)) ((novationref1_Order N x10).bind fun r20 => s_l22 x9 x11 r20 (0 : Int))
def novationref1_Split.l14 (N : Nat) : Nat → novationref1_Split.t_l14
  | 0, _, _, _, _, _, _, _ => none
  | n + 1, x0, x1, x6, x9, x10, x11, x12 => novationref1_Split.l14b N (novationref1_Split.l22 N N) (novationref1_Split.l14 N n) x0 x1 x6 x9 x10 x11 x12
def novationref1_Split.j6b (N : Nat) (s_l14 : novationref1_Split.t_l14) (x0 : Int) (x1 : List (Int)) (x6 : Ty.den tBig) : Option ((List (Int)) × (Int)) :=
  (novationref1_Int N x6).bind fun r5 => cond (!r5.2) (some ([], (2 : Int))) (cond (okMake (List.length x1 : Int) (List.length x1 : Int)) (let v6 : List (Int) := List.replicate (List.length x1 : Int).toNat (0 : Int); cond (okMake (List.length x1 : Int) (List.length x1 : Int)) ((novationref1_Sign N x6).bind fun r8 => cond (eqB r8 0) (some (v6, (0 : Int))) (s_l14 x0 x1 x6 v6 (List.replicate (List.length x1 : Int).toNat (0 : Int)) x0 (0 : Int))) (none)) (none))
def novationref1_Split.j6 (N : Nat) (x0 : Int) (x1 : List (Int)) (x6 : Ty.den tBig) : Option ((List (Int)) × (Int)) := novationref1_Split.j6b N (novationref1_Split.l14 N N) x0 x1 x6
def novationref1_Split.b (N : Nat) (s_j6 : novationref1_Split.t_j6) (a0 : Int) (a1 : List (Int)) : Option ((List (Int)) × (Int)) :=
  (novationref1_wrong N a0 a1).bind fun r1 => cond (r1) (some ([], (1 : Int))) ((novationref1_SumInts N a1).bind fun r2 => (novationref1_Sign N r2).bind fun r3 => cond (eqB r3 0) (cond (!eqB a0 0) (some ([], (1 : Int))) (s_j6 a0 a1 r2)) (s_j6 a0 a1 r2))
def novationref1_Split (N : Nat) (a0 : Int) (a1 : List (Int)) : Option ((List (Int)) × (Int)) := novationref1_Split.b N (novationref1_Split.j6 N) a0 a1

abbrev novationref1_Capped.t_l19 := (List (Int)) → (List (Int)) → (List (Int)) → Int → Int → (List (Int)) → Int → Option ((List (Int)) × (Int) × (Int))
abbrev novationref1_Capped.t_l12 := (List (Int)) → (List (Int)) → (List (Int)) → Int → Int → (List (Int)) → Bool → Int → Option ((List (Int)) × (Int) × (Int))
abbrev novationref1_Capped.t_l8 := (List (Int)) → (List (Int)) → (List (Int)) → Int → Int → Option ((List (Int)) × (Int) × (Int))
def novationref1_Capped.l19b (N : Nat) (k_l8 : novationref1_Capped.t_l8) (k_l19 : novationref1_Capped.t_l19) (x1 : List (Int)) (x2 : List (Int)) (x11 : List (Int)) (x12 : Int) (x13 : Int) (x17 : List (Int)) (x19 : Int) : Option ((List (Int)) × (Int) × (Int)) :=
  cond (ltB x19 (List.length x1 : Int)) (cond (inb x19 (List.length x17)) (cond (inb x19 (List.length x2)) (cond (inb x19 (List.length x11)) (let v16 : Int := mn (List.getD x17 x19.toNat (0 : Int)) (W .i64 ((List.getD x2 x19.toNat (0 : Int)) - (List.getD x11 x19.toNat (0 : Int)))); cond (inb x19 (List.length x11)) (cond (inb x19 (List.length x11)) (k_l19 x1 x2 (List.set x11 x19.toNat (W .i64 ((List.getD x11 x19.toNat (0 : Int)) + v16))) (W .i64 (x12 - v16)) x13 x17 (W .i64 (x19 + 1))) (none)) (none)) (none)) (none)) (none)) (k_l8 x1 x2 x11 x12 (W .i64 (x13 + 1)))
def novationref1_Capped.l19 (N : Nat) (k_l8 : novationref1_Capped.t_l8) : Nat → novationref1_Capped.t_l19
  | 0, _, _, _, _, _, _, _ => none
  | n + 1, x1, x2, x11, x12, x13, x17, x19 => novationref1_Capped.l19b N k_l8 (novationref1_Capped.l19 N k_l8 n) x1 x2 x11 x12 x13 x17 x19
def novationref1_Capped.l12b (N : Nat) (s_l19 : novationref1_Capped.t_l19) (k_l8 : novationref1_Capped.t_l8) (k_l12 : novationref1_Capped.t_l12) (x1 : List (Int)) (x2 : List (Int)) (x11 : List (Int)) (x12 : Int) (x13 : Int) (x14 : List (Int)) (x15 : Bool) (x16 : Int) : Option ((List (Int)) × (Int) × (Int)) :=
  cond (ltB x16 (List.length x1 : Int)) (cond (inb x16 (List.length x1)) (cond (ltB 0 (List.getD x1 x16.toNat (0 : Int))) (cond (inb x16 (List.length x11)) (cond (inb x16 (List.length x2)) (cond (ltB (List.getD x11 x16.toNat (0 : Int)) (List.getD x2 x16.toNat (0 : Int))) (cond (inb x16 (List.length x1)) (cond (inb x16 (List.length x14)) (k_l12 x1 x2 x11 x12 x13 (List.set x14 x16.toNat (List.getD x1 x16.toNat (0 : Int))) true (W .i64 (x16 + 1))) (none)) (none)) (k_l12 x1 x2 x11 x12 x13 x14 x15 (W .i64 (x16 + 1)))) (none)) (none)) (k_l12 x1 x2 x11 x12 x13 x14 x15 (W .i64 (x16 + 1)))) (none)) (cond (eqB x12 0) (some (x11, x12, (0 : Int))) (cond (!x15) (some (x11, x12, (0 : Int))) ((novationref1_Split N x12 x14).bind fun r13 => s_l19 x1 x2 x11 x12 x13 r13.1 (0 : Int))))
def novationref1_Capped.l12 (N : Nat) (k_l8 : novationref1_Capped.t_l8) : Nat → novationref1_Capped.t_l12
  | 0, _, _, _, _, _, _, _, _ => none
  | n + 1, x1, x2, x11, x12, x13, x14, x15, x16 => novationref1_Capped.l12b N (novationref1_Capped.l19 N k_l8 N) k_l8 (novationref1_Capped.l12 N k_l8 n) x1 x2 x11 x12 x13 x14 x15 x16
def novationref1_Capped.l8b (N : Nat) (s_l12 : novationref1_Capped.t_l12) (k_l8 : novationref1_Capped.t_l8) (x1 : List (Int)) (x2 : List (Int)) (x11 : List (Int)) (x12 : Int) (x13 : Int) : Option ((List (Int)) × (Int) × (Int)) :=
  cond (leB x13 (List.length x1 : Int)) (cond (okMake (List.length x1 : Int) (List.length x1 : Int)) (s_l12 x1 x2 x11 x12 x13 (List.replicate (List.length x1 : Int).toNat (0 : Int)) false (0 : Int)) (none)) (some (x11, x12, (0 : Int)))
def novationref1_Capped.l8 (N : Nat) : Nat → novationref1_Capped.t_l8
  | 0, _, _, _, _, _ => none
  | n + 1, x1, x2, x11, x12, x13 => novationref1_Capped.l8b N (novationref1_Capped.l12 N (novationref1_Capped.l8 N n) N) (novationref1_Capped.l8 N n) x1 x2 x11 x12 x13
def novationref1_Capped.b (N : Nat) (s_l8 : novationref1_Capped.t_l8) (a0 : Int) (a1 : List (Int)) (a2 : List (Int)) : Option ((List (Int)) × (Int) × (Int)) :=
  (novationref1_wrong N a0 a1).bind fun r1 => cond (r1) (some ([], (0 : Int), (1 : Int))) (cond (!eqB (List.length a2 : Int) (List.length a1 : Int)) (some ([], (0 : Int), (1 : Int))) ((novationref1_wrong N (0 : Int) a2).bind fun r2 => cond (r2) (some ([], (0 : Int), (1 : Int))) ((novationref1_SumInts N a1).bind fun r3 => (novationref1_Int N r3).bind fun r4 => cond (!r4.2) (some ([], (0 : Int), (2 : Int))) (cond (okMake (List.length a1 : Int) (List.length a1 : Int)) (s_l8 a1 a2 (List.replicate (List.length a1 : Int).toNat (0 : Int)) a0 (0 : Int)) (none)))))
def novationref1_Capped (N : Nat) (a0 : Int) (a1 : List (Int)) (a2 : List (Int)) : Option ((List (Int)) × (Int) × (Int)) := novationref1_Capped.b N (novationref1_Capped.l8 N N) a0 a1 a2

abbrev novationref26_Cuts.t_l21 := Int → Int → (List (Int)) → (List (Int)) → (List (Ty.den tI3)) → Int → Option ((List (Ty.den tI3)) × (Int))
abbrev novationref26_Cuts.t_l11 := Int → Ty.den tBook → Int → (List (Int)) → (List (Int)) → Int → Option ((List (Ty.den tI3)) × (Int))
def novationref26_Cuts.l21b (N : Nat) (k_l21 : novationref26_Cuts.t_l21) (x2 : Int) (x8 : Int) (x9 : List (Int)) (x13 : List (Int)) (x16 : List (Ty.den tI3)) (x17 : Int) : Option ((List (Ty.den tI3)) × (Int)) :=
  cond (ltB x17 (List.length x13 : Int)) (cond (inb x17 (List.length x13)) (cond (ltB x8 0) (let v17 : Int := W .i64 (0 - (List.getD x13 x17.toNat (0 : Int))); cond (!eqB v17 0) (cond (inb x17 (List.length x9)) (cond (small (List.length x16 + List.length ([(List.getD x9 x17.toNat (0 : Int), (x2, (v17, ())))]))) (k_l21 x2 x8 x9 x13 (x16 ++ ([(List.getD x9 x17.toNat (0 : Int), (x2, (v17, ())))])) (W .i64 (x17 + 1))) (none)) (none)) (k_l21 x2 x8 x9 x13 x16 (W .i64 (x17 + 1)))) (cond (!eqB (List.getD x13 x17.toNat (0 : Int)) (0 : Int)) (cond (inb x17 (List.length x9)) (cond (small (List.length x16 + List.length ([(List.getD x9 x17.toNat (0 : Int), (x2, (List.getD x13 x17.toNat (0 : Int), ())))]))) (k_l21 x2 x8 x9 x13 (x16 ++ ([(List.getD x9 x17.toNat (0 : Int), (x2, (List.getD x13 x17.toNat (0 : Int), ())))])) (W .i64 (x17 + 1))) (none)) (none)) (k_l21 x2 x8 x9 x13 x16 (W .i64 (x17 + 1))))) (none)) (some (x16, (0 : Int)))
def novationref26_Cuts.l21 (N : Nat) : Nat → novationref26_Cuts.t_l21
  | 0, _, _, _, _, _, _ => none
  | n + 1, x2, x8, x9, x13, x16, x17 => novationref26_Cuts.l21b N (novationref26_Cuts.l21 N n) x2 x8 x9 x13 x16 x17
def novationref26_Cuts.l11b (N : Nat) (s_l21 : novationref26_Cuts.t_l21) (k_l11 : novationref26_Cuts.t_l11) (x2 : Int) (x4 : Ty.den tBook) (x8 : Int) (x9 : List (Int)) (x10 : List (Int)) (x11 : Int) : Option ((List (Ty.den tI3)) × (Int)) :=
  cond (ltB x11 (List.length x4.2.2.2.1 : Int)) (cond (inb x11 (List.length x4.2.2.2.1)) (cond (!eqB ((List.getD x4.2.2.2.1 x11.toNat ((0 : Int), ((0 : Int), ((0 : Int), ())))).1) (0 : Int)) (cond (eqB (((List.getD x4.2.2.2.1 x11.toNat ((0 : Int), ((0 : Int), ((0 : Int), ())))).2).1) x2) (cond (!(teq .bool (ltB 0 ((((List.getD x4.2.2.2.1 x11.toNat ((0 : Int), ((0 : Int), ((0 : Int), ())))).2).2).1)) (ltB 0 x8))) (cond (small (List.length x9 + List.length ([(List.getD x4.2.2.2.1 x11.toNat ((0 : Int), ((0 : Int), ((0 : Int), ())))).1]))) (let v6 : Int := mx ((((List.getD x4.2.2.2.1 x11.toNat ((0 : Int), ((0 : Int), ((0 : Int), ())))).2).2).1) (W .i64 (0 - ((((List.getD x4.2.2.2.1 x11.toNat ((0 : Int), ((0 : Int), ((0 : Int), ())))).2).2).1))); cond (small (List.length x10 + List.length ([v6]))) (k_l11 x2 x4 x8 (x9 ++ ([(List.getD x4.2.2.2.1 x11.toNat ((0 : Int), ((0 : Int), ((0 : Int), ())))).1])) (x10 ++ ([v6])) (W .i64 (x11 + 1))) (none)) (none)) (k_l11 x2 x4 x8 x9 x10 (W .i64 (x11 + 1)))) (k_l11 x2 x4 x8 x9 x10 (W .i64 (x11 + 1)))) (k_l11 x2 x4 x8 x9 x10 (W .i64 (x11 + 1)))) (none)) ((novationref1_Capped N (mx x8 (W .i64 (0 - x8))) x10 x10).bind fun r14 => cond (!eqB r14.2.2 0) (some ([], r14.2.2)) (s_l21 x2 x8 x9 r14.1 ([((0 : Int), (x2, ((W .i64 (0 - x8)), ())))]) (0 : Int)))
def novationref26_Cuts.l11 (N : Nat) : Nat → novationref26_Cuts.t_l11
  | 0, _, _, _, _, _, _ => none
  | n + 1, x2, x4, x8, x9, x10, x11 => novationref26_Cuts.l11b N (novationref26_Cuts.l21 N N) (novationref26_Cuts.l11 N n) x2 x4 x8 x9 x10 x11
def novationref26_Cuts.b (N : Nat) (s_l11 : novationref26_Cuts.t_l11) (a0 : Ty.den tConfig) (a1 : Ty.den tBook) (a2 : Int) : Option ((List (Ty.den tI3)) × (Int)) :=
  (novationref15_RightBook N a0 a1).bind fun r1 => cond (!r1) (some ([], (1 : Int))) (cond (ltB a2 0) (some ([], (3 : Int))) (cond (leB (List.length a0.1 : Int) a2) (some ([], (3 : Int))) ((novationref10_Held N a1.2.2.2.1 (0 : Int) a2).bind fun r2 => cond (eqB r2 0) (some ([], (0 : Int))) (s_l11 a2 a1 r2 ([]) ([]) (0 : Int)))))
def novationref26_Cuts (N : Nat) (a0 : Ty.den tConfig) (a1 : Ty.den tBook) (a2 : Int) : Option ((List (Ty.den tI3)) × (Int)) := novationref26_Cuts.b N (novationref26_Cuts.l11 N N) a0 a1 a2

def novationref1_Quantity (N : Nat) (a0 : Ty.den tBig) : Option ((Int) × (Bool)) :=
  (novationref1_Int N a0).bind fun r1 => cond (!r1.2) (some ((0 : Int), false)) (cond (eqB r1.1 (-9223372036854775808)) (some ((0 : Int), false)) (some (r1.1, true)))

abbrev novationref10_Shifted.t_l15 := (List (Ty.den tI3)) → (List (Ty.den tI3)) → (List (Ty.den tI3)) → Int → Int → Int → Int → Bool → Ty.den tBig → Int → Option ((List (Ty.den tI3)) × (Bool))
abbrev novationref10_Shifted.t_j13 := (List (Ty.den tI3)) → (List (Ty.den tI3)) → (List (Ty.den tI3)) → Int → Int → Int → Int → Bool → Option ((List (Ty.den tI3)) × (Bool))
abbrev novationref10_Shifted.t_l7 := (List (Ty.den tI3)) → (List (Ty.den tI3)) → (List (Ty.den tI3)) → Int → Int → Int → Option ((List (Ty.den tI3)) × (Bool))
abbrev novationref10_Shifted.t_l4 := (List (Ty.den tI3)) → (List (Ty.den tI3)) → (List (Ty.den tI3)) → Int → Int → Option ((List (Ty.den tI3)) × (Bool))
def novationref10_Shifted.l15b (N : Nat) (k_l4 : novationref10_Shifted.t_l4) (k_l7 : novationref10_Shifted.t_l7) (k_l15 : novationref10_Shifted.t_l15) (x0 : List (Ty.den tI3)) (x1 : List (Ty.den tI3)) (x6 : List (Ty.den tI3)) (x7 : Int) (x8 : Int) (x9 : Int) (x10 : Int) (x11 : Bool) (x12 : Ty.den tBig) (x13 : Int) : Option ((List (Ty.den tI3)) × (Bool)) :=
  cond (ltB x13 (List.length x1 : Int)) (cond (inb x13 (List.length x1)) (cond (eqB ((List.getD x1 x13.toNat ((0 : Int), ((0 : Int), ((0 : Int), ())))).1) x8) (cond (inb x13 (List.length x1)) (cond (eqB (((List.getD x1 x13.toNat ((0 : Int), ((0 : Int), ((0 : Int), ())))).2).1) x9) (cond (inb x13 (List.length x1)) ((novationref1_Whole N ((((List.getD x1 x13.toNat ((0 : Int), ((0 : Int), ((0 : Int), ())))).2).2).1)).bind fun r6 => (novationref1_Plus N x12 r6).bind fun r7 => k_l15 x0 x1 x6 x7 x8 x9 x10 true r7 (W .i64 (x13 + 1))) (none)) (k_l15 x0 x1 x6 x7 x8 x9 x10 x11 x12 (W .i64 (x13 + 1)))) (none)) (k_l15 x0 x1 x6 x7 x8 x9 x10 x11 x12 (W .i64 (x13 + 1)))) (none)) (cond (x11) ((novationref1_Whole N x10).bind fun r11 => (novationref1_Plus N x12 r11).bind fun r12 => (novationref1_Quantity N r12).bind fun r13 => cond (!r13.2) (some ([], false)) (cond (!eqB r13.1 0) (cond (small (List.length x6 + List.length ([(x8, (x9, (r13.1, ())))]))) (k_l7 x0 x1 (x6 ++ ([(x8, (x9, (r13.1, ())))])) x7 x8 (W .i64 (x9 + 1))) (none)) (k_l7 x0 x1 x6 x7 x8 (W .i64 (x9 + 1))))) (cond (!eqB x10 0) (cond (small (List.length x6 + List.length ([(x8, (x9, (x10, ())))]))) (k_l7 x0 x1 (x6 ++ ([(x8, (x9, (x10, ())))])) x7 x8 (W .i64 (x9 + 1))) (none)) (k_l7 x0 x1 x6 x7 x8 (W .i64 (x9 + 1)))))
def novationref10_Shifted.l15 (N : Nat) (k_l4 : novationref10_Shifted.t_l4) (k_l7 : novationref10_Shifted.t_l7) : Nat → novationref10_Shifted.t_l15
  | 0, _, _, _, _, _, _, _, _, _, _ => none
  | n + 1, x0, x1, x6, x7, x8, x9, x10, x11, x12, x13 => novationref10_Shifted.l15b N k_l4 k_l7 (novationref10_Shifted.l15 N k_l4 k_l7 n) x0 x1 x6 x7 x8 x9 x10 x11 x12 x13
def novationref10_Shifted.j13b (N : Nat) (s_l15 : novationref10_Shifted.t_l15) (k_l4 : novationref10_Shifted.t_l4) (k_l7 : novationref10_Shifted.t_l7) (x0 : List (Ty.den tI3)) (x1 : List (Ty.den tI3)) (x6 : List (Ty.den tI3)) (x7 : Int) (x8 : Int) (x9 : Int) (x10 : Int) (x11 : Bool) : Option ((List (Ty.den tI3)) × (Bool)) :=
  s_l15 x0 x1 x6 x7 x8 x9 x10 x11 (false, (([] : List (Int)), ())) (0 : Int)
def novationref10_Shifted.j13 (N : Nat) (k_l4 : novationref10_Shifted.t_l4) (k_l7 : novationref10_Shifted.t_l7) (x0 : List (Ty.den tI3)) (x1 : List (Ty.den tI3)) (x6 : List (Ty.den tI3)) (x7 : Int) (x8 : Int) (x9 : Int) (x10 : Int) (x11 : Bool) : Option ((List (Ty.den tI3)) × (Bool)) := novationref10_Shifted.j13b N (novationref10_Shifted.l15 N k_l4 k_l7 N) k_l4 k_l7 x0 x1 x6 x7 x8 x9 x10 x11
def novationref10_Shifted.l7b (N : Nat) (s_j13 : novationref10_Shifted.t_j13) (k_l4 : novationref10_Shifted.t_l4) (k_l7 : novationref10_Shifted.t_l7) (x0 : List (Ty.den tI3)) (x1 : List (Ty.den tI3)) (x6 : List (Ty.den tI3)) (x7 : Int) (x8 : Int) (x9 : Int) : Option ((List (Ty.den tI3)) × (Bool)) :=
  cond (ltB x9 6) (cond (ltB x7 (List.length x0 : Int)) (cond (inb x7 (List.length x0)) (cond (eqB ((List.getD x0 x7.toNat ((0 : Int), ((0 : Int), ((0 : Int), ())))).1) x8) (cond (inb x7 (List.length x0)) (cond (eqB (((List.getD x0 x7.toNat ((0 : Int), ((0 : Int), ((0 : Int), ())))).2).1) x9) (cond (inb x7 (List.length x0)) (s_j13 x0 x1 x6 (W .i64 (x7 + 1)) x8 x9 ((((List.getD x0 x7.toNat ((0 : Int), ((0 : Int), ((0 : Int), ())))).2).2).1) false) (none)) (s_j13 x0 x1 x6 x7 x8 x9 (0 : Int) false)) (none)) (s_j13 x0 x1 x6 x7 x8 x9 (0 : Int) false)) (none)) (s_j13 x0 x1 x6 x7 x8 x9 (0 : Int) false)) (k_l4 x0 x1 x6 x7 (W .i64 (x8 + 1)))
def novationref10_Shifted.l7 (N : Nat) (k_l4 : novationref10_Shifted.t_l4) : Nat → novationref10_Shifted.t_l7
  | 0, _, _, _, _, _, _ => none
  | n + 1, x0, x1, x6, x7, x8, x9 => novationref10_Shifted.l7b N (novationref10_Shifted.j13 N k_l4 (novationref10_Shifted.l7 N k_l4 n)) k_l4 (novationref10_Shifted.l7 N k_l4 n) x0 x1 x6 x7 x8 x9
def novationref10_Shifted.l4b (N : Nat) (s_l7 : novationref10_Shifted.t_l7) (k_l4 : novationref10_Shifted.t_l4) (x0 : List (Ty.den tI3)) (x1 : List (Ty.den tI3)) (x6 : List (Ty.den tI3)) (x7 : Int) (x8 : Int) : Option ((List (Ty.den tI3)) × (Bool)) :=
  cond (leB x8 24) (s_l7 x0 x1 x6 x7 x8 (0 : Int)) (some (x6, true))
def novationref10_Shifted.l4 (N : Nat) : Nat → novationref10_Shifted.t_l4
  | 0, _, _, _, _, _ => none
  | n + 1, x0, x1, x6, x7, x8 => novationref10_Shifted.l4b N (novationref10_Shifted.l7 N (novationref10_Shifted.l4 N n) N) (novationref10_Shifted.l4 N n) x0 x1 x6 x7 x8
def novationref10_Shifted.b (N : Nat) (s_l4 : novationref10_Shifted.t_l4) (a0 : List (Ty.den tI3)) (a1 : List (Ty.den tI3)) : Option ((List (Ty.den tI3)) × (Bool)) :=
  s_l4 a0 a1 ([]) (0 : Int) (0 : Int)
def novationref10_Shifted (N : Nat) (a0 : List (Ty.den tI3)) (a1 : List (Ty.den tI3)) : Option ((List (Ty.den tI3)) × (Bool)) := novationref10_Shifted.b N (novationref10_Shifted.l4 N N) a0 a1

abbrev novationref10_behind.t_l3 := Int → Int → Int → (List (Ty.den tPart)) → Ty.den tBig → Bool → Int → Option ((Int) × (Bool))
def novationref10_behind.l3b (N : Nat) (k_l3 : novationref10_behind.t_l3) (x0 : Int) (x1 : Int) (x2 : Int) (x3 : List (Ty.den tPart)) (x10 : Ty.den tBig) (x11 : Bool) (x12 : Int) : Option ((Int) × (Bool)) :=
  cond (ltB x12 (List.length x3 : Int)) (cond (inb x12 (List.length x3)) (cond (eqB ((List.getD x3 x12.toNat ((0 : Int), ((0 : Int), ((false, (([] : List (Int)), ())), ())))).1) x1) (cond (inb x12 (List.length x3)) (cond (eqB (((List.getD x3 x12.toNat ((0 : Int), ((0 : Int), ((false, (([] : List (Int)), ())), ())))).2).1) x2) (cond (inb x12 (List.length x3)) ((novationref1_Plus N x10 ((((List.getD x3 x12.toNat ((0 : Int), ((0 : Int), ((false, (([] : List (Int)), ())), ())))).2).2).1)).bind fun r2 => k_l3 x0 x1 x2 x3 r2 true (W .i64 (x12 + 1))) (none)) (k_l3 x0 x1 x2 x3 x10 x11 (W .i64 (x12 + 1)))) (none)) (k_l3 x0 x1 x2 x3 x10 x11 (W .i64 (x12 + 1)))) (none)) (cond (!x11) (some (x0, true)) ((novationref1_Whole N x0).bind fun r6 => (novationref1_Plus N x10 r6).bind fun r7 => (novationref1_Int N r7).bind fun r8 => some (r8.1, r8.2)))
def novationref10_behind.l3 (N : Nat) : Nat → novationref10_behind.t_l3
  | 0, _, _, _, _, _, _, _ => none
  | n + 1, x0, x1, x2, x3, x10, x11, x12 => novationref10_behind.l3b N (novationref10_behind.l3 N n) x0 x1 x2 x3 x10 x11 x12
def novationref10_behind.b (N : Nat) (s_l3 : novationref10_behind.t_l3) (a0 : Int) (a1 : Int) (a2 : Int) (a3 : List (Ty.den tPart)) : Option ((Int) × (Bool)) :=
  s_l3 a0 a1 a2 a3 (false, (([] : List (Int)), ())) false (0 : Int)
def novationref10_behind (N : Nat) (a0 : Int) (a1 : Int) (a2 : Int) (a3 : List (Ty.den tPart)) : Option ((Int) × (Bool)) := novationref10_behind.b N (novationref10_behind.l3 N N) a0 a1 a2 a3

abbrev novationref10_Laid.t_j13 := (List (Ty.den tI3)) → (List (Ty.den tPart)) → (List (Ty.den tI3)) → Int → Int → Int → Int → Option ((List (Ty.den tI3)) × (Bool))
abbrev novationref10_Laid.t_l7 := (List (Ty.den tI3)) → (List (Ty.den tPart)) → (List (Ty.den tI3)) → Int → Int → Int → Option ((List (Ty.den tI3)) × (Bool))
abbrev novationref10_Laid.t_l4 := (List (Ty.den tI3)) → (List (Ty.den tPart)) → (List (Ty.den tI3)) → Int → Int → Option ((List (Ty.den tI3)) × (Bool))
def novationref10_Laid.j13b (N : Nat) (k_l4 : novationref10_Laid.t_l4) (k_l7 : novationref10_Laid.t_l7) (x0 : List (Ty.den tI3)) (x1 : List (Ty.den tPart)) (x6 : List (Ty.den tI3)) (x7 : Int) (x8 : Int) (x9 : Int) (x10 : Int) : Option ((List (Ty.den tI3)) × (Bool)) :=
  (novationref10_behind N x10 x8 x9 x1).bind fun r5 => cond (!r5.2) (some ([], false)) (cond (!eqB r5.1 0) (cond (small (List.length x6 + List.length ([(x8, (x9, (r5.1, ())))]))) (k_l7 x0 x1 (x6 ++ ([(x8, (x9, (r5.1, ())))])) x7 x8 (W .i64 (x9 + 1))) (none)) (k_l7 x0 x1 x6 x7 x8 (W .i64 (x9 + 1))))
def novationref10_Laid.j13 (N : Nat) (k_l4 : novationref10_Laid.t_l4) (k_l7 : novationref10_Laid.t_l7) (x0 : List (Ty.den tI3)) (x1 : List (Ty.den tPart)) (x6 : List (Ty.den tI3)) (x7 : Int) (x8 : Int) (x9 : Int) (x10 : Int) : Option ((List (Ty.den tI3)) × (Bool)) := novationref10_Laid.j13b N k_l4 k_l7 x0 x1 x6 x7 x8 x9 x10
def novationref10_Laid.l7b (N : Nat) (s_j13 : novationref10_Laid.t_j13) (k_l4 : novationref10_Laid.t_l4) (k_l7 : novationref10_Laid.t_l7) (x0 : List (Ty.den tI3)) (x1 : List (Ty.den tPart)) (x6 : List (Ty.den tI3)) (x7 : Int) (x8 : Int) (x9 : Int) : Option ((List (Ty.den tI3)) × (Bool)) :=
  cond (leB x9 24) (cond (ltB x7 (List.length x0 : Int)) (cond (inb x7 (List.length x0)) (cond (eqB ((List.getD x0 x7.toNat ((0 : Int), ((0 : Int), ((0 : Int), ())))).1) x8) (cond (inb x7 (List.length x0)) (cond (eqB (((List.getD x0 x7.toNat ((0 : Int), ((0 : Int), ((0 : Int), ())))).2).1) x9) (cond (inb x7 (List.length x0)) (s_j13 x0 x1 x6 (W .i64 (x7 + 1)) x8 x9 ((((List.getD x0 x7.toNat ((0 : Int), ((0 : Int), ((0 : Int), ())))).2).2).1)) (none)) (s_j13 x0 x1 x6 x7 x8 x9 (0 : Int))) (none)) (s_j13 x0 x1 x6 x7 x8 x9 (0 : Int))) (none)) (s_j13 x0 x1 x6 x7 x8 x9 (0 : Int))) (k_l4 x0 x1 x6 x7 (W .i64 (x8 + 1)))
def novationref10_Laid.l7 (N : Nat) (k_l4 : novationref10_Laid.t_l4) : Nat → novationref10_Laid.t_l7
  | 0, _, _, _, _, _, _ => none
  | n + 1, x0, x1, x6, x7, x8, x9 => novationref10_Laid.l7b N (novationref10_Laid.j13 N k_l4 (novationref10_Laid.l7 N k_l4 n)) k_l4 (novationref10_Laid.l7 N k_l4 n) x0 x1 x6 x7 x8 x9
def novationref10_Laid.l4b (N : Nat) (s_l7 : novationref10_Laid.t_l7) (k_l4 : novationref10_Laid.t_l4) (x0 : List (Ty.den tI3)) (x1 : List (Ty.den tPart)) (x6 : List (Ty.den tI3)) (x7 : Int) (x8 : Int) : Option ((List (Ty.den tI3)) × (Bool)) :=
  cond (leB x8 7) (s_l7 x0 x1 x6 x7 x8 (0 : Int)) (some (x6, true))
def novationref10_Laid.l4 (N : Nat) : Nat → novationref10_Laid.t_l4
  | 0, _, _, _, _, _ => none
  | n + 1, x0, x1, x6, x7, x8 => novationref10_Laid.l4b N (novationref10_Laid.l7 N (novationref10_Laid.l4 N n) N) (novationref10_Laid.l4 N n) x0 x1 x6 x7 x8
def novationref10_Laid.b (N : Nat) (s_l4 : novationref10_Laid.t_l4) (a0 : List (Ty.den tI3)) (a1 : List (Ty.den tPart)) : Option ((List (Ty.den tI3)) × (Bool)) :=
  s_l4 a0 a1 ([]) (0 : Int) (1 : Int)
def novationref10_Laid (N : Nat) (a0 : List (Ty.den tI3)) (a1 : List (Ty.den tPart)) : Option ((List (Ty.den tI3)) × (Bool)) := novationref10_Laid.b N (novationref10_Laid.l4 N N) a0 a1

def novationref15_With (N : Nat) (a0 : Ty.den tBook) (a1 : List (Ty.den tI3)) (a2 : List (Ty.den tPart)) : Option ((Ty.den tBook) × (Int)) :=
  (novationref10_Shifted N a0.2.2.2.1 a1).bind fun r1 => cond (!r1.2) (some ((([] : List ((Int) × ((Int) × (Unit)))), (([] : List ((Int) × ((Int) × ((Int) × ((Int) × (Unit)))))), (([] : List ((Int) × ((Int) × ((Int) × (Unit))))), (([] : List ((Int) × ((Int) × ((Int) × (Unit))))), (([] : List (Int)), (([] : List ((Int) × ((Int) × ((Int) × ((Int) × ((Int) × ((Int) × (Unit)))))))), ())))))), (2 : Int))) ((novationref10_Laid N a0.2.2.1 a2).bind fun r2 => cond (!r2.2) (some ((([] : List ((Int) × ((Int) × (Unit)))), (([] : List ((Int) × ((Int) × ((Int) × ((Int) × (Unit)))))), (([] : List ((Int) × ((Int) × ((Int) × (Unit))))), (([] : List ((Int) × ((Int) × ((Int) × (Unit))))), (([] : List (Int)), (([] : List ((Int) × ((Int) × ((Int) × ((Int) × ((Int) × ((Int) × (Unit)))))))), ())))))), (2 : Int))) (some ((a0.1, (a0.2.1, (r2.1, (r1.1, a0.2.2.2.2)))), (0 : Int))))

abbrev novationref26_Tear.t_l5 := Ty.den tConfig → Ty.den tBook → Ty.den tBook → (List (Ty.den tI3)) → Int → Option ((Ty.den tBook) × (Int))
def novationref26_Tear.l5b (N : Nat) (k_l5 : novationref26_Tear.t_l5) (x2 : Ty.den tConfig) (x3 : Ty.den tBook) (x4 : Ty.den tBook) (x6 : List (Ty.den tI3)) (x7 : Int) : Option ((Ty.den tBook) × (Int)) :=
  cond (ltB x7 (List.length x2.1 : Int)) ((novationref26_Cuts N x2 x3 x7).bind fun r3 => cond (!eqB r3.2 0) (some ((([] : List ((Int) × ((Int) × (Unit)))), (([] : List ((Int) × ((Int) × ((Int) × ((Int) × (Unit)))))), (([] : List ((Int) × ((Int) × ((Int) × (Unit))))), (([] : List ((Int) × ((Int) × ((Int) × (Unit))))), (([] : List (Int)), (([] : List ((Int) × ((Int) × ((Int) × ((Int) × ((Int) × ((Int) × (Unit)))))))), ())))))), r3.2)) (cond (small (List.length x6 + List.length r3.1)) (k_l5 x2 x3 x4 (x6 ++ r3.1) (W .i64 (x7 + 1))) (none))) ((novationref15_With N x3 x6 ([] : List ((Int) × ((Int) × (((Bool) × ((List (Int)) × (Unit))) × (Unit)))))).bind fun r6 => some (r6.1, r6.2))
def novationref26_Tear.l5 (N : Nat) : Nat → novationref26_Tear.t_l5
  | 0, _, _, _, _, _ => none
  | n + 1, x2, x3, x4, x6, x7 => novationref26_Tear.l5b N (novationref26_Tear.l5 N n) x2 x3 x4 x6 x7
def novationref26_Tear.b (N : Nat) (s_l5 : novationref26_Tear.t_l5) (a0 : Ty.den tConfig) (a1 : Ty.den tBook) : Option ((Ty.den tBook) × (Int)) :=
  (novationref15_RightBook N a0 a1).bind fun r1 => cond (!r1) (some ((([] : List ((Int) × ((Int) × (Unit)))), (([] : List ((Int) × ((Int) × ((Int) × ((Int) × (Unit)))))), (([] : List ((Int) × ((Int) × ((Int) × (Unit))))), (([] : List ((Int) × ((Int) × ((Int) × (Unit))))), (([] : List (Int)), (([] : List ((Int) × ((Int) × ((Int) × ((Int) × ((Int) × ((Int) × (Unit)))))))), ())))))), (1 : Int))) (s_l5 a0 a1 (([] : List ((Int) × ((Int) × (Unit)))), (([] : List ((Int) × ((Int) × ((Int) × ((Int) × (Unit)))))), (([] : List ((Int) × ((Int) × ((Int) × (Unit))))), (([] : List ((Int) × ((Int) × ((Int) × (Unit))))), (([] : List (Int)), (([] : List ((Int) × ((Int) × ((Int) × ((Int) × ((Int) × ((Int) × (Unit)))))))), ())))))) ([]) (0 : Int))
def novationref26_Tear (N : Nat) (a0 : Ty.den tConfig) (a1 : Ty.den tBook) : Option ((Ty.den tBook) × (Int)) := novationref26_Tear.b N (novationref26_Tear.l5 N N) a0 a1

abbrev novationhelp_Members.t_l4 := (List (Ty.den tI2)) → (List (Ty.den tI2)) → Int → Option (Bool)
def novationhelp_Members.l4b (N : Nat) (k_l4 : novationhelp_Members.t_l4) (x0 : List (Ty.den tI2)) (x1 : List (Ty.den tI2)) (x5 : Int) : Option (Bool) :=
  cond (ltB x5 (List.length x0 : Int)) (cond (inb x5 (List.length x0)) (cond (inb x5 (List.length x1)) (cond (!(teq (.pair (.int .i64) (.pair (.int .i64) .unit)) (List.getD x0 x5.toNat ((0 : Int), ((0 : Int), ()))) (List.getD x1 x5.toNat ((0 : Int), ((0 : Int), ()))))) (some false) (k_l4 x0 x1 (W .i64 (x5 + 1)))) (none)) (none)) (some true)
def novationhelp_Members.l4 (N : Nat) : Nat → novationhelp_Members.t_l4
  | 0, _, _, _ => none
  | n + 1, x0, x1, x5 => novationhelp_Members.l4b N (novationhelp_Members.l4 N n) x0 x1 x5
def novationhelp_Members.b (N : Nat) (s_l4 : novationhelp_Members.t_l4) (a0 : List (Ty.den tI2)) (a1 : List (Ty.den tI2)) : Option (Bool) :=
  cond (!eqB (List.length a0 : Int) (List.length a1 : Int)) (some false) (s_l4 a0 a1 (0 : Int))
def novationhelp_Members (N : Nat) (a0 : List (Ty.den tI2)) (a1 : List (Ty.den tI2)) : Option (Bool) := novationhelp_Members.b N (novationhelp_Members.l4 N N) a0 a1

abbrev novationhelp_Accs.t_l4 := (List (Ty.den tI4)) → (List (Ty.den tI4)) → Int → Option (Bool)
def novationhelp_Accs.l4b (N : Nat) (k_l4 : novationhelp_Accs.t_l4) (x0 : List (Ty.den tI4)) (x1 : List (Ty.den tI4)) (x5 : Int) : Option (Bool) :=
  cond (ltB x5 (List.length x0 : Int)) (cond (inb x5 (List.length x0)) (cond (inb x5 (List.length x1)) (cond (!(teq (.pair (.int .i64) (.pair (.int .i64) (.pair (.int .i64) (.pair (.int .i64) .unit)))) (List.getD x0 x5.toNat ((0 : Int), ((0 : Int), ((0 : Int), ((0 : Int), ()))))) (List.getD x1 x5.toNat ((0 : Int), ((0 : Int), ((0 : Int), ((0 : Int), ()))))))) (some false) (k_l4 x0 x1 (W .i64 (x5 + 1)))) (none)) (none)) (some true)
def novationhelp_Accs.l4 (N : Nat) : Nat → novationhelp_Accs.t_l4
  | 0, _, _, _ => none
  | n + 1, x0, x1, x5 => novationhelp_Accs.l4b N (novationhelp_Accs.l4 N n) x0 x1 x5
def novationhelp_Accs.b (N : Nat) (s_l4 : novationhelp_Accs.t_l4) (a0 : List (Ty.den tI4)) (a1 : List (Ty.den tI4)) : Option (Bool) :=
  cond (!eqB (List.length a0 : Int) (List.length a1 : Int)) (some false) (s_l4 a0 a1 (0 : Int))
def novationhelp_Accs (N : Nat) (a0 : List (Ty.den tI4)) (a1 : List (Ty.den tI4)) : Option (Bool) := novationhelp_Accs.b N (novationhelp_Accs.l4 N N) a0 a1

abbrev novationhelp_Rows.t_l4 := (List (Ty.den tI3)) → (List (Ty.den tI3)) → Int → Option (Bool)
def novationhelp_Rows.l4b (N : Nat) (k_l4 : novationhelp_Rows.t_l4) (x0 : List (Ty.den tI3)) (x1 : List (Ty.den tI3)) (x5 : Int) : Option (Bool) :=
  cond (ltB x5 (List.length x0 : Int)) (cond (inb x5 (List.length x0)) (cond (inb x5 (List.length x1)) (cond (!(teq (.pair (.int .i64) (.pair (.int .i64) (.pair (.int .i64) .unit))) (List.getD x0 x5.toNat ((0 : Int), ((0 : Int), ((0 : Int), ())))) (List.getD x1 x5.toNat ((0 : Int), ((0 : Int), ((0 : Int), ())))))) (some false) (k_l4 x0 x1 (W .i64 (x5 + 1)))) (none)) (none)) (some true)
def novationhelp_Rows.l4 (N : Nat) : Nat → novationhelp_Rows.t_l4
  | 0, _, _, _ => none
  | n + 1, x0, x1, x5 => novationhelp_Rows.l4b N (novationhelp_Rows.l4 N n) x0 x1 x5
def novationhelp_Rows.b (N : Nat) (s_l4 : novationhelp_Rows.t_l4) (a0 : List (Ty.den tI3)) (a1 : List (Ty.den tI3)) : Option (Bool) :=
  cond (!eqB (List.length a0 : Int) (List.length a1 : Int)) (some false) (s_l4 a0 a1 (0 : Int))
def novationhelp_Rows (N : Nat) (a0 : List (Ty.den tI3)) (a1 : List (Ty.den tI3)) : Option (Bool) := novationhelp_Rows.b N (novationhelp_Rows.l4 N N) a0 a1

abbrev novationhelp_Ints.t_l4 := (List (Int)) → (List (Int)) → Int → Option (Bool)
def novationhelp_Ints.l4b (N : Nat) (k_l4 : novationhelp_Ints.t_l4) (x0 : List (Int)) (x1 : List (Int)) (x5 : Int) : Option (Bool) :=
  cond (ltB x5 (List.length x0 : Int)) (cond (inb x5 (List.length x0)) (cond (inb x5 (List.length x1)) (cond (!eqB (List.getD x0 x5.toNat (0 : Int)) (List.getD x1 x5.toNat (0 : Int))) (some false) (k_l4 x0 x1 (W .i64 (x5 + 1)))) (none)) (none)) (some true)
def novationhelp_Ints.l4 (N : Nat) : Nat → novationhelp_Ints.t_l4
  | 0, _, _, _ => none
  | n + 1, x0, x1, x5 => novationhelp_Ints.l4b N (novationhelp_Ints.l4 N n) x0 x1 x5
def novationhelp_Ints.b (N : Nat) (s_l4 : novationhelp_Ints.t_l4) (a0 : List (Int)) (a1 : List (Int)) : Option (Bool) :=
  cond (!eqB (List.length a0 : Int) (List.length a1 : Int)) (some false) (s_l4 a0 a1 (0 : Int))
def novationhelp_Ints (N : Nat) (a0 : List (Int)) (a1 : List (Int)) : Option (Bool) := novationhelp_Ints.b N (novationhelp_Ints.l4 N N) a0 a1

abbrev novationhelp_Orders.t_l4 := (List (Ty.den tI6)) → (List (Ty.den tI6)) → Int → Option (Bool)
def novationhelp_Orders.l4b (N : Nat) (k_l4 : novationhelp_Orders.t_l4) (x0 : List (Ty.den tI6)) (x1 : List (Ty.den tI6)) (x5 : Int) : Option (Bool) :=
  cond (ltB x5 (List.length x0 : Int)) (cond (inb x5 (List.length x0)) (cond (inb x5 (List.length x1)) (cond (!(teq (.pair (.int .i64) (.pair (.int .i64) (.pair (.int .i64) (.pair (.int .i64) (.pair (.int .i64) (.pair (.int .i64) .unit)))))) (List.getD x0 x5.toNat ((0 : Int), ((0 : Int), ((0 : Int), ((0 : Int), ((0 : Int), ((0 : Int), ()))))))) (List.getD x1 x5.toNat ((0 : Int), ((0 : Int), ((0 : Int), ((0 : Int), ((0 : Int), ((0 : Int), ()))))))))) (some false) (k_l4 x0 x1 (W .i64 (x5 + 1)))) (none)) (none)) (some true)
def novationhelp_Orders.l4 (N : Nat) : Nat → novationhelp_Orders.t_l4
  | 0, _, _, _ => none
  | n + 1, x0, x1, x5 => novationhelp_Orders.l4b N (novationhelp_Orders.l4 N n) x0 x1 x5
def novationhelp_Orders.b (N : Nat) (s_l4 : novationhelp_Orders.t_l4) (a0 : List (Ty.den tI6)) (a1 : List (Ty.den tI6)) : Option (Bool) :=
  cond (!eqB (List.length a0 : Int) (List.length a1 : Int)) (some false) (s_l4 a0 a1 (0 : Int))
def novationhelp_Orders (N : Nat) (a0 : List (Ty.den tI6)) (a1 : List (Ty.den tI6)) : Option (Bool) := novationhelp_Orders.b N (novationhelp_Orders.l4 N N) a0 a1

def novationhelp_Book (N : Nat) (a0 : Ty.den tBook) (a1 : Ty.den tBook) : Option (Bool) :=
  (novationhelp_Members N a0.1 a1.1).bind fun r1 => cond (r1) ((novationhelp_Accs N a0.2.1 a1.2.1).bind fun r2 => cond (r2) ((novationhelp_Rows N a0.2.2.1 a1.2.2.1).bind fun r3 => cond (r3) ((novationhelp_Stock N a0.2.2.2.1 a1.2.2.2.1).bind fun r4 => cond (r4) ((novationhelp_Ints N a0.2.2.2.2.1 a1.2.2.2.2.1).bind fun r5 => cond (r5) ((novationhelp_Orders N a0.2.2.2.2.2.1 a1.2.2.2.2.2.1).bind fun r6 => some r6) (some false)) (some false)) (some false)) (some false)) (some false)

def novationlaw29_told (N : Nat) (a0 : Ty.den tConfig) (a1 : Ty.den tBook) (a2 : Int) : Option (Bool) :=
  (tear_Cuts N a0 a1 a2).bind fun r1 => (novationref26_Cuts N a0 a1 a2).bind fun r2 => (tear_Tear N a0 a1).bind fun r3 => (novationref26_Tear N a0 a1).bind fun r4 => cond (eqB r1.2 r2.2) ((novationhelp_Shifts N r1.1 r2.1).bind fun r5 => cond (r5) (cond (eqB r3.2 r4.2) ((novationhelp_Book N r3.1 r4.1).bind fun r6 => some r6) (some false)) (some false)) (some false)

def novationlaw29_TearAll (N : Nat) (a0 : Ty.den tConfig) (a1 : Ty.den tBook) (a2 : Int) : Option (Bool) :=
  (novationlaw29_known N ).bind fun r1 => cond (!r1) (some false) (cond (ltB 10 (List.length a0.1 : Int)) (some true) (cond (ltB 16 (List.length a1.1 : Int)) (some true) (cond (ltB 30 (List.length a1.2.1 : Int)) (some true) (cond (ltB 60 (List.length a1.2.2.1 : Int)) (some true) (cond (ltB 60 (List.length a1.2.2.2.1 : Int)) (some true) (cond (ltB 10 (List.length a1.2.2.2.2.1 : Int)) (some true) (cond (ltB 40 (List.length a1.2.2.2.2.2.1 : Int)) (some true) ((novationlaw29_told N a0 a1 a2).bind fun r2 => some r2))))))))

end
end VM.F
