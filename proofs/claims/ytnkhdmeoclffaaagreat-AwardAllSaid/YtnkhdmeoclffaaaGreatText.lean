/- A part of the proof of AwardAll, of layer 25: the functions as equations between values, printed by a program. -/
import Derived.Test.YtnkhdmeoclffaaaGreatVm0
set_option linter.all false
namespace VM.F
open Go VM
set_option linter.unusedVariables false
set_option maxRecDepth 100000
noncomputable section
abbrev terrorString : Ty := (.pair .str .unit)
abbrev terrorAddressString : Ty := (.pair .str (.pair (.int .u64) .unit))
abbrev tI2 : Ty := (.pair (.int .i64) (.pair (.int .i64) .unit))
abbrev tWide : Ty := (.pair (.int .i64) (.pair (.int .u64) .unit))
abbrev tBig : Ty := (.pair .bool (.pair (.slice (.int .u64)) .unit))
abbrev tDeck : Ty := (.pair (.slice (.int .u64)) (.pair (.int .i64) .unit))
abbrev tI3 : Ty := (.pair (.int .i64) tI2)
abbrev tboundsError : Ty := (.pair (.int .i64) (.pair (.int .i64) (.pair .bool (.pair (.int .u8) .unit))))
abbrev tI4 : Ty := (.pair (.int .i64) tI3)
abbrev tEntry : Ty := (.pair (.int .i64) (.pair (.int .i64) (.pair tWide .unit)))
abbrev tI5 : Ty := (.pair (.int .i64) tI4)
abbrev tPart : Ty := (.pair (.int .i64) (.pair (.int .i64) (.pair tBig .unit)))
abbrev tI6 : Ty := (.pair (.int .i64) tI5)
abbrev tI8 : Ty := (.pair (.int .i64) (.pair (.int .i64) tI6))
abbrev tLot : Ty := (.pair (.int .i64) (.pair (.slice tI2) tI4))
abbrev tReport : Ty := (.pair (.int .i64) (.pair (.int .i64) (.pair (.slice tI5) (.pair (.int .i64) .unit))))
abbrev tConfig : Ty := (.pair (.slice tI4) tI6)
abbrev tBook : Ty := (.pair (.slice tI2) (.pair (.slice tI4) (.pair (.slice tI3) (.pair (.slice tI3) (.pair (.slice (.int .i64)) (.pair (.slice tI6) .unit))))))
abbrev tDefault : Ty := (.pair (.int .i64) (.pair (.int .i64) (.pair (.int .i64) (.pair (.int .i64) (.pair (.slice tI4) (.pair (.slice tLot) (.pair (.slice tI4) (.pair (.slice (.int .i64)) (.pair (.slice tI2) (.pair (.slice tI2) .unit))))))))))
abbrev tState : Ty := (.pair (.int .i64) (.pair (.int .i64) (.pair tBook (.pair tDefault (.pair tReport .unit)))))
abbrev ttrack : Ty := (.pair tConfig (.pair tState (.pair (.int .i64) .unit)))
def novationlaw25_small (N : Nat) : Option ((Ty.den tConfig) × (Ty.den tBook) × (List (Ty.den tLot))) :=
  some (([((0 : Int), ((100 : Int), ((0 : Int), ((0 : Int), ()))))], ((0 : Int), ((0 : Int), ((0 : Int), ((0 : Int), ((1 : Int), ((0 : Int), ()))))))), ([((1 : Int), ((1 : Int), ())), ((2 : Int), ((1 : Int), ()))], ([((1 : Int), ((1 : Int), ((1 : Int), ((0 : Int), ())))), ((2 : Int), ((2 : Int), ((1 : Int), ((0 : Int), ()))))], (([] : List ((Int) × ((Int) × ((Int) × (Unit))))), ([((0 : Int), ((0 : Int), ((5 : Int), ()))), ((2 : Int), ((0 : Int), ((-5 : Int), ())))], ([(100 : Int)], (([] : List ((Int) × ((Int) × ((Int) × ((Int) × ((Int) × ((Int) × (Unit)))))))), ())))))), [((3 : Int), ([((0 : Int), ((3 : Int), ()))], ((0 : Int), ((1 : Int), ((0 : Int), ((0 : Int), ())))))), ((4 : Int), ([((0 : Int), ((2 : Int), ()))], ((0 : Int), ((1 : Int), ((0 : Int), ((0 : Int), ()))))))])

def bid_Bid (N : Nat) (a0 : Ty.den tI4) : Option (Bool) :=
  cond (leB 1 a0.1) (cond (leB a0.1 1099511627776) (cond (leB 1 a0.2.1) (cond (leB a0.2.1 1099511627776) (cond (leB 1 a0.2.2.1) (cond (leB a0.2.2.1 12) (cond (leB (-1152921504606846976) a0.2.2.2.1) (some (leB a0.2.2.2.1 1152921504606846976)) (some false)) (some false)) (some false)) (some false)) (some false)) (some false)) (some false)

def bid_twice_1 (N : Nat) (a0 : Ty.den tI4) (a1 : Int) (a2 : Int) : Option (Bool) :=
  cond (eqB a0.2.2.1 a1) (some (eqB a0.2.1 a2)) (some false)

abbrev slices_IndexFunc_Bid__bid_twice_1.t_l2 := (List (Ty.den tI4)) → (((Int) × (Unit)) × (((Int) × (Unit)) × (Unit))) → Int → Int → Option (Int)
def slices_IndexFunc_Bid__bid_twice_1.l2b (N : Nat) (k_l2 : slices_IndexFunc_Bid__bid_twice_1.t_l2) (x0 : List (Ty.den tI4)) (x1 : ((Int) × (Unit)) × (((Int) × (Unit)) × (Unit))) (x7 : Int) (x8 : Int) : Option (Int) :=
  cond (ltB x8 x7) (cond (inb x8 (List.length x0)) ((bid_twice_1 N (List.getD x0 x8.toNat ((0 : Int), ((0 : Int), ((0 : Int), ((0 : Int), ()))))) x1.1.1 x1.2.1.1).bind fun r2 => cond (r2) (some x8) (k_l2 x0 ((x1.1.1, ()), ((x1.2.1.1, ()), ())) x7 (W .i64 (x8 + 1)))) (none)) (some (-1 : Int))
def slices_IndexFunc_Bid__bid_twice_1.l2 (N : Nat) : Nat → slices_IndexFunc_Bid__bid_twice_1.t_l2
  | 0, _, _, _, _ => none
  | n + 1, x0, x1, x7, x8 => slices_IndexFunc_Bid__bid_twice_1.l2b N (slices_IndexFunc_Bid__bid_twice_1.l2 N n) x0 x1 x7 x8
def slices_IndexFunc_Bid__bid_twice_1.b (N : Nat) (s_l2 : slices_IndexFunc_Bid__bid_twice_1.t_l2) (a0 : List (Ty.den tI4)) (a1 : ((Int) × (Unit)) × (((Int) × (Unit)) × (Unit))) : Option (Int) :=
  s_l2 a0 ((a1.1.1, ()), ((a1.2.1.1, ()), ())) (List.length a0 : Int) (0 : Int)
def slices_IndexFunc_Bid__bid_twice_1 (N : Nat) (a0 : List (Ty.den tI4)) (a1 : ((Int) × (Unit)) × (((Int) × (Unit)) × (Unit))) : Option (Int) := slices_IndexFunc_Bid__bid_twice_1.b N (slices_IndexFunc_Bid__bid_twice_1.l2 N N) a0 a1

def slices_ContainsFunc_Bid__bid_twice_1 (N : Nat) (a0 : List (Ty.den tI4)) (a1 : ((Int) × (Unit)) × (((Int) × (Unit)) × (Unit))) : Option (Bool) :=
  (slices_IndexFunc_Bid__bid_twice_1 N a0 ((a1.1.1, ()), ((a1.2.1.1, ()), ()))).bind fun r1 => some (leB 0 r1)

def bid_twice (N : Nat) (a0 : List (Ty.den tI4)) (a1 : Int) (a2 : Int) : Option (Bool) :=
  (slices_ContainsFunc_Bid__bid_twice_1 N a0 ((a1, ()), ((a2, ()), ()))).bind fun r1 => some r1

abbrev bid_Right.t_l2 := (List (Ty.den tI4)) → (List (Ty.den tI4)) → Int → Int → Option (Bool)
def bid_Right.l2b (N : Nat) (k_l2 : bid_Right.t_l2) (x0 : List (Ty.den tI4)) (x5 : List (Ty.den tI4)) (x6 : Int) (x7 : Int) : Option (Bool) :=
  cond (ltB x7 x6) (cond (inb x7 (List.length x5)) ((bid_Bid N (List.getD x5 x7.toNat ((0 : Int), ((0 : Int), ((0 : Int), ((0 : Int), ())))))).bind fun r2 => cond (!r2) (some false) (cond (ltB 0 x7) (let v3 : Int := W .i64 (x7 - 1); cond (inb v3 (List.length x0)) (cond (leB ((List.getD x5 x7.toNat ((0 : Int), ((0 : Int), ((0 : Int), ((0 : Int), ()))))).1) ((List.getD x0 v3.toNat ((0 : Int), ((0 : Int), ((0 : Int), ((0 : Int), ()))))).1)) (some false) (cond (okCut 0 x7 (List.length x0 : Int) (List.length x0 : Int)) ((bid_twice N (List.drop (0 : Int).toNat (List.take x7.toNat x0)) ((((List.getD x5 x7.toNat ((0 : Int), ((0 : Int), ((0 : Int), ((0 : Int), ()))))).2).2).1) (((List.getD x5 x7.toNat ((0 : Int), ((0 : Int), ((0 : Int), ((0 : Int), ()))))).2).1)).bind fun r5 => cond (r5) (some false) (k_l2 x0 x5 x6 (W .i64 (x7 + 1)))) (none))) (none)) (cond (okCut 0 x7 (List.length x0 : Int) (List.length x0 : Int)) ((bid_twice N (List.drop (0 : Int).toNat (List.take x7.toNat x0)) ((((List.getD x5 x7.toNat ((0 : Int), ((0 : Int), ((0 : Int), ((0 : Int), ()))))).2).2).1) (((List.getD x5 x7.toNat ((0 : Int), ((0 : Int), ((0 : Int), ((0 : Int), ()))))).2).1)).bind fun r8 => cond (r8) (some false) (k_l2 x0 x5 x6 (W .i64 (x7 + 1)))) (none)))) (none)) (some (leB (List.length x0 : Int) 40))
def bid_Right.l2 (N : Nat) : Nat → bid_Right.t_l2
  | 0, _, _, _, _ => none
  | n + 1, x0, x5, x6, x7 => bid_Right.l2b N (bid_Right.l2 N n) x0 x5 x6 x7
def bid_Right.b (N : Nat) (s_l2 : bid_Right.t_l2) (a0 : List (Ty.den tI4)) : Option (Bool) :=
  s_l2 a0 a0 (List.length a0 : Int) (0 : Int)
def bid_Right (N : Nat) (a0 : List (Ty.den tI4)) : Option (Bool) := bid_Right.b N (bid_Right.l2 N N) a0

abbrev award_Best.t_l5 := Int → Ty.den tI4 → Ty.den tI4 → (List (Ty.den tI4)) → Int → Int → Option ((Ty.den tI4) × (Bool))
def award_Best.l5b (N : Nat) (k_l5 : award_Best.t_l5) (x1 : Int) (x4 : Ty.den tI4) (x6 : Ty.den tI4) (x13 : List (Ty.den tI4)) (x14 : Int) (x15 : Int) : Option ((Ty.den tI4) × (Bool)) :=
  cond (ltB x15 x14) (cond (inb x15 (List.length x13)) (cond (eqB (((List.getD x13 x15.toNat ((0 : Int), ((0 : Int), ((0 : Int), ((0 : Int), ()))))).2).1) x1) (cond (eqB x6.1 0) (k_l5 x1 x4 (List.getD x13 x15.toNat ((0 : Int), ((0 : Int), ((0 : Int), ((0 : Int), ()))))) x13 x14 (W .i64 (x15 + 1))) (cond (ltB x6.2.2.2.1 (((((List.getD x13 x15.toNat ((0 : Int), ((0 : Int), ((0 : Int), ((0 : Int), ()))))).2).2).2).1)) (k_l5 x1 x4 (List.getD x13 x15.toNat ((0 : Int), ((0 : Int), ((0 : Int), ((0 : Int), ()))))) x13 x14 (W .i64 (x15 + 1))) (k_l5 x1 x4 x6 x13 x14 (W .i64 (x15 + 1))))) (k_l5 x1 x4 x6 x13 x14 (W .i64 (x15 + 1)))) (none)) (some (x6, !eqB x6.1 0))
def award_Best.l5 (N : Nat) : Nat → award_Best.t_l5
  | 0, _, _, _, _, _, _ => none
  | n + 1, x1, x4, x6, x13, x14, x15 => award_Best.l5b N (award_Best.l5 N n) x1 x4 x6 x13 x14 x15
def award_Best.b (N : Nat) (s_l5 : award_Best.t_l5) (a0 : List (Ty.den tI4)) (a1 : Int) : Option ((Ty.den tI4) × (Bool)) :=
  (bid_Right N a0).bind fun r1 => cond (!r1) (some (((0 : Int), ((0 : Int), ((0 : Int), ((0 : Int), ())))), false)) (s_l5 a1 ((0 : Int), ((0 : Int), ((0 : Int), ((0 : Int), ())))) ((0 : Int), ((0 : Int), ((0 : Int), ((0 : Int), ())))) a0 (List.length a0 : Int) (0 : Int))
def award_Best (N : Nat) (a0 : List (Ty.den tI4)) (a1 : Int) : Option ((Ty.den tI4) × (Bool)) := award_Best.b N (award_Best.l5 N N) a0 a1

def plan_in (N : Nat) (a0 : Int) (a1 : Int) (a2 : Int) : Option (Bool) :=
  cond (leB a1 a0) (some (leB a0 a2)) (some false)

abbrev plan_Right.t_l4 := Ty.den tConfig → (List (Ty.den tI4)) → Int → Int → Option (Bool)
def plan_Right.l4b (N : Nat) (k_l4 : plan_Right.t_l4) (x1 : Ty.den tConfig) (x11 : List (Ty.den tI4)) (x12 : Int) (x13 : Int) : Option (Bool) :=
  cond (ltB x13 x12) (cond (inb x13 (List.length x11)) ((plan_in N ((List.getD x11 x13.toNat ((0 : Int), ((0 : Int), ((0 : Int), ((0 : Int), ()))))).1) (0 : Int) (3 : Int)).bind fun r3 => cond (!r3) (some false) ((plan_in N (((List.getD x11 x13.toNat ((0 : Int), ((0 : Int), ((0 : Int), ((0 : Int), ()))))).2).1) (1 : Int) (1000000000000 : Int)).bind fun r4 => cond (!r4) (some false) ((plan_in N ((((List.getD x11 x13.toNat ((0 : Int), ((0 : Int), ((0 : Int), ((0 : Int), ()))))).2).2).1) (0 : Int) (1000000000 : Int)).bind fun r5 => cond (!r5) (some false) ((plan_in N (((((List.getD x11 x13.toNat ((0 : Int), ((0 : Int), ((0 : Int), ((0 : Int), ()))))).2).2).2).1) (0 : Int) (1000000000 : Int)).bind fun r6 => cond (!r6) (some false) (k_l4 x1 x11 x12 (W .i64 (x13 + 1))))))) (none)) (cond (leB 0 x1.2.1) ((plan_in N x1.2.2.1 (0 : Int) (4 : Int)).bind fun r8 => cond (r8) ((plan_in N x1.2.2.2.1 (0 : Int) (1000000 : Int)).bind fun r9 => cond (r9) ((plan_in N x1.2.2.2.2.1 (0 : Int) (1000000 : Int)).bind fun r10 => cond (r10) ((plan_in N x1.2.2.2.2.2.1 (1 : Int) (4611686018427387904 : Int)).bind fun r11 => cond (r11) (some (leB 0 x1.2.2.2.2.2.2.1)) (some false)) (some false)) (some false)) (some false)) (some false))
def plan_Right.l4 (N : Nat) : Nat → plan_Right.t_l4
  | 0, _, _, _, _ => none
  | n + 1, x1, x11, x12, x13 => plan_Right.l4b N (plan_Right.l4 N n) x1 x11 x12 x13
def plan_Right.b (N : Nat) (s_l4 : plan_Right.t_l4) (a0 : Ty.den tConfig) : Option (Bool) :=
  (plan_in N (List.length a0.1 : Int) (1 : Int) (6 : Int)).bind fun r1 => cond (!r1) (some false) (s_l4 a0 a0.1 (List.length a0.1 : Int) (0 : Int))
def plan_Right (N : Nat) (a0 : Ty.den tConfig) : Option (Bool) := plan_Right.b N (plan_Right.l4 N N) a0

abbrev roll_Members.t_l2 := (List (Ty.den tI2)) → (List (Ty.den tI2)) → Int → Int → Option (Bool)
def roll_Members.l2b (N : Nat) (k_l2 : roll_Members.t_l2) (x0 : List (Ty.den tI2)) (x5 : List (Ty.den tI2)) (x6 : Int) (x7 : Int) : Option (Bool) :=
  cond (ltB x7 x6) (cond (inb x7 (List.length x5)) (cond (ltB ((List.getD x5 x7.toNat ((0 : Int), ((0 : Int), ()))).1) (1 : Int)) (some false) (cond (ltB 12 ((List.getD x5 x7.toNat ((0 : Int), ((0 : Int), ()))).1)) (some false) (cond (ltB (((List.getD x5 x7.toNat ((0 : Int), ((0 : Int), ()))).2).1) (1 : Int)) (some false) (cond (ltB 4 (((List.getD x5 x7.toNat ((0 : Int), ((0 : Int), ()))).2).1)) (some false) (cond (ltB 0 x7) (let v2 : Int := W .i64 (x7 - 1); cond (inb v2 (List.length x0)) (cond (leB ((List.getD x5 x7.toNat ((0 : Int), ((0 : Int), ()))).1) ((List.getD x0 v2.toNat ((0 : Int), ((0 : Int), ()))).1)) (some false) (k_l2 x0 x5 x6 (W .i64 (x7 + 1)))) (none)) (k_l2 x0 x5 x6 (W .i64 (x7 + 1)))))))) (none)) (some true)
def roll_Members.l2 (N : Nat) : Nat → roll_Members.t_l2
  | 0, _, _, _, _ => none
  | n + 1, x0, x5, x6, x7 => roll_Members.l2b N (roll_Members.l2 N n) x0 x5 x6 x7
def roll_Members.b (N : Nat) (s_l2 : roll_Members.t_l2) (a0 : List (Ty.den tI2)) : Option (Bool) :=
  s_l2 a0 a0 (List.length a0 : Int) (0 : Int)
def roll_Members (N : Nat) (a0 : List (Ty.den tI2)) : Option (Bool) := roll_Members.b N (roll_Members.l2 N N) a0

abbrev roll_Accs.t_l3 := (List (Ty.den tI4)) → (List (Bool)) → (List (Ty.den tI4)) → Int → Int → Option (Bool)
def roll_Accs.l3b (N : Nat) (k_l3 : roll_Accs.t_l3) (x0 : List (Ty.den tI4)) (x3 : List (Bool)) (x6 : List (Ty.den tI4)) (x7 : Int) (x8 : Int) : Option (Bool) :=
  cond (ltB x8 x7) (cond (inb x8 (List.length x6)) (cond (ltB ((List.getD x6 x8.toNat ((0 : Int), ((0 : Int), ((0 : Int), ((0 : Int), ()))))).1) (1 : Int)) (some false) (cond (ltB 24 ((List.getD x6 x8.toNat ((0 : Int), ((0 : Int), ((0 : Int), ((0 : Int), ()))))).1)) (some false) (cond (ltB (((List.getD x6 x8.toNat ((0 : Int), ((0 : Int), ((0 : Int), ((0 : Int), ()))))).2).1) (1 : Int)) (some false) (cond (ltB 12 (((List.getD x6 x8.toNat ((0 : Int), ((0 : Int), ((0 : Int), ((0 : Int), ()))))).2).1)) (some false) (cond (!eqB ((((List.getD x6 x8.toNat ((0 : Int), ((0 : Int), ((0 : Int), ((0 : Int), ()))))).2).2).1) (1 : Int)) (cond (!eqB ((((List.getD x6 x8.toNat ((0 : Int), ((0 : Int), ((0 : Int), ((0 : Int), ()))))).2).2).1) (2 : Int)) (some false) (cond (ltB (((((List.getD x6 x8.toNat ((0 : Int), ((0 : Int), ((0 : Int), ((0 : Int), ()))))).2).2).2).1) (0 : Int)) (some false) (cond (ltB 1000000000000 (((((List.getD x6 x8.toNat ((0 : Int), ((0 : Int), ((0 : Int), ((0 : Int), ()))))).2).2).2).1)) (some false) (cond (ltB 0 x8) (let v2 : Int := W .i64 (x8 - 1); cond (inb v2 (List.length x0)) (cond (leB ((List.getD x6 x8.toNat ((0 : Int), ((0 : Int), ((0 : Int), ((0 : Int), ()))))).1) ((List.getD x0 v2.toNat ((0 : Int), ((0 : Int), ((0 : Int), ((0 : Int), ()))))).1)) (some false) (cond (eqB ((((List.getD x6 x8.toNat ((0 : Int), ((0 : Int), ((0 : Int), ((0 : Int), ()))))).2).2).1) (1 : Int)) (cond (inb (((List.getD x6 x8.toNat ((0 : Int), ((0 : Int), ((0 : Int), ((0 : Int), ()))))).2).1) 13) (cond (List.getD x3 (((List.getD x6 x8.toNat ((0 : Int), ((0 : Int), ((0 : Int), ((0 : Int), ()))))).2).1).toNat false) (some false) (cond (inb (((List.getD x6 x8.toNat ((0 : Int), ((0 : Int), ((0 : Int), ((0 : Int), ()))))).2).1) 13) (k_l3 x0 (List.set x3 (((List.getD x6 x8.toNat ((0 : Int), ((0 : Int), ((0 : Int), ((0 : Int), ()))))).2).1).toNat true) x6 x7 (W .i64 (x8 + 1))) (none))) (none)) (k_l3 x0 x3 x6 x7 (W .i64 (x8 + 1))))) (none)) (cond (eqB ((((List.getD x6 x8.toNat ((0 : Int), ((0 : Int), ((0 : Int), ((0 : Int), ()))))).2).2).1) (1 : Int)) (cond (inb (((List.getD x6 x8.toNat ((0 : Int), ((0 : Int), ((0 : Int), ((0 : Int), ()))))).2).1) 13) (cond (List.getD x3 (((List.getD x6 x8.toNat ((0 : Int), ((0 : Int), ((0 : Int), ((0 : Int), ()))))).2).1).toNat false) (some false) (cond (inb (((List.getD x6 x8.toNat ((0 : Int), ((0 : Int), ((0 : Int), ((0 : Int), ()))))).2).1) 13) (k_l3 x0 (List.set x3 (((List.getD x6 x8.toNat ((0 : Int), ((0 : Int), ((0 : Int), ((0 : Int), ()))))).2).1).toNat true) x6 x7 (W .i64 (x8 + 1))) (none))) (none)) (k_l3 x0 x3 x6 x7 (W .i64 (x8 + 1)))))))) (cond (ltB (((((List.getD x6 x8.toNat ((0 : Int), ((0 : Int), ((0 : Int), ((0 : Int), ()))))).2).2).2).1) (0 : Int)) (some false) (cond (ltB 1000000000000 (((((List.getD x6 x8.toNat ((0 : Int), ((0 : Int), ((0 : Int), ((0 : Int), ()))))).2).2).2).1)) (some false) (cond (ltB 0 x8) (let v7 : Int := W .i64 (x8 - 1); cond (inb v7 (List.length x0)) (cond (leB ((List.getD x6 x8.toNat ((0 : Int), ((0 : Int), ((0 : Int), ((0 : Int), ()))))).1) ((List.getD x0 v7.toNat ((0 : Int), ((0 : Int), ((0 : Int), ((0 : Int), ()))))).1)) (some false) (cond (eqB ((((List.getD x6 x8.toNat ((0 : Int), ((0 : Int), ((0 : Int), ((0 : Int), ()))))).2).2).1) (1 : Int)) (cond (inb (((List.getD x6 x8.toNat ((0 : Int), ((0 : Int), ((0 : Int), ((0 : Int), ()))))).2).1) 13) (cond (List.getD x3 (((List.getD x6 x8.toNat ((0 : Int), ((0 : Int), ((0 : Int), ((0 : Int), ()))))).2).1).toNat false) (some false) (cond (inb (((List.getD x6 x8.toNat ((0 : Int), ((0 : Int), ((0 : Int), ((0 : Int), ()))))).2).1) 13) (k_l3 x0 (List.set x3 (((List.getD x6 x8.toNat ((0 : Int), ((0 : Int), ((0 : Int), ((0 : Int), ()))))).2).1).toNat true) x6 x7 (W .i64 (x8 + 1))) (none))) (none)) (k_l3 x0 x3 x6 x7 (W .i64 (x8 + 1))))) (none)) (cond (eqB ((((List.getD x6 x8.toNat ((0 : Int), ((0 : Int), ((0 : Int), ((0 : Int), ()))))).2).2).1) (1 : Int)) (cond (inb (((List.getD x6 x8.toNat ((0 : Int), ((0 : Int), ((0 : Int), ((0 : Int), ()))))).2).1) 13) (cond (List.getD x3 (((List.getD x6 x8.toNat ((0 : Int), ((0 : Int), ((0 : Int), ((0 : Int), ()))))).2).1).toNat false) (some false) (cond (inb (((List.getD x6 x8.toNat ((0 : Int), ((0 : Int), ((0 : Int), ((0 : Int), ()))))).2).1) 13) (k_l3 x0 (List.set x3 (((List.getD x6 x8.toNat ((0 : Int), ((0 : Int), ((0 : Int), ((0 : Int), ()))))).2).1).toNat true) x6 x7 (W .i64 (x8 + 1))) (none))) (none)) (k_l3 x0 x3 x6 x7 (W .i64 (x8 + 1)))))))))))) (none)) (some true)
def roll_Accs.l3 (N : Nat) : Nat → roll_Accs.t_l3
  | 0, _, _, _, _, _ => none
  | n + 1, x0, x3, x6, x7, x8 => roll_Accs.l3b N (roll_Accs.l3 N n) x0 x3 x6 x7 x8
def roll_Accs.b (N : Nat) (s_l3 : roll_Accs.t_l3) (a0 : List (Ty.den tI4)) : Option (Bool) :=
  s_l3 a0 (List.replicate 13 false) a0 (List.length a0 : Int) (0 : Int)
def roll_Accs (N : Nat) (a0 : List (Ty.den tI4)) : Option (Bool) := roll_Accs.b N (roll_Accs.l3 N N) a0

abbrev roll_Status.t_l4 := Int → (List (Ty.den tI2)) → Int → Int → Option (Int)
def roll_Status.l4b (N : Nat) (k_l4 : roll_Status.t_l4) (x1 : Int) (x10 : List (Ty.den tI2)) (x11 : Int) (x12 : Int) : Option (Int) :=
  cond (ltB x12 x11) (cond (inb x12 (List.length x10)) (cond (eqB ((List.getD x10 x12.toNat ((0 : Int), ((0 : Int), ()))).1) x1) (some (((List.getD x10 x12.toNat ((0 : Int), ((0 : Int), ()))).2).1)) (k_l4 x1 x10 x11 (W .i64 (x12 + 1)))) (none)) (some (0 : Int))
def roll_Status.l4 (N : Nat) : Nat → roll_Status.t_l4
  | 0, _, _, _, _ => none
  | n + 1, x1, x10, x11, x12 => roll_Status.l4b N (roll_Status.l4 N n) x1 x10 x11 x12
def roll_Status.b (N : Nat) (s_l4 : roll_Status.t_l4) (a0 : List (Ty.den tI2)) (a1 : Int) : Option (Int) :=
  (roll_Members N a0).bind fun r1 => cond (!r1) (some (0 : Int)) (s_l4 a1 a0 (List.length a0 : Int) (0 : Int))
def roll_Status (N : Nat) (a0 : List (Ty.den tI2)) (a1 : Int) : Option (Int) := roll_Status.b N (roll_Status.l4 N N) a0 a1

abbrev roll_Right.t_l4 := (List (Ty.den tI2)) → (List (Ty.den tI4)) → Int → Int → Option (Bool)
def roll_Right.l4b (N : Nat) (k_l4 : roll_Right.t_l4) (x0 : List (Ty.den tI2)) (x15 : List (Ty.den tI4)) (x16 : Int) (x17 : Int) : Option (Bool) :=
  cond (ltB x17 x16) (cond (inb x17 (List.length x15)) ((roll_Status N x0 (((List.getD x15 x17.toNat ((0 : Int), ((0 : Int), ((0 : Int), ((0 : Int), ()))))).2).1)).bind fun r4 => cond (eqB r4 0) (some false) (k_l4 x0 x15 x16 (W .i64 (x17 + 1)))) (none)) (some true)
def roll_Right.l4 (N : Nat) : Nat → roll_Right.t_l4
  | 0, _, _, _, _ => none
  | n + 1, x0, x15, x16, x17 => roll_Right.l4b N (roll_Right.l4 N n) x0 x15 x16 x17
def roll_Right.b (N : Nat) (s_l4 : roll_Right.t_l4) (a0 : List (Ty.den tI2)) (a1 : List (Ty.den tI4)) : Option (Bool) :=
  (roll_Members N a0).bind fun r1 => cond (!r1) (some false) ((roll_Accs N a1).bind fun r2 => cond (!r2) (some false) (s_l4 a0 a1 (List.length a1 : Int) (0 : Int)))
def roll_Right (N : Nat) (a0 : List (Ty.den tI2)) (a1 : List (Ty.den tI4)) : Option (Bool) := roll_Right.b N (roll_Right.l4 N N) a0 a1

def ledger_Key (N : Nat) (a0 : Int) (a1 : Int) : Option (Bool) :=
  cond (eqB a0 1) (some (eqB a1 0)) (cond (eqB a0 2) (some (eqB a1 0)) (cond (eqB a0 3) (some (eqB a1 0)) (cond (eqB a0 4) (some (eqB a1 0)) (cond (eqB a0 5) (cond (leB 1 a1) (some (leB a1 24)) (some false)) (cond (eqB a0 6) (cond (leB 1 a1) (some (leB a1 12)) (some false)) (cond (eqB a0 7) (cond (leB 1 a1) (some (leB a1 12)) (some false)) (some false)))))))

def ledger_order (N : Nat) (a0 : Int) (a1 : Int) (a2 : Ty.den tI3) : Option (Int) :=
  cond (!eqB a0 a2.1) (some (W .i64 (a0 - a2.1))) (some (W .i64 (a1 - a2.2.1)))

abbrev ledger_Right.t_l2 := (List (Ty.den tI3)) → (List (Ty.den tI3)) → Int → Int → Option (Bool)
def ledger_Right.l2b (N : Nat) (k_l2 : ledger_Right.t_l2) (x0 : List (Ty.den tI3)) (x5 : List (Ty.den tI3)) (x6 : Int) (x7 : Int) : Option (Bool) :=
  cond (ltB x7 x6) (cond (inb x7 (List.length x5)) ((ledger_Key N ((List.getD x5 x7.toNat ((0 : Int), ((0 : Int), ((0 : Int), ())))).1) (((List.getD x5 x7.toNat ((0 : Int), ((0 : Int), ((0 : Int), ())))).2).1)).bind fun r2 => cond (!r2) (some false) (cond (eqB ((((List.getD x5 x7.toNat ((0 : Int), ((0 : Int), ((0 : Int), ())))).2).2).1) (0 : Int)) (some false) (cond (ltB 0 x7) (let v3 : Int := W .i64 (x7 - 1); cond (inb v3 (List.length x0)) ((ledger_order N ((List.getD x5 x7.toNat ((0 : Int), ((0 : Int), ((0 : Int), ())))).1) (((List.getD x5 x7.toNat ((0 : Int), ((0 : Int), ((0 : Int), ())))).2).1) (List.getD x0 v3.toNat ((0 : Int), ((0 : Int), ((0 : Int), ()))))).bind fun r4 => cond (leB r4 0) (some false) (k_l2 x0 x5 x6 (W .i64 (x7 + 1)))) (none)) (k_l2 x0 x5 x6 (W .i64 (x7 + 1)))))) (none)) (some true)
def ledger_Right.l2 (N : Nat) : Nat → ledger_Right.t_l2
  | 0, _, _, _, _ => none
  | n + 1, x0, x5, x6, x7 => ledger_Right.l2b N (ledger_Right.l2 N n) x0 x5 x6 x7
def ledger_Right.b (N : Nat) (s_l2 : ledger_Right.t_l2) (a0 : List (Ty.den tI3)) : Option (Bool) :=
  s_l2 a0 a0 (List.length a0 : Int) (0 : Int)
def ledger_Right (N : Nat) (a0 : List (Ty.den tI3)) : Option (Bool) := ledger_Right.b N (ledger_Right.l2 N N) a0

def wide_Of (N : Nat) (a0 : Int) : Option (Ty.den tWide) :=
  cond (ltB 63 0) (none) (some ((shr .i64 a0 63), ((W .u64 a0), ())))

abbrev wide_Sum.t_l3 := Ty.den tWide → Int → Int → Int → (List (Ty.den tWide)) → Int → Int → Option ((Ty.den tWide) × (Bool))
def wide_Sum.l3b (N : Nat) (k_l3 : wide_Sum.t_l3) (x2 : Ty.den tWide) (x4 : Int) (x5 : Int) (x6 : Int) (x10 : List (Ty.den tWide)) (x11 : Int) (x12 : Int) : Option ((Ty.den tWide) × (Bool)) :=
  cond (ltB x12 x11) (cond (inb x12 (List.length x10)) ((add64 N x6 (((List.getD x10 x12.toNat ((0 : Int), ((0 : Int), ()))).2).1) (0 : Int)).bind fun r2 => (add64 N x5 (W .u64 ((List.getD x10 x12.toNat ((0 : Int), ((0 : Int), ()))).1)) r2.2).bind fun r4 => cond (ltB 63 0) (none) (k_l3 x2 (W .i64 ((W .i64 (x4 + (shr .i64 ((List.getD x10 x12.toNat ((0 : Int), ((0 : Int), ()))).1) (63 : Int)))) + (W .i64 r4.2))) r4.1 r2.1 x10 x11 (W .i64 (x12 + 1)))) (none)) (cond (ltB 63 0) (none) (cond (!eqB x4 (shr .i64 (W .i64 x5) 63)) (some (((0 : Int), ((0 : Int), ())), false)) (some (((W .i64 x5), (x6, ())), true))))
def wide_Sum.l3 (N : Nat) : Nat → wide_Sum.t_l3
  | 0, _, _, _, _, _, _, _ => none
  | n + 1, x2, x4, x5, x6, x10, x11, x12 => wide_Sum.l3b N (wide_Sum.l3 N n) x2 x4 x5 x6 x10 x11 x12
def wide_Sum.b (N : Nat) (s_l3 : wide_Sum.t_l3) (a0 : List (Ty.den tWide)) : Option ((Ty.den tWide) × (Bool)) :=
  s_l3 ((0 : Int), ((0 : Int), ())) (0 : Int) (0 : Int) (0 : Int) a0 (List.length a0 : Int) (0 : Int)
def wide_Sum (N : Nat) (a0 : List (Ty.den tWide)) : Option ((Ty.den tWide) × (Bool)) := wide_Sum.b N (wide_Sum.l3 N N) a0

abbrev ledger_Total.t_l5 := Ty.den tWide → (List (Ty.den tWide)) → (List (Ty.den tI3)) → Int → Int → Option (Ty.den tWide)
def ledger_Total.l5b (N : Nat) (k_l5 : ledger_Total.t_l5) (x2 : Ty.den tWide) (x3 : List (Ty.den tWide)) (x12 : List (Ty.den tI3)) (x13 : Int) (x14 : Int) : Option (Ty.den tWide) :=
  cond (ltB x14 x13) (cond (inb x14 (List.length x12)) ((wide_Of N ((((List.getD x12 x14.toNat ((0 : Int), ((0 : Int), ((0 : Int), ())))).2).2).1)).bind fun r3 => cond (small (List.length x3 + List.length ([r3]))) (k_l5 x2 (x3 ++ ([r3])) x12 x13 (W .i64 (x14 + 1))) (none)) (none)) ((wide_Sum N x3).bind fun r6 => some r6.1)
def ledger_Total.l5 (N : Nat) : Nat → ledger_Total.t_l5
  | 0, _, _, _, _, _ => none
  | n + 1, x2, x3, x12, x13, x14 => ledger_Total.l5b N (ledger_Total.l5 N n) x2 x3 x12 x13 x14
def ledger_Total.b (N : Nat) (s_l5 : ledger_Total.t_l5) (a0 : List (Ty.den tI3)) : Option (Ty.den tWide) :=
  (ledger_Right N a0).bind fun r1 => cond (!r1) (some ((0 : Int), ((0 : Int), ()))) (s_l5 ((0 : Int), ((0 : Int), ())) ([]) a0 (List.length a0 : Int) (0 : Int))
def ledger_Total (N : Nat) (a0 : List (Ty.den tI3)) : Option (Ty.den tWide) := ledger_Total.b N (ledger_Total.l5 N N) a0

def wide_Cmp (N : Nat) (a0 : Ty.den tWide) (a1 : Ty.den tWide) : Option (Int) :=
  cond (ltB a0.1 a1.1) (some (-1 : Int)) (cond (eqB a0.1 a1.1) (cond (ltB a0.2.1 a1.2.1) (some (-1 : Int)) (cond (teq (.pair (.int .i64) (.pair (.int .u64) .unit)) a0 a1) (some (0 : Int)) (some (1 : Int)))) (cond (teq (.pair (.int .i64) (.pair (.int .u64) .unit)) a0 a1) (some (0 : Int)) (some (1 : Int))))

def wide_Sign (N : Nat) (a0 : Ty.den tWide) : Option (Int) :=
  (wide_Cmp N a0 ((0 : Int), ((0 : Int), ()))).bind fun r1 => some r1

def stock_key (N : Nat) (a0 : Int) (a1 : Int) : Option (Bool) :=
  cond (leB 0 a0) (cond (leB a0 24) (cond (leB 0 a1) (some (ltB a1 6)) (some false)) (some false)) (some false)

def stock_Quantity (N : Nat) (a0 : Int) : Option (Bool) :=
  some (!eqB a0 (-9223372036854775808))

def stock_order (N : Nat) (a0 : Int) (a1 : Int) (a2 : Ty.den tI3) : Option (Int) :=
  cond (!eqB a0 a2.1) (some (W .i64 (a0 - a2.1))) (some (W .i64 (a1 - a2.2.1)))

abbrev stock_Right.t_l2 := (List (Ty.den tI3)) → (List (Ty.den tI3)) → Int → Int → Option (Bool)
def stock_Right.l2b (N : Nat) (k_l2 : stock_Right.t_l2) (x0 : List (Ty.den tI3)) (x5 : List (Ty.den tI3)) (x6 : Int) (x7 : Int) : Option (Bool) :=
  cond (ltB x7 x6) (cond (inb x7 (List.length x5)) ((stock_key N ((List.getD x5 x7.toNat ((0 : Int), ((0 : Int), ((0 : Int), ())))).1) (((List.getD x5 x7.toNat ((0 : Int), ((0 : Int), ((0 : Int), ())))).2).1)).bind fun r2 => cond (!r2) (some false) (cond (eqB ((((List.getD x5 x7.toNat ((0 : Int), ((0 : Int), ((0 : Int), ())))).2).2).1) (0 : Int)) (some false) ((stock_Quantity N ((((List.getD x5 x7.toNat ((0 : Int), ((0 : Int), ((0 : Int), ())))).2).2).1)).bind fun r3 => cond (!r3) (some false) (cond (ltB 0 x7) (let v4 : Int := W .i64 (x7 - 1); cond (inb v4 (List.length x0)) ((stock_order N ((List.getD x5 x7.toNat ((0 : Int), ((0 : Int), ((0 : Int), ())))).1) (((List.getD x5 x7.toNat ((0 : Int), ((0 : Int), ((0 : Int), ())))).2).1) (List.getD x0 v4.toNat ((0 : Int), ((0 : Int), ((0 : Int), ()))))).bind fun r5 => cond (leB r5 0) (some false) (k_l2 x0 x5 x6 (W .i64 (x7 + 1)))) (none)) (k_l2 x0 x5 x6 (W .i64 (x7 + 1))))))) (none)) (some true)
def stock_Right.l2 (N : Nat) : Nat → stock_Right.t_l2
  | 0, _, _, _, _ => none
  | n + 1, x0, x5, x6, x7 => stock_Right.l2b N (stock_Right.l2 N n) x0 x5 x6 x7
def stock_Right.b (N : Nat) (s_l2 : stock_Right.t_l2) (a0 : List (Ty.den tI3)) : Option (Bool) :=
  s_l2 a0 a0 (List.length a0 : Int) (0 : Int)
def stock_Right (N : Nat) (a0 : List (Ty.den tI3)) : Option (Bool) := stock_Right.b N (stock_Right.l2 N N) a0

abbrev stock_Sum.t_l5 := Int → Ty.den tWide → (List (Ty.den tWide)) → (List (Ty.den tI3)) → Int → Int → Option (Ty.den tWide)
def stock_Sum.l5b (N : Nat) (k_l5 : stock_Sum.t_l5) (x1 : Int) (x4 : Ty.den tWide) (x5 : List (Ty.den tWide)) (x14 : List (Ty.den tI3)) (x15 : Int) (x16 : Int) : Option (Ty.den tWide) :=
  cond (ltB x16 x15) (cond (inb x16 (List.length x14)) (cond (eqB (((List.getD x14 x16.toNat ((0 : Int), ((0 : Int), ((0 : Int), ())))).2).1) x1) ((wide_Of N ((((List.getD x14 x16.toNat ((0 : Int), ((0 : Int), ((0 : Int), ())))).2).2).1)).bind fun r3 => cond (small (List.length x5 + List.length ([r3]))) (k_l5 x1 x4 (x5 ++ ([r3])) x14 x15 (W .i64 (x16 + 1))) (none)) (k_l5 x1 x4 x5 x14 x15 (W .i64 (x16 + 1)))) (none)) ((wide_Sum N x5).bind fun r7 => some r7.1)
def stock_Sum.l5 (N : Nat) : Nat → stock_Sum.t_l5
  | 0, _, _, _, _, _, _ => none
  | n + 1, x1, x4, x5, x14, x15, x16 => stock_Sum.l5b N (stock_Sum.l5 N n) x1 x4 x5 x14 x15 x16
def stock_Sum.b (N : Nat) (s_l5 : stock_Sum.t_l5) (a0 : List (Ty.den tI3)) (a1 : Int) : Option (Ty.den tWide) :=
  (stock_Right N a0).bind fun r1 => cond (!r1) (some ((0 : Int), ((0 : Int), ()))) (s_l5 a1 ((0 : Int), ((0 : Int), ())) ([]) a0 (List.length a0 : Int) (0 : Int))
def stock_Sum (N : Nat) (a0 : List (Ty.den tI3)) (a1 : Int) : Option (Ty.den tWide) := stock_Sum.b N (stock_Sum.l5 N N) a0 a1

abbrev stock_Flat.t_l2 := (List (Ty.den tI3)) → Int → Option (Bool)
def stock_Flat.l2b (N : Nat) (k_l2 : stock_Flat.t_l2) (x0 : List (Ty.den tI3)) (x4 : Int) : Option (Bool) :=
  cond (ltB x4 6) ((stock_Sum N x0 x4).bind fun r2 => (wide_Sign N r2).bind fun r3 => cond (!eqB r3 0) (some false) (k_l2 x0 (W .i64 (x4 + 1)))) ((stock_Right N x0).bind fun r5 => some r5)
def stock_Flat.l2 (N : Nat) : Nat → stock_Flat.t_l2
  | 0, _, _ => none
  | n + 1, x0, x4 => stock_Flat.l2b N (stock_Flat.l2 N n) x0 x4
def stock_Flat.b (N : Nat) (s_l2 : stock_Flat.t_l2) (a0 : List (Ty.den tI3)) : Option (Bool) :=
  s_l2 a0 (0 : Int)
def stock_Flat (N : Nat) (a0 : List (Ty.den tI3)) : Option (Bool) := stock_Flat.b N (stock_Flat.l2 N N) a0

def queue_Order (N : Nat) (a0 : Ty.den tI6) : Option (Bool) :=
  cond (leB 1 a0.1) (cond (leB a0.1 1099511627776) (cond (leB 1 a0.2.1) (cond (leB a0.2.1 24) (cond (leB 0 a0.2.2.1) (cond (ltB a0.2.2.1 6) (cond (eqB a0.2.2.2.1 1) (cond (leB 1 a0.2.2.2.2.1) (cond (leB a0.2.2.2.2.1 1000000000) (cond (leB 1 a0.2.2.2.2.2.1) (some (leB a0.2.2.2.2.2.1 1000000000000)) (some false)) (some false)) (some false)) (cond (eqB a0.2.2.2.1 2) (cond (leB 1 a0.2.2.2.2.1) (cond (leB a0.2.2.2.2.1 1000000000) (cond (leB 1 a0.2.2.2.2.2.1) (some (leB a0.2.2.2.2.2.1 1000000000000)) (some false)) (some false)) (some false)) (some false))) (some false)) (some false)) (some false)) (some false)) (some false)) (some false)

abbrev queue_Right.t_l2 := (List (Ty.den tI6)) → (List (Ty.den tI6)) → Int → Int → Option (Bool)
def queue_Right.l2b (N : Nat) (k_l2 : queue_Right.t_l2) (x0 : List (Ty.den tI6)) (x5 : List (Ty.den tI6)) (x6 : Int) (x7 : Int) : Option (Bool) :=
  cond (ltB x7 x6) (cond (inb x7 (List.length x5)) ((queue_Order N (List.getD x5 x7.toNat ((0 : Int), ((0 : Int), ((0 : Int), ((0 : Int), ((0 : Int), ((0 : Int), ())))))))).bind fun r2 => cond (!r2) (some false) (cond (ltB 0 x7) (let v3 : Int := W .i64 (x7 - 1); cond (inb v3 (List.length x0)) (cond (leB ((List.getD x5 x7.toNat ((0 : Int), ((0 : Int), ((0 : Int), ((0 : Int), ((0 : Int), ((0 : Int), ()))))))).1) ((List.getD x0 v3.toNat ((0 : Int), ((0 : Int), ((0 : Int), ((0 : Int), ((0 : Int), ((0 : Int), ()))))))).1)) (some false) (k_l2 x0 x5 x6 (W .i64 (x7 + 1)))) (none)) (k_l2 x0 x5 x6 (W .i64 (x7 + 1))))) (none)) (some (leB (List.length x0 : Int) 32))
def queue_Right.l2 (N : Nat) : Nat → queue_Right.t_l2
  | 0, _, _, _, _ => none
  | n + 1, x0, x5, x6, x7 => queue_Right.l2b N (queue_Right.l2 N n) x0 x5 x6 x7
def queue_Right.b (N : Nat) (s_l2 : queue_Right.t_l2) (a0 : List (Ty.den tI6)) : Option (Bool) :=
  s_l2 a0 a0 (List.length a0 : Int) (0 : Int)
def queue_Right (N : Nat) (a0 : List (Ty.den tI6)) : Option (Bool) := queue_Right.b N (queue_Right.l2 N N) a0

abbrev roll_Find.t_l4 := Int → Ty.den tI4 → (List (Ty.den tI4)) → Int → Int → Option ((Ty.den tI4) × (Bool))
def roll_Find.l4b (N : Nat) (k_l4 : roll_Find.t_l4) (x1 : Int) (x4 : Ty.den tI4) (x12 : List (Ty.den tI4)) (x13 : Int) (x14 : Int) : Option ((Ty.den tI4) × (Bool)) :=
  cond (ltB x14 x13) (cond (inb x14 (List.length x12)) (cond (eqB ((List.getD x12 x14.toNat ((0 : Int), ((0 : Int), ((0 : Int), ((0 : Int), ()))))).1) x1) (some (List.getD x12 x14.toNat ((0 : Int), ((0 : Int), ((0 : Int), ((0 : Int), ())))), true)) (k_l4 x1 x4 x12 x13 (W .i64 (x14 + 1)))) (none)) (some (((0 : Int), ((0 : Int), ((0 : Int), ((0 : Int), ())))), false))
def roll_Find.l4 (N : Nat) : Nat → roll_Find.t_l4
  | 0, _, _, _, _, _ => none
  | n + 1, x1, x4, x12, x13, x14 => roll_Find.l4b N (roll_Find.l4 N n) x1 x4 x12 x13 x14
def roll_Find.b (N : Nat) (s_l4 : roll_Find.t_l4) (a0 : List (Ty.den tI4)) (a1 : Int) : Option ((Ty.den tI4) × (Bool)) :=
  (roll_Accs N a0).bind fun r1 => cond (!r1) (some (((0 : Int), ((0 : Int), ((0 : Int), ((0 : Int), ())))), false)) (s_l4 a1 ((0 : Int), ((0 : Int), ((0 : Int), ((0 : Int), ())))) a0 (List.length a0 : Int) (0 : Int))
def roll_Find (N : Nat) (a0 : List (Ty.den tI4)) (a1 : Int) : Option ((Ty.den tI4) × (Bool)) := roll_Find.b N (roll_Find.l4 N N) a0 a1

def book_Acc (N : Nat) (a0 : Ty.den tBook) (a1 : Int) : Option (Bool) :=
  (roll_Find N a0.2.1 a1).bind fun r1 => some r1.2

def mark_Price (N : Nat) (a0 : Int) : Option (Bool) :=
  cond (leB 1 a0) (some (leB a0 1000000000000)) (some false)

def book_Right_1 (N : Nat) (a0 : Int) : Option (Bool) :=
  (mark_Price N a0).bind fun r1 => some (!r1)

abbrev slices_IndexFunc_int64__book_Right_1.t_l2 := (List (Int)) → Unit → Int → Int → Option (Int)
def slices_IndexFunc_int64__book_Right_1.l2b (N : Nat) (k_l2 : slices_IndexFunc_int64__book_Right_1.t_l2) (x0 : List (Int)) (x1 : Unit) (x7 : Int) (x8 : Int) : Option (Int) :=
  cond (ltB x8 x7) (cond (inb x8 (List.length x0)) ((book_Right_1 N (List.getD x0 x8.toNat (0 : Int))).bind fun r2 => cond (r2) (some x8) (k_l2 x0 () x7 (W .i64 (x8 + 1)))) (none)) (some (-1 : Int))
def slices_IndexFunc_int64__book_Right_1.l2 (N : Nat) : Nat → slices_IndexFunc_int64__book_Right_1.t_l2
  | 0, _, _, _, _ => none
  | n + 1, x0, x1, x7, x8 => slices_IndexFunc_int64__book_Right_1.l2b N (slices_IndexFunc_int64__book_Right_1.l2 N n) x0 x1 x7 x8
def slices_IndexFunc_int64__book_Right_1.b (N : Nat) (s_l2 : slices_IndexFunc_int64__book_Right_1.t_l2) (a0 : List (Int)) (a1 : Unit) : Option (Int) :=
  s_l2 a0 () (List.length a0 : Int) (0 : Int)
def slices_IndexFunc_int64__book_Right_1 (N : Nat) (a0 : List (Int)) (a1 : Unit) : Option (Int) := slices_IndexFunc_int64__book_Right_1.b N (slices_IndexFunc_int64__book_Right_1.l2 N N) a0 a1

def slices_ContainsFunc_int64__book_Right_1 (N : Nat) (a0 : List (Int)) (a1 : Unit) : Option (Bool) :=
  (slices_IndexFunc_int64__book_Right_1 N a0 ()).bind fun r1 => some (leB 0 r1)

abbrev book_Right.t_l22 := Ty.den tConfig → Ty.den tBook → (List (Ty.den tI6)) → Int → Int → Option (Bool)
abbrev book_Right.t_l16 := Ty.den tConfig → Ty.den tBook → (List (Ty.den tI3)) → Int → Int → Option (Bool)
abbrev book_Right.t_l4 := Ty.den tConfig → Ty.den tBook → (List (Ty.den tI3)) → Int → Int → Option (Bool)
def book_Right.l22b (N : Nat) (k_l22 : book_Right.t_l22) (x2 : Ty.den tConfig) (x3 : Ty.den tBook) (x109 : List (Ty.den tI6)) (x110 : Int) (x111 : Int) : Option (Bool) :=
  cond (ltB x111 x110) (cond (inb x111 (List.length x109)) ((book_Acc N x3 (((List.getD x109 x111.toNat ((0 : Int), ((0 : Int), ((0 : Int), ((0 : Int), ((0 : Int), ((0 : Int), ()))))))).2).1)).bind fun r21 => cond (!r21) (some false) (cond (leB (List.length x2.1 : Int) ((((List.getD x109 x111.toNat ((0 : Int), ((0 : Int), ((0 : Int), ((0 : Int), ((0 : Int), ((0 : Int), ()))))))).2).2).1)) (some false) (k_l22 x2 x3 x109 x110 (W .i64 (x111 + 1))))) (none)) ((slices_ContainsFunc_int64__book_Right_1 N x3.2.2.2.2.1 ()).bind fun r23 => some (!r23))
def book_Right.l22 (N : Nat) : Nat → book_Right.t_l22
  | 0, _, _, _, _, _ => none
  | n + 1, x2, x3, x109, x110, x111 => book_Right.l22b N (book_Right.l22 N n) x2 x3 x109 x110 x111
def book_Right.l16b (N : Nat) (s_l22 : book_Right.t_l22) (k_l16 : book_Right.t_l16) (x2 : Ty.den tConfig) (x3 : Ty.den tBook) (x83 : List (Ty.den tI3)) (x84 : Int) (x85 : Int) : Option (Bool) :=
  cond (ltB x85 x84) (cond (inb x85 (List.length x83)) (cond (!eqB ((List.getD x83 x85.toNat ((0 : Int), ((0 : Int), ((0 : Int), ())))).1) (0 : Int)) ((book_Acc N x3 ((List.getD x83 x85.toNat ((0 : Int), ((0 : Int), ((0 : Int), ())))).1)).bind fun r17 => cond (!r17) (some false) (cond (leB (List.length x2.1 : Int) (((List.getD x83 x85.toNat ((0 : Int), ((0 : Int), ((0 : Int), ())))).2).1)) (some false) (k_l16 x2 x3 x83 x84 (W .i64 (x85 + 1))))) (cond (leB (List.length x2.1 : Int) (((List.getD x83 x85.toNat ((0 : Int), ((0 : Int), ((0 : Int), ())))).2).1)) (some false) (k_l16 x2 x3 x83 x84 (W .i64 (x85 + 1))))) (none)) (s_l22 x2 x3 x3.2.2.2.2.2.1 (List.length x3.2.2.2.2.2.1 : Int) (0 : Int))
def book_Right.l16 (N : Nat) : Nat → book_Right.t_l16
  | 0, _, _, _, _, _ => none
  | n + 1, x2, x3, x83, x84, x85 => book_Right.l16b N (book_Right.l22 N N) (book_Right.l16 N n) x2 x3 x83 x84 x85
def book_Right.l4b (N : Nat) (s_l16 : book_Right.t_l16) (k_l4 : book_Right.t_l4) (x2 : Ty.den tConfig) (x3 : Ty.den tBook) (x57 : List (Ty.den tI3)) (x58 : Int) (x59 : Int) : Option (Bool) :=
  cond (ltB x59 x58) (cond (inb x59 (List.length x57)) (cond (eqB ((List.getD x57 x59.toNat ((0 : Int), ((0 : Int), ((0 : Int), ())))).1) (5 : Int)) ((book_Acc N x3 (((List.getD x57 x59.toNat ((0 : Int), ((0 : Int), ((0 : Int), ())))).2).1)).bind fun r9 => cond (!r9) (some false) (k_l4 x2 x3 x57 x58 (W .i64 (x59 + 1)))) (cond (eqB ((List.getD x57 x59.toNat ((0 : Int), ((0 : Int), ((0 : Int), ())))).1) (6 : Int)) ((roll_Status N x3.1 (((List.getD x57 x59.toNat ((0 : Int), ((0 : Int), ((0 : Int), ())))).2).1)).bind fun r11 => cond (eqB r11 0) (some false) (k_l4 x2 x3 x57 x58 (W .i64 (x59 + 1)))) (cond (eqB ((List.getD x57 x59.toNat ((0 : Int), ((0 : Int), ((0 : Int), ())))).1) (7 : Int)) ((roll_Status N x3.1 (((List.getD x57 x59.toNat ((0 : Int), ((0 : Int), ((0 : Int), ())))).2).1)).bind fun r13 => cond (eqB r13 0) (some false) (k_l4 x2 x3 x57 x58 (W .i64 (x59 + 1)))) (k_l4 x2 x3 x57 x58 (W .i64 (x59 + 1)))))) (none)) (s_l16 x2 x3 x3.2.2.2.1 (List.length x3.2.2.2.1 : Int) (0 : Int))
def book_Right.l4 (N : Nat) : Nat → book_Right.t_l4
  | 0, _, _, _, _, _ => none
  | n + 1, x2, x3, x57, x58, x59 => book_Right.l4b N (book_Right.l16 N N) (book_Right.l4 N n) x2 x3 x57 x58 x59
def book_Right.b (N : Nat) (s_l4 : book_Right.t_l4) (a0 : Ty.den tConfig) (a1 : Ty.den tBook) : Option (Bool) :=
  (plan_Right N a0).bind fun r1 => cond (!r1) (some false) ((roll_Right N a1.1 a1.2.1).bind fun r2 => cond (!r2) (some false) ((ledger_Right N a1.2.2.1).bind fun r3 => cond (!r3) (some false) ((ledger_Total N a1.2.2.1).bind fun r4 => (wide_Sign N r4).bind fun r5 => cond (!eqB r5 0) (some false) ((stock_Flat N a1.2.2.2.1).bind fun r6 => cond (!r6) (some false) ((queue_Right N a1.2.2.2.2.2.1).bind fun r7 => cond (!r7) (some false) (cond (!eqB (List.length a1.2.2.2.2.1 : Int) (List.length a0.1 : Int)) (some false) (s_l4 a0 a1 a1.2.2.1 (List.length a1.2.2.1 : Int) (0 : Int))))))))
def book_Right (N : Nat) (a0 : Ty.den tConfig) (a1 : Ty.den tBook) : Option (Bool) := book_Right.b N (book_Right.l4 N N) a0 a1

abbrev need_Legs.t_l2 := (List (Ty.den tI2)) → Ty.den tConfig → (List (Ty.den tI2)) → Int → Int → Option (Bool)
def need_Legs.l2b (N : Nat) (k_l2 : need_Legs.t_l2) (x1 : List (Ty.den tI2)) (x2 : Ty.den tConfig) (x7 : List (Ty.den tI2)) (x8 : Int) (x9 : Int) : Option (Bool) :=
  cond (ltB x9 x8) (cond (inb x9 (List.length x7)) (cond (ltB ((List.getD x7 x9.toNat ((0 : Int), ((0 : Int), ()))).1) (0 : Int)) (some false) (cond (leB (List.length x2.1 : Int) ((List.getD x7 x9.toNat ((0 : Int), ((0 : Int), ()))).1)) (some false) (cond (eqB (((List.getD x7 x9.toNat ((0 : Int), ((0 : Int), ()))).2).1) (0 : Int)) (some false) ((stock_Quantity N (((List.getD x7 x9.toNat ((0 : Int), ((0 : Int), ()))).2).1)).bind fun r2 => cond (!r2) (some false) (cond (ltB 0 x9) (let v3 : Int := W .i64 (x9 - 1); cond (inb v3 (List.length x1)) (cond (leB ((List.getD x7 x9.toNat ((0 : Int), ((0 : Int), ()))).1) ((List.getD x1 v3.toNat ((0 : Int), ((0 : Int), ()))).1)) (some false) (k_l2 x1 x2 x7 x8 (W .i64 (x9 + 1)))) (none)) (k_l2 x1 x2 x7 x8 (W .i64 (x9 + 1)))))))) (none)) ((plan_Right N x2).bind fun r6 => some r6)
def need_Legs.l2 (N : Nat) : Nat → need_Legs.t_l2
  | 0, _, _, _, _, _ => none
  | n + 1, x1, x2, x7, x8, x9 => need_Legs.l2b N (need_Legs.l2 N n) x1 x2 x7 x8 x9
def need_Legs.b (N : Nat) (s_l2 : need_Legs.t_l2) (a0 : Ty.den tConfig) (a1 : List (Ty.den tI2)) : Option (Bool) :=
  s_l2 a1 a0 a1 (List.length a1 : Int) (0 : Int)
def need_Legs (N : Nat) (a0 : Ty.den tConfig) (a1 : List (Ty.den tI2)) : Option (Bool) := need_Legs.b N (need_Legs.l2 N N) a0 a1

abbrev lot_Right.t_j8 := (List (Ty.den tLot)) → Ty.den tConfig → Ty.den tLot → (List (Ty.den tLot)) → Int → Int → Option (Bool)
abbrev lot_Right.t_l4 := (List (Ty.den tLot)) → Ty.den tConfig → (List (Ty.den tLot)) → Int → Int → Option (Bool)
def lot_Right.j8b (N : Nat) (k_l4 : lot_Right.t_l4) (x1 : List (Ty.den tLot)) (x2 : Ty.den tConfig) (x6 : Ty.den tLot) (x15 : List (Ty.den tLot)) (x16 : Int) (x17 : Int) : Option (Bool) :=
  cond (eqB x6.2.2.2.1 1) (cond (!eqB x6.2.2.2.2.1 0) (some false) (cond (!eqB x6.2.2.2.2.2.1 0) (some false) (k_l4 x1 x2 x15 x16 (W .i64 (x17 + 1))))) (cond (eqB x6.2.2.2.1 3) (cond (!eqB x6.2.2.2.2.1 0) (some false) (cond (!eqB x6.2.2.2.2.2.1 0) (some false) (k_l4 x1 x2 x15 x16 (W .i64 (x17 + 1))))) (cond (eqB x6.2.2.2.1 2) (cond (ltB x6.2.2.2.2.1 1) (some false) (cond (ltB 12 x6.2.2.2.2.1) (some false) (cond (ltB x6.2.2.2.2.2.1 (-1152921504606846976)) (some false) (cond (ltB 1152921504606846976 x6.2.2.2.2.2.1) (some false) (k_l4 x1 x2 x15 x16 (W .i64 (x17 + 1))))))) (some false)))
def lot_Right.j8 (N : Nat) (k_l4 : lot_Right.t_l4) (x1 : List (Ty.den tLot)) (x2 : Ty.den tConfig) (x6 : Ty.den tLot) (x15 : List (Ty.den tLot)) (x16 : Int) (x17 : Int) : Option (Bool) := lot_Right.j8b N k_l4 x1 x2 x6 x15 x16 x17
def lot_Right.l4b (N : Nat) (s_j8 : lot_Right.t_j8) (k_l4 : lot_Right.t_l4) (x1 : List (Ty.den tLot)) (x2 : Ty.den tConfig) (x15 : List (Ty.den tLot)) (x16 : Int) (x17 : Int) : Option (Bool) :=
  cond (ltB x17 x16) (cond (inb x17 (List.length x15)) (cond (ltB ((List.getD x15 x17.toNat ((0 : Int), (([] : List ((Int) × ((Int) × (Unit)))), ((0 : Int), ((0 : Int), ((0 : Int), ((0 : Int), ()))))))).1) (1 : Int)) (some false) (cond (ltB 1099511627776 ((List.getD x15 x17.toNat ((0 : Int), (([] : List ((Int) × ((Int) × (Unit)))), ((0 : Int), ((0 : Int), ((0 : Int), ((0 : Int), ()))))))).1)) (some false) (cond (ltB 0 x17) (let v3 : Int := W .i64 (x17 - 1); cond (inb v3 (List.length x1)) (cond (leB ((List.getD x15 x17.toNat ((0 : Int), (([] : List ((Int) × ((Int) × (Unit)))), ((0 : Int), ((0 : Int), ((0 : Int), ((0 : Int), ()))))))).1) ((List.getD x1 v3.toNat ((0 : Int), (([] : List ((Int) × ((Int) × (Unit)))), ((0 : Int), ((0 : Int), ((0 : Int), ((0 : Int), ()))))))).1)) (some false) (cond (eqB (List.length (((List.getD x15 x17.toNat ((0 : Int), (([] : List ((Int) × ((Int) × (Unit)))), ((0 : Int), ((0 : Int), ((0 : Int), ((0 : Int), ()))))))).2).1) : Int) (0 : Int)) (some false) ((need_Legs N x2 (((List.getD x15 x17.toNat ((0 : Int), (([] : List ((Int) × ((Int) × (Unit)))), ((0 : Int), ((0 : Int), ((0 : Int), ((0 : Int), ()))))))).2).1)).bind fun r4 => cond (!r4) (some false) (cond (ltB 0 ((((List.getD x15 x17.toNat ((0 : Int), (([] : List ((Int) × ((Int) × (Unit)))), ((0 : Int), ((0 : Int), ((0 : Int), ((0 : Int), ()))))))).2).2).1)) (some false) (s_j8 x1 x2 (List.getD x15 x17.toNat ((0 : Int), (([] : List ((Int) × ((Int) × (Unit)))), ((0 : Int), ((0 : Int), ((0 : Int), ((0 : Int), ()))))))) x15 x16 x17))))) (none)) (cond (eqB (List.length (((List.getD x15 x17.toNat ((0 : Int), (([] : List ((Int) × ((Int) × (Unit)))), ((0 : Int), ((0 : Int), ((0 : Int), ((0 : Int), ()))))))).2).1) : Int) (0 : Int)) (some false) ((need_Legs N x2 (((List.getD x15 x17.toNat ((0 : Int), (([] : List ((Int) × ((Int) × (Unit)))), ((0 : Int), ((0 : Int), ((0 : Int), ((0 : Int), ()))))))).2).1)).bind fun r9 => cond (!r9) (some false) (cond (ltB 0 ((((List.getD x15 x17.toNat ((0 : Int), (([] : List ((Int) × ((Int) × (Unit)))), ((0 : Int), ((0 : Int), ((0 : Int), ((0 : Int), ()))))))).2).2).1)) (some false) (s_j8 x1 x2 (List.getD x15 x17.toNat ((0 : Int), (([] : List ((Int) × ((Int) × (Unit)))), ((0 : Int), ((0 : Int), ((0 : Int), ((0 : Int), ()))))))) x15 x16 x17))))))) (none)) (some true)
def lot_Right.l4 (N : Nat) : Nat → lot_Right.t_l4
  | 0, _, _, _, _, _ => none
  | n + 1, x1, x2, x15, x16, x17 => lot_Right.l4b N (lot_Right.j8 N (lot_Right.l4 N n)) (lot_Right.l4 N n) x1 x2 x15 x16 x17
def lot_Right.b (N : Nat) (s_l4 : lot_Right.t_l4) (a0 : Ty.den tConfig) (a1 : List (Ty.den tLot)) : Option (Bool) :=
  (plan_Right N a0).bind fun r1 => cond (!r1) (some false) (cond (ltB 12 (List.length a1 : Int)) (some false) (s_l4 a1 a0 a1 (List.length a1 : Int) (0 : Int)))
def lot_Right (N : Nat) (a0 : Ty.den tConfig) (a1 : List (Ty.den tLot)) : Option (Bool) := lot_Right.b N (lot_Right.l4 N N) a0 a1

abbrev award_Copy.t_l3 := (List (Ty.den tLot)) → Int → Int → Option (List (Ty.den tLot))
def award_Copy.l3b (N : Nat) (k_l3 : award_Copy.t_l3) (x3 : List (Ty.den tLot)) (x8 : Int) (x9 : Int) : Option (List (Ty.den tLot)) :=
  cond (ltB x9 x8) (cond (inb x9 (List.length x3)) ((cloneL N (((List.getD x3 x9.toNat ((0 : Int), (([] : List ((Int) × ((Int) × (Unit)))), ((0 : Int), ((0 : Int), ((0 : Int), ((0 : Int), ()))))))).2).1)).bind fun r3 => cond (inb x9 (List.length x3)) (k_l3 (List.set x3 x9.toNat ((List.getD x3 x9.toNat ((0 : Int), (([] : List ((Int) × ((Int) × (Unit)))), ((0 : Int), ((0 : Int), ((0 : Int), ((0 : Int), ()))))))).1, (r3, ((List.getD x3 x9.toNat ((0 : Int), (([] : List ((Int) × ((Int) × (Unit)))), ((0 : Int), ((0 : Int), ((0 : Int), ((0 : Int), ()))))))).2).2))) x8 (W .i64 (x9 + 1))) (none)) (none)) (some x3)
def award_Copy.l3 (N : Nat) : Nat → award_Copy.t_l3
  | 0, _, _, _ => none
  | n + 1, x3, x8, x9 => award_Copy.l3b N (award_Copy.l3 N n) x3 x8 x9
def award_Copy.b (N : Nat) (s_l3 : award_Copy.t_l3) (a0 : List (Ty.den tLot)) : Option (List (Ty.den tLot)) :=
  (cloneL N a0).bind fun r1 => s_l3 r1 (List.length r1 : Int) (0 : Int)
def award_Copy (N : Nat) (a0 : List (Ty.den tLot)) : Option (List (Ty.den tLot)) := award_Copy.b N (award_Copy.l3 N N) a0

abbrev roll_House.t_l4 := Int → (List (Ty.den tI4)) → Int → Int → Option (Int)
def roll_House.l4b (N : Nat) (k_l4 : roll_House.t_l4) (x1 : Int) (x10 : List (Ty.den tI4)) (x11 : Int) (x12 : Int) : Option (Int) :=
  cond (ltB x12 x11) (cond (inb x12 (List.length x10)) (cond (eqB (((List.getD x10 x12.toNat ((0 : Int), ((0 : Int), ((0 : Int), ((0 : Int), ()))))).2).1) x1) (cond (eqB ((((List.getD x10 x12.toNat ((0 : Int), ((0 : Int), ((0 : Int), ((0 : Int), ()))))).2).2).1) (1 : Int)) (some ((List.getD x10 x12.toNat ((0 : Int), ((0 : Int), ((0 : Int), ((0 : Int), ()))))).1)) (k_l4 x1 x10 x11 (W .i64 (x12 + 1)))) (k_l4 x1 x10 x11 (W .i64 (x12 + 1)))) (none)) (some (0 : Int))
def roll_House.l4 (N : Nat) : Nat → roll_House.t_l4
  | 0, _, _, _, _ => none
  | n + 1, x1, x10, x11, x12 => roll_House.l4b N (roll_House.l4 N n) x1 x10 x11 x12
def roll_House.b (N : Nat) (s_l4 : roll_House.t_l4) (a0 : List (Ty.den tI4)) (a1 : Int) : Option (Int) :=
  (roll_Accs N a0).bind fun r1 => cond (!r1) (some (0 : Int)) (s_l4 a1 a0 (List.length a0 : Int) (0 : Int))
def roll_House (N : Nat) (a0 : List (Ty.den tI4)) (a1 : Int) : Option (Int) := roll_House.b N (roll_House.l4 N N) a0 a1

def book_Copy (N : Nat) (a0 : Ty.den tBook) : Option (Ty.den tBook) :=
  (cloneL N a0.1).bind fun r1 => (cloneL N a0.2.1).bind fun r2 => (cloneL N a0.2.2.1).bind fun r3 => (cloneL N a0.2.2.2.1).bind fun r4 => (cloneL N a0.2.2.2.2.1).bind fun r5 => (cloneL N a0.2.2.2.2.2.1).bind fun r6 => some (r1, (r2, (r3, (r4, (r5, (r6, ()))))))

abbrev stock_flat.t_l6 := (List (Ty.den tI3)) → Int → (List (Ty.den tWide)) → Int → (List (Ty.den tI3)) → Int → Int → Option (Bool)
abbrev stock_flat.t_l2 := (List (Ty.den tI3)) → Int → Option (Bool)
def stock_flat.l6b (N : Nat) (k_l2 : stock_flat.t_l2) (k_l6 : stock_flat.t_l6) (x0 : List (Ty.den tI3)) (x3 : Int) (x4 : List (Ty.den tWide)) (x9 : Int) (x12 : List (Ty.den tI3)) (x13 : Int) (x14 : Int) : Option (Bool) :=
  cond (ltB x14 x13) (cond (inb x14 (List.length x12)) (cond (eqB (((List.getD x12 x14.toNat ((0 : Int), ((0 : Int), ((0 : Int), ())))).2).1) x3) ((wide_Of N ((((List.getD x12 x14.toNat ((0 : Int), ((0 : Int), ((0 : Int), ())))).2).2).1)).bind fun r3 => cond (small (List.length x4 + List.length ([r3]))) (k_l6 x0 x3 (x4 ++ ([r3])) x9 x12 x13 (W .i64 (x14 + 1))) (none)) (k_l6 x0 x3 x4 x9 x12 x13 (W .i64 (x14 + 1)))) (none)) ((wide_Sum N x4).bind fun r7 => cond (!r7.2) (some false) ((wide_Sign N r7.1).bind fun r8 => cond (!eqB r8 0) (some false) (k_l2 x0 (W .i64 (x9 + 1)))))
def stock_flat.l6 (N : Nat) (k_l2 : stock_flat.t_l2) : Nat → stock_flat.t_l6
  | 0, _, _, _, _, _, _, _ => none
  | n + 1, x0, x3, x4, x9, x12, x13, x14 => stock_flat.l6b N k_l2 (stock_flat.l6 N k_l2 n) x0 x3 x4 x9 x12 x13 x14
def stock_flat.l2b (N : Nat) (s_l6 : stock_flat.t_l6) (k_l2 : stock_flat.t_l2) (x0 : List (Ty.den tI3)) (x9 : Int) : Option (Bool) :=
  cond (ltB x9 6) (s_l6 x0 x9 ([]) x9 x0 (List.length x0 : Int) (0 : Int)) (some true)
def stock_flat.l2 (N : Nat) : Nat → stock_flat.t_l2
  | 0, _, _ => none
  | n + 1, x0, x9 => stock_flat.l2b N (stock_flat.l6 N (stock_flat.l2 N n) N) (stock_flat.l2 N n) x0 x9
def stock_flat.b (N : Nat) (s_l2 : stock_flat.t_l2) (a0 : List (Ty.den tI3)) : Option (Bool) :=
  s_l2 a0 (0 : Int)
def stock_flat (N : Nat) (a0 : List (Ty.den tI3)) : Option (Bool) := stock_flat.b N (stock_flat.l2 N N) a0

def wide_Int (N : Nat) (a0 : Ty.den tWide) : Option ((Int) × (Bool)) :=
  cond (ltB 63 0) (none) (cond (!eqB a0.1 (shr .i64 (W .i64 a0.2.1) 63)) (some ((0 : Int), false)) (some ((W .i64 a0.2.1), true)))

def slices_Clip_Pos (N : Nat) (a0 : List (Ty.den tI3)) : Option (List (Ty.den tI3)) :=
  cond (okCut 0 (List.length a0 : Int) (List.length a0 : Int) (List.length a0 : Int)) (some (List.drop (0 : Int).toNat (List.take (List.length a0 : Int).toNat a0))) (none)

abbrev stock_Post.t_j18 := (List (Ty.den tI3)) → (List (Ty.den tI3)) → Ty.den tI3 → Int → (List (Ty.den tI3)) → Int → Int → Option ((List (Ty.den tI3)) × (Int))
abbrev stock_Post.t_l16 := (List (Ty.den tI3)) → (List (Ty.den tI3)) → Ty.den tI3 → Int → (List (Ty.den tI3)) → Int → Int → Option ((List (Ty.den tI3)) × (Int))
abbrev stock_Post.t_l27 := (List (Ty.den tI3)) → (List (Ty.den tI3)) → Ty.den tI3 → (List (Ty.den tWide)) → (List (Ty.den tI3)) → Int → Int → (List (Ty.den tI3)) → Int → Int → Option ((List (Ty.den tI3)) × (Int))
abbrev stock_Post.t_l23 := (List (Ty.den tI3)) → (List (Ty.den tI3)) → (List (Ty.den tI3)) → Int → Int → Option ((List (Ty.den tI3)) × (Int))
abbrev stock_Post.t_l13 := (List (Ty.den tI3)) → (List (Ty.den tI3)) → (List (Ty.den tI3)) → Int → Int → Option ((List (Ty.den tI3)) × (Int))
abbrev stock_Post.t_l4 := (List (Ty.den tI3)) → (List (Ty.den tI3)) → (List (Ty.den tI3)) → Int → Int → Option ((List (Ty.den tI3)) × (Int))
def stock_Post.j18b (N : Nat) (k_l13 : stock_Post.t_l13) (x1 : List (Ty.den tI3)) (x8 : List (Ty.den tI3)) (x10 : Ty.den tI3) (x11 : Int) (x54 : List (Ty.den tI3)) (x55 : Int) (x56 : Int) : Option ((List (Ty.den tI3)) × (Int)) :=
  cond (eqB x11 (List.length x8 : Int)) ((insertL N x8 x11 ([(x10.1, (x10.2.1, ((0 : Int), ())))])).bind fun r13 => k_l13 x1 r13 x54 x55 (W .i64 (x56 + 1))) (cond (inb x11 (List.length x8)) ((stock_order N x10.1 x10.2.1 (List.getD x8 x11.toNat ((0 : Int), ((0 : Int), ((0 : Int), ()))))).bind fun r15 => cond (!eqB r15 0) ((insertL N x8 x11 ([(x10.1, (x10.2.1, ((0 : Int), ())))])).bind fun r16 => k_l13 x1 r16 x54 x55 (W .i64 (x56 + 1))) (k_l13 x1 x8 x54 x55 (W .i64 (x56 + 1)))) (none))
def stock_Post.j18 (N : Nat) (k_l13 : stock_Post.t_l13) (x1 : List (Ty.den tI3)) (x8 : List (Ty.den tI3)) (x10 : Ty.den tI3) (x11 : Int) (x54 : List (Ty.den tI3)) (x55 : Int) (x56 : Int) : Option ((List (Ty.den tI3)) × (Int)) := stock_Post.j18b N k_l13 x1 x8 x10 x11 x54 x55 x56
def stock_Post.l16b (N : Nat) (s_j18 : stock_Post.t_j18) (k_l13 : stock_Post.t_l13) (k_l16 : stock_Post.t_l16) (x1 : List (Ty.den tI3)) (x8 : List (Ty.den tI3)) (x10 : Ty.den tI3) (x11 : Int) (x54 : List (Ty.den tI3)) (x55 : Int) (x56 : Int) : Option ((List (Ty.den tI3)) × (Int)) :=
  cond (ltB x11 (List.length x8 : Int)) (cond (inb x11 (List.length x8)) ((stock_order N x10.1 x10.2.1 (List.getD x8 x11.toNat ((0 : Int), ((0 : Int), ((0 : Int), ()))))).bind fun r10 => cond (ltB 0 r10) (k_l16 x1 x8 x10 (W .i64 (x11 + 1)) x54 x55 x56) (s_j18 x1 x8 x10 x11 x54 x55 x56)) (none)) (s_j18 x1 x8 x10 x11 x54 x55 x56)
def stock_Post.l16 (N : Nat) (k_l13 : stock_Post.t_l13) : Nat → stock_Post.t_l16
  | 0, _, _, _, _, _, _, _ => none
  | n + 1, x1, x8, x10, x11, x54, x55, x56 => stock_Post.l16b N (stock_Post.j18 N k_l13) k_l13 (stock_Post.l16 N k_l13 n) x1 x8 x10 x11 x54 x55 x56
def stock_Post.l27b (N : Nat) (k_l23 : stock_Post.t_l23) (k_l27 : stock_Post.t_l27) (x1 : List (Ty.den tI3)) (x12 : List (Ty.den tI3)) (x14 : Ty.den tI3) (x15 : List (Ty.den tWide)) (x107 : List (Ty.den tI3)) (x108 : Int) (x109 : Int) (x117 : List (Ty.den tI3)) (x118 : Int) (x119 : Int) : Option ((List (Ty.den tI3)) × (Int)) :=
  cond (ltB x119 x118) (cond (inb x119 (List.length x117)) (cond (eqB ((List.getD x117 x119.toNat ((0 : Int), ((0 : Int), ((0 : Int), ())))).1) x14.1) (cond (eqB (((List.getD x117 x119.toNat ((0 : Int), ((0 : Int), ((0 : Int), ())))).2).1) x14.2.1) ((wide_Of N ((((List.getD x117 x119.toNat ((0 : Int), ((0 : Int), ((0 : Int), ())))).2).2).1)).bind fun r23 => cond (small (List.length x15 + List.length ([r23]))) (k_l27 x1 x12 x14 (x15 ++ ([r23])) x107 x108 x109 x117 x118 (W .i64 (x119 + 1))) (none)) (k_l27 x1 x12 x14 x15 x107 x108 x109 x117 x118 (W .i64 (x119 + 1)))) (k_l27 x1 x12 x14 x15 x107 x108 x109 x117 x118 (W .i64 (x119 + 1)))) (none)) ((wide_Sum N x15).bind fun r28 => (wide_Int N r28.1).bind fun r29 => cond (!r29.2) (some (([] : List ((Int) × ((Int) × ((Int) × (Unit))))), (2 : Int))) ((stock_Quantity N r29.1).bind fun r30 => cond (!r30) (some (([] : List ((Int) × ((Int) × ((Int) × (Unit))))), (2 : Int))) (cond (!eqB r29.1 0) (cond (small (List.length x12 + List.length ([(x14.1, (x14.2.1, (r29.1, ())))]))) (k_l23 x1 (x12 ++ ([(x14.1, (x14.2.1, (r29.1, ())))])) x107 x108 (W .i64 (x109 + 1))) (none)) (k_l23 x1 x12 x107 x108 (W .i64 (x109 + 1))))))
def stock_Post.l27 (N : Nat) (k_l23 : stock_Post.t_l23) : Nat → stock_Post.t_l27
  | 0, _, _, _, _, _, _, _, _, _, _ => none
  | n + 1, x1, x12, x14, x15, x107, x108, x109, x117, x118, x119 => stock_Post.l27b N k_l23 (stock_Post.l27 N k_l23 n) x1 x12 x14 x15 x107 x108 x109 x117 x118 x119
def stock_Post.l23b (N : Nat) (s_l27 : stock_Post.t_l27) (k_l23 : stock_Post.t_l23) (x1 : List (Ty.den tI3)) (x12 : List (Ty.den tI3)) (x107 : List (Ty.den tI3)) (x108 : Int) (x109 : Int) : Option ((List (Ty.den tI3)) × (Int)) :=
  cond (ltB x109 x108) (cond (inb x109 (List.length x107)) ((wide_Of N ((((List.getD x107 x109.toNat ((0 : Int), ((0 : Int), ((0 : Int), ())))).2).2).1)).bind fun r21 => s_l27 x1 x12 (List.getD x107 x109.toNat ((0 : Int), ((0 : Int), ((0 : Int), ())))) ([r21]) x107 x108 x109 x1 (List.length x1 : Int) (0 : Int)) (none)) ((slices_Clip_Pos N x12).bind fun r34 => some (r34, (0 : Int)))
def stock_Post.l23 (N : Nat) : Nat → stock_Post.t_l23
  | 0, _, _, _, _, _ => none
  | n + 1, x1, x12, x107, x108, x109 => stock_Post.l23b N (stock_Post.l27 N (stock_Post.l23 N n) N) (stock_Post.l23 N n) x1 x12 x107 x108 x109
def stock_Post.l13b (N : Nat) (s_l16 : stock_Post.t_l16) (s_l23 : stock_Post.t_l23) (k_l13 : stock_Post.t_l13) (x1 : List (Ty.den tI3)) (x8 : List (Ty.den tI3)) (x54 : List (Ty.den tI3)) (x55 : Int) (x56 : Int) : Option ((List (Ty.den tI3)) × (Int)) :=
  cond (ltB x56 x55) (cond (inb x56 (List.length x54)) (s_l16 x1 x8 (List.getD x54 x56.toNat ((0 : Int), ((0 : Int), ((0 : Int), ())))) (0 : Int) x54 x55 x56) (none)) (cond (okMake 0 (List.length x8 : Int)) (s_l23 x1 (List.replicate (0 : Int).toNat ((0 : Int), ((0 : Int), ((0 : Int), ())))) x8 (List.length x8 : Int) (0 : Int)) (none))
def stock_Post.l13 (N : Nat) : Nat → stock_Post.t_l13
  | 0, _, _, _, _, _ => none
  | n + 1, x1, x8, x54, x55, x56 => stock_Post.l13b N (stock_Post.l16 N (stock_Post.l13 N n) N) (stock_Post.l23 N N) (stock_Post.l13 N n) x1 x8 x54 x55 x56
def stock_Post.l4b (N : Nat) (s_l13 : stock_Post.t_l13) (k_l4 : stock_Post.t_l4) (x0 : List (Ty.den tI3)) (x1 : List (Ty.den tI3)) (x30 : List (Ty.den tI3)) (x31 : Int) (x32 : Int) : Option ((List (Ty.den tI3)) × (Int)) :=
  cond (ltB x32 x31) (cond (inb x32 (List.length x30)) ((stock_key N ((List.getD x30 x32.toNat ((0 : Int), ((0 : Int), ((0 : Int), ())))).1) (((List.getD x30 x32.toNat ((0 : Int), ((0 : Int), ((0 : Int), ())))).2).1)).bind fun r3 => cond (!r3) (some (([] : List ((Int) × ((Int) × ((Int) × (Unit))))), (1 : Int))) ((stock_Quantity N ((((List.getD x30 x32.toNat ((0 : Int), ((0 : Int), ((0 : Int), ())))).2).2).1)).bind fun r4 => cond (!r4) (some (([] : List ((Int) × ((Int) × ((Int) × (Unit))))), (1 : Int))) (k_l4 x0 x1 x30 x31 (W .i64 (x32 + 1))))) (none)) ((stock_flat N x1).bind fun r6 => cond (!r6) (some (([] : List ((Int) × ((Int) × ((Int) × (Unit))))), (1 : Int))) ((cloneL N x0).bind fun r7 => s_l13 x1 r7 x1 (List.length x1 : Int) (0 : Int)))
def stock_Post.l4 (N : Nat) : Nat → stock_Post.t_l4
  | 0, _, _, _, _, _ => none
  | n + 1, x0, x1, x30, x31, x32 => stock_Post.l4b N (stock_Post.l13 N N) (stock_Post.l4 N n) x0 x1 x30 x31 x32
def stock_Post.b (N : Nat) (s_l4 : stock_Post.t_l4) (a0 : List (Ty.den tI3)) (a1 : List (Ty.den tI3)) : Option ((List (Ty.den tI3)) × (Int)) :=
  (stock_Right N a0).bind fun r1 => cond (!r1) (some (([] : List ((Int) × ((Int) × ((Int) × (Unit))))), (1 : Int))) (cond (ltB 400 (List.length a1 : Int)) (some (([] : List ((Int) × ((Int) × ((Int) × (Unit))))), (1 : Int))) (s_l4 a0 a1 a1 (List.length a1 : Int) (0 : Int)))
def stock_Post (N : Nat) (a0 : List (Ty.den tI3)) (a1 : List (Ty.den tI3)) : Option ((List (Ty.den tI3)) × (Int)) := stock_Post.b N (stock_Post.l4 N N) a0 a1

def slices_Clip_Row (N : Nat) (a0 : List (Ty.den tI3)) : Option (List (Ty.den tI3)) :=
  cond (okCut 0 (List.length a0 : Int) (List.length a0 : Int) (List.length a0 : Int)) (some (List.drop (0 : Int).toNat (List.take (List.length a0 : Int).toNat a0))) (none)

abbrev ledger_Post.t_j21 := (List (Ty.den tEntry)) → (List (Ty.den tI3)) → Ty.den tEntry → Int → (List (Ty.den tEntry)) → Int → Int → Option ((List (Ty.den tI3)) × (Int))
abbrev ledger_Post.t_l19 := (List (Ty.den tEntry)) → (List (Ty.den tI3)) → Ty.den tEntry → Int → (List (Ty.den tEntry)) → Int → Int → Option ((List (Ty.den tI3)) × (Int))
abbrev ledger_Post.t_l30 := (List (Ty.den tEntry)) → (List (Ty.den tI3)) → Ty.den tI3 → (List (Ty.den tWide)) → (List (Ty.den tI3)) → Int → Int → (List (Ty.den tEntry)) → Int → Int → Option ((List (Ty.den tI3)) × (Int))
abbrev ledger_Post.t_l26 := (List (Ty.den tEntry)) → (List (Ty.den tI3)) → (List (Ty.den tI3)) → Int → Int → Option ((List (Ty.den tI3)) × (Int))
abbrev ledger_Post.t_l16 := (List (Ty.den tEntry)) → (List (Ty.den tI3)) → (List (Ty.den tEntry)) → Int → Int → Option ((List (Ty.den tI3)) × (Int))
abbrev ledger_Post.t_l5 := (List (Ty.den tI3)) → (List (Ty.den tEntry)) → (List (Ty.den tWide)) → (List (Ty.den tEntry)) → Int → Int → Option ((List (Ty.den tI3)) × (Int))
def ledger_Post.j21b (N : Nat) (k_l16 : ledger_Post.t_l16) (x1 : List (Ty.den tEntry)) (x11 : List (Ty.den tI3)) (x13 : Ty.den tEntry) (x14 : Int) (x68 : List (Ty.den tEntry)) (x69 : Int) (x70 : Int) : Option ((List (Ty.den tI3)) × (Int)) :=
  cond (eqB x14 (List.length x11 : Int)) ((insertL N x11 x14 ([(x13.1, (x13.2.1, ((0 : Int), ())))])).bind fun r15 => k_l16 x1 r15 x68 x69 (W .i64 (x70 + 1))) (cond (inb x14 (List.length x11)) ((ledger_order N x13.1 x13.2.1 (List.getD x11 x14.toNat ((0 : Int), ((0 : Int), ((0 : Int), ()))))).bind fun r17 => cond (!eqB r17 0) ((insertL N x11 x14 ([(x13.1, (x13.2.1, ((0 : Int), ())))])).bind fun r18 => k_l16 x1 r18 x68 x69 (W .i64 (x70 + 1))) (k_l16 x1 x11 x68 x69 (W .i64 (x70 + 1)))) (none))
def ledger_Post.j21 (N : Nat) (k_l16 : ledger_Post.t_l16) (x1 : List (Ty.den tEntry)) (x11 : List (Ty.den tI3)) (x13 : Ty.den tEntry) (x14 : Int) (x68 : List (Ty.den tEntry)) (x69 : Int) (x70 : Int) : Option ((List (Ty.den tI3)) × (Int)) := ledger_Post.j21b N k_l16 x1 x11 x13 x14 x68 x69 x70
def ledger_Post.l19b (N : Nat) (s_j21 : ledger_Post.t_j21) (k_l16 : ledger_Post.t_l16) (k_l19 : ledger_Post.t_l19) (x1 : List (Ty.den tEntry)) (x11 : List (Ty.den tI3)) (x13 : Ty.den tEntry) (x14 : Int) (x68 : List (Ty.den tEntry)) (x69 : Int) (x70 : Int) : Option ((List (Ty.den tI3)) × (Int)) :=
  cond (ltB x14 (List.length x11 : Int)) (cond (inb x14 (List.length x11)) ((ledger_order N x13.1 x13.2.1 (List.getD x11 x14.toNat ((0 : Int), ((0 : Int), ((0 : Int), ()))))).bind fun r12 => cond (ltB 0 r12) (k_l19 x1 x11 x13 (W .i64 (x14 + 1)) x68 x69 x70) (s_j21 x1 x11 x13 x14 x68 x69 x70)) (none)) (s_j21 x1 x11 x13 x14 x68 x69 x70)
def ledger_Post.l19 (N : Nat) (k_l16 : ledger_Post.t_l16) : Nat → ledger_Post.t_l19
  | 0, _, _, _, _, _, _, _ => none
  | n + 1, x1, x11, x13, x14, x68, x69, x70 => ledger_Post.l19b N (ledger_Post.j21 N k_l16) k_l16 (ledger_Post.l19 N k_l16 n) x1 x11 x13 x14 x68 x69 x70
def ledger_Post.l30b (N : Nat) (k_l26 : ledger_Post.t_l26) (k_l30 : ledger_Post.t_l30) (x1 : List (Ty.den tEntry)) (x15 : List (Ty.den tI3)) (x17 : Ty.den tI3) (x18 : List (Ty.den tWide)) (x121 : List (Ty.den tI3)) (x122 : Int) (x123 : Int) (x131 : List (Ty.den tEntry)) (x132 : Int) (x133 : Int) : Option ((List (Ty.den tI3)) × (Int)) :=
  cond (ltB x133 x132) (cond (inb x133 (List.length x131)) (cond (eqB ((List.getD x131 x133.toNat ((0 : Int), ((0 : Int), (((0 : Int), ((0 : Int), ())), ())))).1) x17.1) (cond (eqB (((List.getD x131 x133.toNat ((0 : Int), ((0 : Int), (((0 : Int), ((0 : Int), ())), ())))).2).1) x17.2.1) (cond (small (List.length x18 + List.length ([(((List.getD x131 x133.toNat ((0 : Int), ((0 : Int), (((0 : Int), ((0 : Int), ())), ())))).2).2).1]))) (k_l30 x1 x15 x17 (x18 ++ ([(((List.getD x131 x133.toNat ((0 : Int), ((0 : Int), (((0 : Int), ((0 : Int), ())), ())))).2).2).1])) x121 x122 x123 x131 x132 (W .i64 (x133 + 1))) (none)) (k_l30 x1 x15 x17 x18 x121 x122 x123 x131 x132 (W .i64 (x133 + 1)))) (k_l30 x1 x15 x17 x18 x121 x122 x123 x131 x132 (W .i64 (x133 + 1)))) (none)) ((wide_Sum N x18).bind fun r29 => (wide_Int N r29.1).bind fun r30 => cond (!r29.2) (some (([] : List ((Int) × ((Int) × ((Int) × (Unit))))), (2 : Int))) (cond (!r30.2) (some (([] : List ((Int) × ((Int) × ((Int) × (Unit))))), (2 : Int))) (cond (!eqB r30.1 0) (cond (small (List.length x15 + List.length ([(x17.1, (x17.2.1, (r30.1, ())))]))) (k_l26 x1 (x15 ++ ([(x17.1, (x17.2.1, (r30.1, ())))])) x121 x122 (W .i64 (x123 + 1))) (none)) (k_l26 x1 x15 x121 x122 (W .i64 (x123 + 1))))))
def ledger_Post.l30 (N : Nat) (k_l26 : ledger_Post.t_l26) : Nat → ledger_Post.t_l30
  | 0, _, _, _, _, _, _, _, _, _, _ => none
  | n + 1, x1, x15, x17, x18, x121, x122, x123, x131, x132, x133 => ledger_Post.l30b N k_l26 (ledger_Post.l30 N k_l26 n) x1 x15 x17 x18 x121 x122 x123 x131 x132 x133
def ledger_Post.l26b (N : Nat) (s_l30 : ledger_Post.t_l30) (k_l26 : ledger_Post.t_l26) (x1 : List (Ty.den tEntry)) (x15 : List (Ty.den tI3)) (x121 : List (Ty.den tI3)) (x122 : Int) (x123 : Int) : Option ((List (Ty.den tI3)) × (Int)) :=
  cond (ltB x123 x122) (cond (inb x123 (List.length x121)) ((wide_Of N ((((List.getD x121 x123.toNat ((0 : Int), ((0 : Int), ((0 : Int), ())))).2).2).1)).bind fun r23 => s_l30 x1 x15 (List.getD x121 x123.toNat ((0 : Int), ((0 : Int), ((0 : Int), ())))) ([r23]) x121 x122 x123 x1 (List.length x1 : Int) (0 : Int)) (none)) ((slices_Clip_Row N x15).bind fun r34 => some (r34, (0 : Int)))
def ledger_Post.l26 (N : Nat) : Nat → ledger_Post.t_l26
  | 0, _, _, _, _, _ => none
  | n + 1, x1, x15, x121, x122, x123 => ledger_Post.l26b N (ledger_Post.l30 N (ledger_Post.l26 N n) N) (ledger_Post.l26 N n) x1 x15 x121 x122 x123
def ledger_Post.l16b (N : Nat) (s_l19 : ledger_Post.t_l19) (s_l26 : ledger_Post.t_l26) (k_l16 : ledger_Post.t_l16) (x1 : List (Ty.den tEntry)) (x11 : List (Ty.den tI3)) (x68 : List (Ty.den tEntry)) (x69 : Int) (x70 : Int) : Option ((List (Ty.den tI3)) × (Int)) :=
  cond (ltB x70 x69) (cond (inb x70 (List.length x68)) (s_l19 x1 x11 (List.getD x68 x70.toNat ((0 : Int), ((0 : Int), (((0 : Int), ((0 : Int), ())), ())))) (0 : Int) x68 x69 x70) (none)) (cond (okMake 0 (List.length x11 : Int)) (s_l26 x1 (List.replicate (0 : Int).toNat ((0 : Int), ((0 : Int), ((0 : Int), ())))) x11 (List.length x11 : Int) (0 : Int)) (none))
def ledger_Post.l16 (N : Nat) : Nat → ledger_Post.t_l16
  | 0, _, _, _, _, _ => none
  | n + 1, x1, x11, x68, x69, x70 => ledger_Post.l16b N (ledger_Post.l19 N (ledger_Post.l16 N n) N) (ledger_Post.l26 N N) (ledger_Post.l16 N n) x1 x11 x68 x69 x70
def ledger_Post.l5b (N : Nat) (s_l16 : ledger_Post.t_l16) (k_l5 : ledger_Post.t_l5) (x0 : List (Ty.den tI3)) (x1 : List (Ty.den tEntry)) (x6 : List (Ty.den tWide)) (x36 : List (Ty.den tEntry)) (x37 : Int) (x38 : Int) : Option ((List (Ty.den tI3)) × (Int)) :=
  cond (ltB x38 x37) (cond (inb x38 (List.length x36)) ((ledger_Key N ((List.getD x36 x38.toNat ((0 : Int), ((0 : Int), (((0 : Int), ((0 : Int), ())), ())))).1) (((List.getD x36 x38.toNat ((0 : Int), ((0 : Int), (((0 : Int), ((0 : Int), ())), ())))).2).1)).bind fun r4 => cond (!r4) (some (([] : List ((Int) × ((Int) × ((Int) × (Unit))))), (1 : Int))) (cond (small (List.length x6 + List.length ([(((List.getD x36 x38.toNat ((0 : Int), ((0 : Int), (((0 : Int), ((0 : Int), ())), ())))).2).2).1]))) (k_l5 x0 x1 (x6 ++ ([(((List.getD x36 x38.toNat ((0 : Int), ((0 : Int), (((0 : Int), ((0 : Int), ())), ())))).2).2).1])) x36 x37 (W .i64 (x38 + 1))) (none))) (none)) ((wide_Sum N x6).bind fun r7 => cond (!r7.2) (some (([] : List ((Int) × ((Int) × ((Int) × (Unit))))), (1 : Int))) ((wide_Sign N r7.1).bind fun r8 => cond (!eqB r8 0) (some (([] : List ((Int) × ((Int) × ((Int) × (Unit))))), (1 : Int))) ((cloneL N x0).bind fun r9 => s_l16 x1 r9 x1 (List.length x1 : Int) (0 : Int))))
def ledger_Post.l5 (N : Nat) : Nat → ledger_Post.t_l5
  | 0, _, _, _, _, _, _ => none
  | n + 1, x0, x1, x6, x36, x37, x38 => ledger_Post.l5b N (ledger_Post.l16 N N) (ledger_Post.l5 N n) x0 x1 x6 x36 x37 x38
def ledger_Post.b (N : Nat) (s_l5 : ledger_Post.t_l5) (a0 : List (Ty.den tI3)) (a1 : List (Ty.den tEntry)) : Option ((List (Ty.den tI3)) × (Int)) :=
  (ledger_Right N a0).bind fun r1 => cond (!r1) (some (([] : List ((Int) × ((Int) × ((Int) × (Unit))))), (1 : Int))) (cond (ltB 400 (List.length a1 : Int)) (some (([] : List ((Int) × ((Int) × ((Int) × (Unit))))), (1 : Int))) (cond (okMake 0 (List.length a1 : Int)) (s_l5 a0 a1 (List.replicate (0 : Int).toNat ((0 : Int), ((0 : Int), ()))) a1 (List.length a1 : Int) (0 : Int)) (none)))
def ledger_Post (N : Nat) (a0 : List (Ty.den tI3)) (a1 : List (Ty.den tEntry)) : Option ((List (Ty.den tI3)) × (Int)) := ledger_Post.b N (ledger_Post.l5 N N) a0 a1

def book_Moved (N : Nat) (a0 : Ty.den tBook) (a1 : List (Ty.den tI3)) (a2 : List (Ty.den tEntry)) : Option ((Ty.den tBook) × (Int)) :=
  (book_Copy N a0).bind fun r1 => (stock_Post N a0.2.2.2.1 a1).bind fun r2 => cond (!eqB r2.2 0) (some ((([] : List ((Int) × ((Int) × (Unit)))), (([] : List ((Int) × ((Int) × ((Int) × ((Int) × (Unit)))))), (([] : List ((Int) × ((Int) × ((Int) × (Unit))))), (([] : List ((Int) × ((Int) × ((Int) × (Unit))))), (([] : List (Int)), (([] : List ((Int) × ((Int) × ((Int) × ((Int) × ((Int) × ((Int) × (Unit)))))))), ())))))), r2.2)) ((ledger_Post N a0.2.2.1 a2).bind fun r3 => cond (!eqB r3.2 0) (some ((([] : List ((Int) × ((Int) × (Unit)))), (([] : List ((Int) × ((Int) × ((Int) × ((Int) × (Unit)))))), (([] : List ((Int) × ((Int) × ((Int) × (Unit))))), (([] : List ((Int) × ((Int) × ((Int) × (Unit))))), (([] : List (Int)), (([] : List ((Int) × ((Int) × ((Int) × ((Int) × ((Int) × ((Int) × (Unit)))))))), ())))))), r3.2)) (some ((r1.1, (r1.2.1, (r3.1, (r2.1, r1.2.2.2.2)))), (0 : Int))))

abbrev award_Award.t_l18 := (List (Ty.den tI4)) → Ty.den tBook → Ty.den tBook → (List (Ty.den tLot)) → (List (Ty.den tI3)) → (List (Ty.den tEntry)) → Ty.den tI4 → Int → (List (Ty.den tLot)) → Int → Int → (List (Ty.den tI2)) → Int → Int → Option ((Ty.den tBook) × (List (Ty.den tLot)) × (Int))
abbrev award_Award.t_l7 := (List (Ty.den tI4)) → Ty.den tBook → Ty.den tBook → (List (Ty.den tLot)) → (List (Ty.den tI3)) → (List (Ty.den tEntry)) → (List (Ty.den tLot)) → Int → Int → Option ((Ty.den tBook) × (List (Ty.den tLot)) × (Int))
def award_Award.l18b (N : Nat) (k_l7 : award_Award.t_l7) (k_l18 : award_Award.t_l18) (x3 : List (Ty.den tI4)) (x5 : Ty.den tBook) (x8 : Ty.den tBook) (x11 : List (Ty.den tLot)) (x12 : List (Ty.den tI3)) (x13 : List (Ty.den tEntry)) (x16 : Ty.den tI4) (x18 : Int) (x41 : List (Ty.den tLot)) (x42 : Int) (x43 : Int) (x97 : List (Ty.den tI2)) (x98 : Int) (x99 : Int) : Option ((Ty.den tBook) × (List (Ty.den tLot)) × (Int)) :=
  cond (ltB x99 x98) (cond (inb x99 (List.length x97)) (let v16 : Int := W .i64 (0 - (((List.getD x97 x99.toNat ((0 : Int), ((0 : Int), ()))).2).1)); cond (small (List.length x12 + List.length ([((0 : Int), ((List.getD x97 x99.toNat ((0 : Int), ((0 : Int), ()))).1, (v16, ()))), (x18, ((List.getD x97 x99.toNat ((0 : Int), ((0 : Int), ()))).1, (((List.getD x97 x99.toNat ((0 : Int), ((0 : Int), ()))).2).1, ())))]))) (k_l18 x3 x5 x8 x11 (x12 ++ ([((0 : Int), ((List.getD x97 x99.toNat ((0 : Int), ((0 : Int), ()))).1, (v16, ()))), (x18, ((List.getD x97 x99.toNat ((0 : Int), ((0 : Int), ()))).1, (((List.getD x97 x99.toNat ((0 : Int), ((0 : Int), ()))).2).1, ())))])) x13 x16 x18 x41 x42 x43 x97 x98 (W .i64 (x99 + 1))) (none)) (none)) ((wide_Of N (W .i64 (0 - x16.2.2.2.1))).bind fun r20 => (wide_Of N x16.2.2.2.1).bind fun r21 => cond (small (List.length x13 + List.length ([((5 : Int), (x18, (r20, ()))), ((2 : Int), ((0 : Int), (r21, ())))]))) (k_l7 x3 x5 x8 x11 x12 (x13 ++ ([((5 : Int), (x18, (r20, ()))), ((2 : Int), ((0 : Int), (r21, ())))])) x41 x42 (W .i64 (x43 + 1))) (none))
def award_Award.l18 (N : Nat) (k_l7 : award_Award.t_l7) : Nat → award_Award.t_l18
  | 0, _, _, _, _, _, _, _, _, _, _, _, _, _, _ => none
  | n + 1, x3, x5, x8, x11, x12, x13, x16, x18, x41, x42, x43, x97, x98, x99 => award_Award.l18b N k_l7 (award_Award.l18 N k_l7 n) x3 x5 x8 x11 x12 x13 x16 x18 x41 x42 x43 x97 x98 x99
def award_Award.l7b (N : Nat) (s_l18 : award_Award.t_l18) (k_l7 : award_Award.t_l7) (x3 : List (Ty.den tI4)) (x5 : Ty.den tBook) (x8 : Ty.den tBook) (x11 : List (Ty.den tLot)) (x12 : List (Ty.den tI3)) (x13 : List (Ty.den tEntry)) (x41 : List (Ty.den tLot)) (x42 : Int) (x43 : Int) : Option ((Ty.den tBook) × (List (Ty.den tLot)) × (Int)) :=
  cond (ltB x43 x42) (cond (inb x43 (List.length x41)) (cond (!eqB (((((List.getD x41 x43.toNat ((0 : Int), (([] : List ((Int) × ((Int) × (Unit)))), ((0 : Int), ((0 : Int), ((0 : Int), ((0 : Int), ()))))))).2).2).2).1) (1 : Int)) (k_l7 x3 x5 x8 x11 x12 x13 x41 x42 (W .i64 (x43 + 1))) ((award_Best N x3 ((List.getD x41 x43.toNat ((0 : Int), (([] : List ((Int) × ((Int) × (Unit)))), ((0 : Int), ((0 : Int), ((0 : Int), ((0 : Int), ()))))))).1)).bind fun r7 => cond (!r7.2) (cond (inb x43 (List.length x11)) (k_l7 x3 x5 x8 (List.set x11 x43.toNat ((List.getD x11 x43.toNat ((0 : Int), (([] : List ((Int) × ((Int) × (Unit)))), ((0 : Int), ((0 : Int), ((0 : Int), ((0 : Int), ()))))))).1, (((List.getD x11 x43.toNat ((0 : Int), (([] : List ((Int) × ((Int) × (Unit)))), ((0 : Int), ((0 : Int), ((0 : Int), ((0 : Int), ()))))))).2).1, ((((List.getD x11 x43.toNat ((0 : Int), (([] : List ((Int) × ((Int) × (Unit)))), ((0 : Int), ((0 : Int), ((0 : Int), ((0 : Int), ()))))))).2).2).1, ((3 : Int), ((((List.getD x11 x43.toNat ((0 : Int), (([] : List ((Int) × ((Int) × (Unit)))), ((0 : Int), ((0 : Int), ((0 : Int), ((0 : Int), ()))))))).2).2).2).2))))) x12 x13 x41 x42 (W .i64 (x43 + 1))) (none)) ((roll_House N x5.2.1 r7.1.2.2.1).bind fun r10 => (roll_Status N x5.1 r7.1.2.2.1).bind fun r11 => cond (eqB r11 0) (some ((([] : List ((Int) × ((Int) × (Unit)))), (([] : List ((Int) × ((Int) × ((Int) × ((Int) × (Unit)))))), (([] : List ((Int) × ((Int) × ((Int) × (Unit))))), (([] : List ((Int) × ((Int) × ((Int) × (Unit))))), (([] : List (Int)), (([] : List ((Int) × ((Int) × ((Int) × ((Int) × ((Int) × ((Int) × (Unit)))))))), ())))))), [], (3 : Int))) (cond (eqB r10 0) (some ((([] : List ((Int) × ((Int) × (Unit)))), (([] : List ((Int) × ((Int) × ((Int) × ((Int) × (Unit)))))), (([] : List ((Int) × ((Int) × ((Int) × (Unit))))), (([] : List ((Int) × ((Int) × ((Int) × (Unit))))), (([] : List (Int)), (([] : List ((Int) × ((Int) × ((Int) × ((Int) × ((Int) × ((Int) × (Unit)))))))), ())))))), [], (3 : Int))) (cond (inb x43 (List.length x11)) (let v12 : List ((Int) × ((List ((Int) × ((Int) × (Unit)))) × ((Int) × ((Int) × ((Int) × ((Int) × (Unit))))))) := List.set x11 x43.toNat ((List.getD x11 x43.toNat ((0 : Int), (([] : List ((Int) × ((Int) × (Unit)))), ((0 : Int), ((0 : Int), ((0 : Int), ((0 : Int), ()))))))).1, (((List.getD x11 x43.toNat ((0 : Int), (([] : List ((Int) × ((Int) × (Unit)))), ((0 : Int), ((0 : Int), ((0 : Int), ((0 : Int), ()))))))).2).1, ((((List.getD x11 x43.toNat ((0 : Int), (([] : List ((Int) × ((Int) × (Unit)))), ((0 : Int), ((0 : Int), ((0 : Int), ((0 : Int), ()))))))).2).2).1, ((2 : Int), ((((List.getD x11 x43.toNat ((0 : Int), (([] : List ((Int) × ((Int) × (Unit)))), ((0 : Int), ((0 : Int), ((0 : Int), ((0 : Int), ()))))))).2).2).2).2)))); cond (inb x43 (List.length v12)) (let v13 : List ((Int) × ((List ((Int) × ((Int) × (Unit)))) × ((Int) × ((Int) × ((Int) × ((Int) × (Unit))))))) := List.set v12 x43.toNat ((List.getD v12 x43.toNat ((0 : Int), (([] : List ((Int) × ((Int) × (Unit)))), ((0 : Int), ((0 : Int), ((0 : Int), ((0 : Int), ()))))))).1, (((List.getD v12 x43.toNat ((0 : Int), (([] : List ((Int) × ((Int) × (Unit)))), ((0 : Int), ((0 : Int), ((0 : Int), ((0 : Int), ()))))))).2).1, ((((List.getD v12 x43.toNat ((0 : Int), (([] : List ((Int) × ((Int) × (Unit)))), ((0 : Int), ((0 : Int), ((0 : Int), ((0 : Int), ()))))))).2).2).1, (((((List.getD v12 x43.toNat ((0 : Int), (([] : List ((Int) × ((Int) × (Unit)))), ((0 : Int), ((0 : Int), ((0 : Int), ((0 : Int), ()))))))).2).2).2).1, (r7.1.2.2.1, (((((List.getD v12 x43.toNat ((0 : Int), (([] : List ((Int) × ((Int) × (Unit)))), ((0 : Int), ((0 : Int), ((0 : Int), ((0 : Int), ()))))))).2).2).2).2).2))))); cond (inb x43 (List.length v13)) (s_l18 x3 x5 x8 (List.set v13 x43.toNat ((List.getD v13 x43.toNat ((0 : Int), (([] : List ((Int) × ((Int) × (Unit)))), ((0 : Int), ((0 : Int), ((0 : Int), ((0 : Int), ()))))))).1, (((List.getD v13 x43.toNat ((0 : Int), (([] : List ((Int) × ((Int) × (Unit)))), ((0 : Int), ((0 : Int), ((0 : Int), ((0 : Int), ()))))))).2).1, ((((List.getD v13 x43.toNat ((0 : Int), (([] : List ((Int) × ((Int) × (Unit)))), ((0 : Int), ((0 : Int), ((0 : Int), ((0 : Int), ()))))))).2).2).1, (((((List.getD v13 x43.toNat ((0 : Int), (([] : List ((Int) × ((Int) × (Unit)))), ((0 : Int), ((0 : Int), ((0 : Int), ((0 : Int), ()))))))).2).2).2).1, ((((((List.getD v13 x43.toNat ((0 : Int), (([] : List ((Int) × ((Int) × (Unit)))), ((0 : Int), ((0 : Int), ((0 : Int), ((0 : Int), ()))))))).2).2).2).2).1, (r7.1.2.2.2.1, ((((((List.getD v13 x43.toNat ((0 : Int), (([] : List ((Int) × ((Int) × (Unit)))), ((0 : Int), ((0 : Int), ((0 : Int), ((0 : Int), ()))))))).2).2).2).2).2).2))))))) x12 x13 r7.1 r10 x41 x42 x43 (((List.getD x41 x43.toNat ((0 : Int), (([] : List ((Int) × ((Int) × (Unit)))), ((0 : Int), ((0 : Int), ((0 : Int), ((0 : Int), ()))))))).2).1) (List.length (((List.getD x41 x43.toNat ((0 : Int), (([] : List ((Int) × ((Int) × (Unit)))), ((0 : Int), ((0 : Int), ((0 : Int), ((0 : Int), ()))))))).2).1) : Int) (0 : Int)) (none)) (none)) (none)))))) (none)) ((book_Moved N x5 x12 x13).bind fun r24 => cond (!eqB r24.2 0) (some ((([] : List ((Int) × ((Int) × (Unit)))), (([] : List ((Int) × ((Int) × ((Int) × ((Int) × (Unit)))))), (([] : List ((Int) × ((Int) × ((Int) × (Unit))))), (([] : List ((Int) × ((Int) × ((Int) × (Unit))))), (([] : List (Int)), (([] : List ((Int) × ((Int) × ((Int) × ((Int) × ((Int) × ((Int) × (Unit)))))))), ())))))), [], r24.2)) (some (r24.1, x11, (0 : Int))))
def award_Award.l7 (N : Nat) : Nat → award_Award.t_l7
  | 0, _, _, _, _, _, _, _, _, _ => none
  | n + 1, x3, x5, x8, x11, x12, x13, x41, x42, x43 => award_Award.l7b N (award_Award.l18 N (award_Award.l7 N n) N) (award_Award.l7 N n) x3 x5 x8 x11 x12 x13 x41 x42 x43
def award_Award.b (N : Nat) (s_l7 : award_Award.t_l7) (a0 : Ty.den tConfig) (a1 : Ty.den tBook) (a2 : List (Ty.den tLot)) (a3 : List (Ty.den tI4)) : Option ((Ty.den tBook) × (List (Ty.den tLot)) × (Int)) :=
  (book_Right N a0 a1).bind fun r1 => cond (!r1) (some ((([] : List ((Int) × ((Int) × (Unit)))), (([] : List ((Int) × ((Int) × ((Int) × ((Int) × (Unit)))))), (([] : List ((Int) × ((Int) × ((Int) × (Unit))))), (([] : List ((Int) × ((Int) × ((Int) × (Unit))))), (([] : List (Int)), (([] : List ((Int) × ((Int) × ((Int) × ((Int) × ((Int) × ((Int) × (Unit)))))))), ())))))), [], (1 : Int))) ((lot_Right N a0 a2).bind fun r2 => cond (!r2) (some ((([] : List ((Int) × ((Int) × (Unit)))), (([] : List ((Int) × ((Int) × ((Int) × ((Int) × (Unit)))))), (([] : List ((Int) × ((Int) × ((Int) × (Unit))))), (([] : List ((Int) × ((Int) × ((Int) × (Unit))))), (([] : List (Int)), (([] : List ((Int) × ((Int) × ((Int) × ((Int) × ((Int) × ((Int) × (Unit)))))))), ())))))), [], (1 : Int))) ((bid_Right N a3).bind fun r3 => cond (!r3) (some ((([] : List ((Int) × ((Int) × (Unit)))), (([] : List ((Int) × ((Int) × ((Int) × ((Int) × (Unit)))))), (([] : List ((Int) × ((Int) × ((Int) × (Unit))))), (([] : List ((Int) × ((Int) × ((Int) × (Unit))))), (([] : List (Int)), (([] : List ((Int) × ((Int) × ((Int) × ((Int) × ((Int) × ((Int) × (Unit)))))))), ())))))), [], (1 : Int))) ((award_Copy N a2).bind fun r4 => s_l7 a3 a1 (([] : List ((Int) × ((Int) × (Unit)))), (([] : List ((Int) × ((Int) × ((Int) × ((Int) × (Unit)))))), (([] : List ((Int) × ((Int) × ((Int) × (Unit))))), (([] : List ((Int) × ((Int) × ((Int) × (Unit))))), (([] : List (Int)), (([] : List ((Int) × ((Int) × ((Int) × ((Int) × ((Int) × ((Int) × (Unit)))))))), ())))))) r4 ([]) ([]) a2 (List.length a2 : Int) (0 : Int))))
def award_Award (N : Nat) (a0 : Ty.den tConfig) (a1 : Ty.den tBook) (a2 : List (Ty.den tLot)) (a3 : List (Ty.den tI4)) : Option ((Ty.den tBook) × (List (Ty.den tLot)) × (Int)) := award_Award.b N (award_Award.l7 N N) a0 a1 a2 a3

abbrev novationref10_Stock.t_l2 := (List (Ty.den tI3)) → Int → Option (Bool)
def novationref10_Stock.l2b (N : Nat) (k_l2 : novationref10_Stock.t_l2) (x0 : List (Ty.den tI3)) (x3 : Int) : Option (Bool) :=
  cond (ltB x3 (List.length x0 : Int)) (cond (inb x3 (List.length x0)) (cond (ltB ((List.getD x0 x3.toNat ((0 : Int), ((0 : Int), ((0 : Int), ())))).1) (0 : Int)) (some false) (cond (ltB 24 ((List.getD x0 x3.toNat ((0 : Int), ((0 : Int), ((0 : Int), ())))).1)) (some false) (cond (ltB (((List.getD x0 x3.toNat ((0 : Int), ((0 : Int), ((0 : Int), ())))).2).1) (0 : Int)) (some false) (cond (leB 6 (((List.getD x0 x3.toNat ((0 : Int), ((0 : Int), ((0 : Int), ())))).2).1)) (some false) (cond (eqB ((((List.getD x0 x3.toNat ((0 : Int), ((0 : Int), ((0 : Int), ())))).2).2).1) (0 : Int)) (some false) (cond (eqB ((((List.getD x0 x3.toNat ((0 : Int), ((0 : Int), ((0 : Int), ())))).2).2).1) (-9223372036854775808 : Int)) (some false) (cond (ltB 0 x3) (let v2 : Int := W .i64 (x3 - 1); cond (inb v2 (List.length x0)) (cond (ltB ((List.getD x0 x3.toNat ((0 : Int), ((0 : Int), ((0 : Int), ())))).1) ((List.getD x0 v2.toNat ((0 : Int), ((0 : Int), ((0 : Int), ())))).1)) (some false) (let v3 : Int := W .i64 (x3 - 1); cond (inb v3 (List.length x0)) (cond (eqB ((List.getD x0 x3.toNat ((0 : Int), ((0 : Int), ((0 : Int), ())))).1) ((List.getD x0 v3.toNat ((0 : Int), ((0 : Int), ((0 : Int), ())))).1)) (let v4 : Int := W .i64 (x3 - 1); cond (inb v4 (List.length x0)) (cond (leB (((List.getD x0 x3.toNat ((0 : Int), ((0 : Int), ((0 : Int), ())))).2).1) (((List.getD x0 v4.toNat ((0 : Int), ((0 : Int), ((0 : Int), ())))).2).1)) (some false) (k_l2 x0 (W .i64 (x3 + 1)))) (none)) (k_l2 x0 (W .i64 (x3 + 1)))) (none))) (none)) (k_l2 x0 (W .i64 (x3 + 1)))))))))) (none)) (some true)
def novationref10_Stock.l2 (N : Nat) : Nat → novationref10_Stock.t_l2
  | 0, _, _ => none
  | n + 1, x0, x3 => novationref10_Stock.l2b N (novationref10_Stock.l2 N n) x0 x3
def novationref10_Stock.b (N : Nat) (s_l2 : novationref10_Stock.t_l2) (a0 : List (Ty.den tI3)) : Option (Bool) :=
  s_l2 a0 (0 : Int)
def novationref10_Stock (N : Nat) (a0 : List (Ty.den tI3)) : Option (Bool) := novationref10_Stock.b N (novationref10_Stock.l2 N N) a0

abbrev novationref10_Held.t_l4 := (List (Ty.den tI3)) → Int → Int → Int → Option (Int)
def novationref10_Held.l4b (N : Nat) (k_l4 : novationref10_Held.t_l4) (x0 : List (Ty.den tI3)) (x1 : Int) (x2 : Int) (x7 : Int) : Option (Int) :=
  cond (ltB x7 (List.length x0 : Int)) (cond (inb x7 (List.length x0)) (cond (eqB ((List.getD x0 x7.toNat ((0 : Int), ((0 : Int), ((0 : Int), ())))).1) x1) (cond (inb x7 (List.length x0)) (cond (eqB (((List.getD x0 x7.toNat ((0 : Int), ((0 : Int), ((0 : Int), ())))).2).1) x2) (cond (inb x7 (List.length x0)) (some ((((List.getD x0 x7.toNat ((0 : Int), ((0 : Int), ((0 : Int), ())))).2).2).1)) (none)) (k_l4 x0 x1 x2 (W .i64 (x7 + 1)))) (none)) (k_l4 x0 x1 x2 (W .i64 (x7 + 1)))) (none)) (some (0 : Int))
def novationref10_Held.l4 (N : Nat) : Nat → novationref10_Held.t_l4
  | 0, _, _, _, _ => none
  | n + 1, x0, x1, x2, x7 => novationref10_Held.l4b N (novationref10_Held.l4 N n) x0 x1 x2 x7
def novationref10_Held.b (N : Nat) (s_l4 : novationref10_Held.t_l4) (a0 : List (Ty.den tI3)) (a1 : Int) (a2 : Int) : Option (Int) :=
  (novationref10_Stock N a0).bind fun r1 => cond (!r1) (some (0 : Int)) (s_l4 a0 a1 a2 (0 : Int))
def novationref10_Held (N : Nat) (a0 : List (Ty.den tI3)) (a1 : Int) (a2 : Int) : Option (Int) := novationref10_Held.b N (novationref10_Held.l4 N N) a0 a1 a2

def novationref10_Key (N : Nat) (a0 : Int) (a1 : Int) : Option (Bool) :=
  cond (eqB a0 1) (some (eqB a1 0)) (cond (eqB a0 2) (some (eqB a1 0)) (cond (eqB a0 3) (some (eqB a1 0)) (cond (eqB a0 4) (some (eqB a1 0)) (cond (eqB a0 5) (cond (leB 1 a1) (some (leB a1 24)) (some false)) (cond (eqB a0 6) (cond (leB 1 a1) (some (leB a1 12)) (some false)) (cond (eqB a0 7) (cond (leB 1 a1) (some (leB a1 12)) (some false)) (some false)))))))

abbrev novationref10_Rows.t_l2 := (List (Ty.den tI3)) → Int → Option (Bool)
def novationref10_Rows.l2b (N : Nat) (k_l2 : novationref10_Rows.t_l2) (x0 : List (Ty.den tI3)) (x3 : Int) : Option (Bool) :=
  cond (ltB x3 (List.length x0 : Int)) (cond (inb x3 (List.length x0)) (cond (inb x3 (List.length x0)) ((novationref10_Key N ((List.getD x0 x3.toNat ((0 : Int), ((0 : Int), ((0 : Int), ())))).1) (((List.getD x0 x3.toNat ((0 : Int), ((0 : Int), ((0 : Int), ())))).2).1)).bind fun r2 => cond (!r2) (some false) (cond (inb x3 (List.length x0)) (cond (eqB ((((List.getD x0 x3.toNat ((0 : Int), ((0 : Int), ((0 : Int), ())))).2).2).1) (0 : Int)) (some false) (cond (ltB 0 x3) (cond (inb x3 (List.length x0)) (let v3 : Int := W .i64 (x3 - 1); cond (inb v3 (List.length x0)) (cond (ltB ((List.getD x0 x3.toNat ((0 : Int), ((0 : Int), ((0 : Int), ())))).1) ((List.getD x0 v3.toNat ((0 : Int), ((0 : Int), ((0 : Int), ())))).1)) (some false) (cond (inb x3 (List.length x0)) (let v4 : Int := W .i64 (x3 - 1); cond (inb v4 (List.length x0)) (cond (eqB ((List.getD x0 x3.toNat ((0 : Int), ((0 : Int), ((0 : Int), ())))).1) ((List.getD x0 v4.toNat ((0 : Int), ((0 : Int), ((0 : Int), ())))).1)) (cond (inb x3 (List.length x0)) (let v5 : Int := W .i64 (x3 - 1); cond (inb v5 (List.length x0)) (cond (leB (((List.getD x0 x3.toNat ((0 : Int), ((0 : Int), ((0 : Int), ())))).2).1) (((List.getD x0 v5.toNat ((0 : Int), ((0 : Int), ((0 : Int), ())))).2).1)) (some false) (k_l2 x0 (W .i64 (x3 + 1)))) (none)) (none)) (k_l2 x0 (W .i64 (x3 + 1)))) (none)) (none))) (none)) (none)) (k_l2 x0 (W .i64 (x3 + 1))))) (none))) (none)) (none)) (some true)
def novationref10_Rows.l2 (N : Nat) : Nat → novationref10_Rows.t_l2
  | 0, _, _ => none
  | n + 1, x0, x3 => novationref10_Rows.l2b N (novationref10_Rows.l2 N n) x0 x3
def novationref10_Rows.b (N : Nat) (s_l2 : novationref10_Rows.t_l2) (a0 : List (Ty.den tI3)) : Option (Bool) :=
  s_l2 a0 (0 : Int)
def novationref10_Rows (N : Nat) (a0 : List (Ty.den tI3)) : Option (Bool) := novationref10_Rows.b N (novationref10_Rows.l2 N N) a0

abbrev novationref10_Get.t_l4 := (List (Ty.den tI3)) → Int → Int → Int → Option (Int)
def novationref10_Get.l4b (N : Nat) (k_l4 : novationref10_Get.t_l4) (x0 : List (Ty.den tI3)) (x1 : Int) (x2 : Int) (x7 : Int) : Option (Int) :=
  cond (ltB x7 (List.length x0 : Int)) (cond (inb x7 (List.length x0)) (cond (eqB ((List.getD x0 x7.toNat ((0 : Int), ((0 : Int), ((0 : Int), ())))).1) x1) (cond (inb x7 (List.length x0)) (cond (eqB (((List.getD x0 x7.toNat ((0 : Int), ((0 : Int), ((0 : Int), ())))).2).1) x2) (cond (inb x7 (List.length x0)) (some ((((List.getD x0 x7.toNat ((0 : Int), ((0 : Int), ((0 : Int), ())))).2).2).1)) (none)) (k_l4 x0 x1 x2 (W .i64 (x7 + 1)))) (none)) (k_l4 x0 x1 x2 (W .i64 (x7 + 1)))) (none)) (some (0 : Int))
def novationref10_Get.l4 (N : Nat) : Nat → novationref10_Get.t_l4
  | 0, _, _, _, _ => none
  | n + 1, x0, x1, x2, x7 => novationref10_Get.l4b N (novationref10_Get.l4 N n) x0 x1 x2 x7
def novationref10_Get.b (N : Nat) (s_l4 : novationref10_Get.t_l4) (a0 : List (Ty.den tI3)) (a1 : Int) (a2 : Int) : Option (Int) :=
  (novationref10_Rows N a0).bind fun r1 => cond (!r1) (some (0 : Int)) (s_l4 a0 a1 a2 (0 : Int))
def novationref10_Get (N : Nat) (a0 : List (Ty.den tI3)) (a1 : Int) (a2 : Int) : Option (Int) := novationref10_Get.b N (novationref10_Get.l4 N N) a0 a1 a2

def novationlaw25_known (N : Nat) : Option (Bool) :=
  (novationlaw25_small N ).bind fun r1 => (award_Best N ([((1 : Int), ((3 : Int), ((1 : Int), ((5 : Int), ())))), ((2 : Int), ((3 : Int), ((2 : Int), ((5 : Int), ()))))]) (3 : Int)).bind fun r2 => (award_Best N ([((1 : Int), ((3 : Int), ((1 : Int), ((5 : Int), ())))), ((2 : Int), ((3 : Int), ((2 : Int), ((5 : Int), ()))))]) (4 : Int)).bind fun r3 => (award_Award N r1.1 r1.2.1 r1.2.2 ([((1 : Int), ((3 : Int), ((1 : Int), ((5 : Int), ())))), ((2 : Int), ((3 : Int), ((2 : Int), ((5 : Int), ()))))])).bind fun r4 => cond (r2.2) (cond (eqB r2.1.1 1) (cond (!r3.2) (cond (eqB r4.2.2 0) (cond (eqB (List.length r4.2.1 : Int) 2) (cond (inb 0 (List.length r4.2.1)) (cond (eqB (((((List.getD r4.2.1 (0 : Int).toNat ((0 : Int), (([] : List ((Int) × ((Int) × (Unit)))), ((0 : Int), ((0 : Int), ((0 : Int), ((0 : Int), ()))))))).2).2).2).1) (2 : Int)) (cond (inb 0 (List.length r4.2.1)) (cond (eqB ((((((List.getD r4.2.1 (0 : Int).toNat ((0 : Int), (([] : List ((Int) × ((Int) × (Unit)))), ((0 : Int), ((0 : Int), ((0 : Int), ((0 : Int), ()))))))).2).2).2).2).1) (1 : Int)) (cond (inb 0 (List.length r4.2.1)) (cond (eqB (((((((List.getD r4.2.1 (0 : Int).toNat ((0 : Int), (([] : List ((Int) × ((Int) × (Unit)))), ((0 : Int), ((0 : Int), ((0 : Int), ((0 : Int), ()))))))).2).2).2).2).2).1) (5 : Int)) (cond (inb 1 (List.length r4.2.1)) (cond (eqB (((((List.getD r4.2.1 (1 : Int).toNat ((0 : Int), (([] : List ((Int) × ((Int) × (Unit)))), ((0 : Int), ((0 : Int), ((0 : Int), ((0 : Int), ()))))))).2).2).2).1) (3 : Int)) ((novationref10_Held N r4.1.2.2.2.1 (1 : Int) (0 : Int)).bind fun r5 => cond (eqB r5 3) ((novationref10_Held N r4.1.2.2.2.1 (0 : Int) (0 : Int)).bind fun r6 => cond (eqB r6 2) ((novationref10_Get N r4.1.2.2.1 (2 : Int) (0 : Int)).bind fun r7 => cond (eqB r7 5) ((novationref10_Get N r4.1.2.2.1 (5 : Int) (1 : Int)).bind fun r8 => some (eqB r8 (-5))) (some false)) (some false)) (some false)) (some false)) (none)) (some false)) (none)) (some false)) (none)) (some false)) (none)) (some false)) (some false)) (some false)) (some false)) (some false)

def novationref4_within (N : Nat) (a0 : Int) (a1 : Int) (a2 : Int) : Option (Bool) :=
  cond (leB a1 a0) (some (leB a0 a2)) (some false)

abbrev novationref4_RightPlan.t_l4 := Ty.den tConfig → Int → Option (Bool)
def novationref4_RightPlan.l4b (N : Nat) (k_l4 : novationref4_RightPlan.t_l4) (x1 : Ty.den tConfig) (x3 : Int) : Option (Bool) :=
  cond (ltB x3 (List.length x1.1 : Int)) (cond (inb x3 (List.length x1.1)) ((novationref4_within N ((List.getD x1.1 x3.toNat ((0 : Int), ((0 : Int), ((0 : Int), ((0 : Int), ()))))).1) (0 : Int) (3 : Int)).bind fun r2 => cond (!r2) (some false) ((novationref4_within N (((List.getD x1.1 x3.toNat ((0 : Int), ((0 : Int), ((0 : Int), ((0 : Int), ()))))).2).1) (1 : Int) (1000000000000 : Int)).bind fun r3 => cond (!r3) (some false) ((novationref4_within N ((((List.getD x1.1 x3.toNat ((0 : Int), ((0 : Int), ((0 : Int), ((0 : Int), ()))))).2).2).1) (0 : Int) (1000000000 : Int)).bind fun r4 => cond (!r4) (some false) ((novationref4_within N (((((List.getD x1.1 x3.toNat ((0 : Int), ((0 : Int), ((0 : Int), ((0 : Int), ()))))).2).2).2).1) (0 : Int) (1000000000 : Int)).bind fun r5 => cond (!r5) (some false) (k_l4 x1 (W .i64 (x3 + 1))))))) (none)) (cond (leB 0 x1.2.1) ((novationref4_within N x1.2.2.1 (0 : Int) (4 : Int)).bind fun r7 => cond (r7) ((novationref4_within N x1.2.2.2.1 (0 : Int) (1000000 : Int)).bind fun r8 => cond (r8) ((novationref4_within N x1.2.2.2.2.1 (0 : Int) (1000000 : Int)).bind fun r9 => cond (r9) ((novationref4_within N x1.2.2.2.2.2.1 (1 : Int) (4611686018427387904 : Int)).bind fun r10 => cond (r10) (some (leB 0 x1.2.2.2.2.2.2.1)) (some false)) (some false)) (some false)) (some false)) (some false))
def novationref4_RightPlan.l4 (N : Nat) : Nat → novationref4_RightPlan.t_l4
  | 0, _, _ => none
  | n + 1, x1, x3 => novationref4_RightPlan.l4b N (novationref4_RightPlan.l4 N n) x1 x3
def novationref4_RightPlan.b (N : Nat) (s_l4 : novationref4_RightPlan.t_l4) (a0 : Ty.den tConfig) : Option (Bool) :=
  cond (ltB (List.length a0.1 : Int) 1) (some false) (cond (ltB 6 (List.length a0.1 : Int)) (some false) (s_l4 a0 (0 : Int)))
def novationref4_RightPlan (N : Nat) (a0 : Ty.den tConfig) : Option (Bool) := novationref4_RightPlan.b N (novationref4_RightPlan.l4 N N) a0

abbrev novationref10_Members.t_l2 := (List (Ty.den tI2)) → Int → Option (Bool)
def novationref10_Members.l2b (N : Nat) (k_l2 : novationref10_Members.t_l2) (x0 : List (Ty.den tI2)) (x3 : Int) : Option (Bool) :=
  cond (ltB x3 (List.length x0 : Int)) (cond (inb x3 (List.length x0)) (cond (ltB ((List.getD x0 x3.toNat ((0 : Int), ((0 : Int), ()))).1) (1 : Int)) (some false) (cond (inb x3 (List.length x0)) (cond (ltB 12 ((List.getD x0 x3.toNat ((0 : Int), ((0 : Int), ()))).1)) (some false) (cond (inb x3 (List.length x0)) (cond (ltB (((List.getD x0 x3.toNat ((0 : Int), ((0 : Int), ()))).2).1) (1 : Int)) (some false) (cond (inb x3 (List.length x0)) (cond (ltB 4 (((List.getD x0 x3.toNat ((0 : Int), ((0 : Int), ()))).2).1)) (some false) (cond (ltB 0 x3) (cond (inb x3 (List.length x0)) (let v2 : Int := W .i64 (x3 - 1); cond (inb v2 (List.length x0)) (cond (leB ((List.getD x0 x3.toNat ((0 : Int), ((0 : Int), ()))).1) ((List.getD x0 v2.toNat ((0 : Int), ((0 : Int), ()))).1)) (some false) (k_l2 x0 (W .i64 (x3 + 1)))) (none)) (none)) (k_l2 x0 (W .i64 (x3 + 1))))) (none))) (none))) (none))) (none)) (some true)
def novationref10_Members.l2 (N : Nat) : Nat → novationref10_Members.t_l2
  | 0, _, _ => none
  | n + 1, x0, x3 => novationref10_Members.l2b N (novationref10_Members.l2 N n) x0 x3
def novationref10_Members.b (N : Nat) (s_l2 : novationref10_Members.t_l2) (a0 : List (Ty.den tI2)) : Option (Bool) :=
  s_l2 a0 (0 : Int)
def novationref10_Members (N : Nat) (a0 : List (Ty.den tI2)) : Option (Bool) := novationref10_Members.b N (novationref10_Members.l2 N N) a0

abbrev novationref10_Accs.t_l8 := (List (Ty.den tI4)) → Int → Ty.den tI4 → Int → Option (Bool)
abbrev novationref10_Accs.t_j7 := (List (Ty.den tI4)) → Int → Ty.den tI4 → Option (Bool)
abbrev novationref10_Accs.t_l2 := (List (Ty.den tI4)) → Int → Option (Bool)
def novationref10_Accs.l8b (N : Nat) (k_l2 : novationref10_Accs.t_l2) (k_l8 : novationref10_Accs.t_l8) (x0 : List (Ty.den tI4)) (x3 : Int) (x4 : Ty.den tI4) (x5 : Int) : Option (Bool) :=
  cond (ltB x5 x3) (cond (eqB x4.2.2.1 1) (cond (inb x5 (List.length x0)) (cond (eqB ((((List.getD x0 x5.toNat ((0 : Int), ((0 : Int), ((0 : Int), ((0 : Int), ()))))).2).2).1) (1 : Int)) (cond (inb x5 (List.length x0)) (cond (eqB (((List.getD x0 x5.toNat ((0 : Int), ((0 : Int), ((0 : Int), ((0 : Int), ()))))).2).1) x4.2.1) (some false) (k_l8 x0 x3 x4 (W .i64 (x5 + 1)))) (none)) (k_l8 x0 x3 x4 (W .i64 (x5 + 1)))) (none)) (k_l8 x0 x3 x4 (W .i64 (x5 + 1)))) (k_l2 x0 (W .i64 (x3 + 1)))
def novationref10_Accs.l8 (N : Nat) (k_l2 : novationref10_Accs.t_l2) : Nat → novationref10_Accs.t_l8
  | 0, _, _, _, _ => none
  | n + 1, x0, x3, x4, x5 => novationref10_Accs.l8b N k_l2 (novationref10_Accs.l8 N k_l2 n) x0 x3 x4 x5
def novationref10_Accs.j7b (N : Nat) (s_l8 : novationref10_Accs.t_l8) (k_l2 : novationref10_Accs.t_l2) (x0 : List (Ty.den tI4)) (x3 : Int) (x4 : Ty.den tI4) : Option (Bool) :=
  s_l8 x0 x3 x4 (0 : Int)
def novationref10_Accs.j7 (N : Nat) (k_l2 : novationref10_Accs.t_l2) (x0 : List (Ty.den tI4)) (x3 : Int) (x4 : Ty.den tI4) : Option (Bool) := novationref10_Accs.j7b N (novationref10_Accs.l8 N k_l2 N) k_l2 x0 x3 x4
def novationref10_Accs.l2b (N : Nat) (s_j7 : novationref10_Accs.t_j7) (k_l2 : novationref10_Accs.t_l2) (x0 : List (Ty.den tI4)) (x3 : Int) : Option (Bool) :=
  cond (ltB x3 (List.length x0 : Int)) (cond (inb x3 (List.length x0)) (cond (ltB ((List.getD x0 x3.toNat ((0 : Int), ((0 : Int), ((0 : Int), ((0 : Int), ()))))).1) (1 : Int)) (some false) (cond (ltB 24 ((List.getD x0 x3.toNat ((0 : Int), ((0 : Int), ((0 : Int), ((0 : Int), ()))))).1)) (some false) (cond (ltB (((List.getD x0 x3.toNat ((0 : Int), ((0 : Int), ((0 : Int), ((0 : Int), ()))))).2).1) (1 : Int)) (some false) (cond (ltB 12 (((List.getD x0 x3.toNat ((0 : Int), ((0 : Int), ((0 : Int), ((0 : Int), ()))))).2).1)) (some false) (cond (!eqB ((((List.getD x0 x3.toNat ((0 : Int), ((0 : Int), ((0 : Int), ((0 : Int), ()))))).2).2).1) (1 : Int)) (cond (!eqB ((((List.getD x0 x3.toNat ((0 : Int), ((0 : Int), ((0 : Int), ((0 : Int), ()))))).2).2).1) (2 : Int)) (some false) (cond (ltB (((((List.getD x0 x3.toNat ((0 : Int), ((0 : Int), ((0 : Int), ((0 : Int), ()))))).2).2).2).1) (0 : Int)) (some false) (cond (ltB 1000000000000 (((((List.getD x0 x3.toNat ((0 : Int), ((0 : Int), ((0 : Int), ((0 : Int), ()))))).2).2).2).1)) (some false) (cond (ltB 0 x3) (let v2 : Int := W .i64 (x3 - 1); cond (inb v2 (List.length x0)) (cond (leB ((List.getD x0 x3.toNat ((0 : Int), ((0 : Int), ((0 : Int), ((0 : Int), ()))))).1) ((List.getD x0 v2.toNat ((0 : Int), ((0 : Int), ((0 : Int), ((0 : Int), ()))))).1)) (some false) (s_j7 x0 x3 (List.getD x0 x3.toNat ((0 : Int), ((0 : Int), ((0 : Int), ((0 : Int), ()))))))) (none)) (s_j7 x0 x3 (List.getD x0 x3.toNat ((0 : Int), ((0 : Int), ((0 : Int), ((0 : Int), ())))))))))) (cond (ltB (((((List.getD x0 x3.toNat ((0 : Int), ((0 : Int), ((0 : Int), ((0 : Int), ()))))).2).2).2).1) (0 : Int)) (some false) (cond (ltB 1000000000000 (((((List.getD x0 x3.toNat ((0 : Int), ((0 : Int), ((0 : Int), ((0 : Int), ()))))).2).2).2).1)) (some false) (cond (ltB 0 x3) (let v9 : Int := W .i64 (x3 - 1); cond (inb v9 (List.length x0)) (cond (leB ((List.getD x0 x3.toNat ((0 : Int), ((0 : Int), ((0 : Int), ((0 : Int), ()))))).1) ((List.getD x0 v9.toNat ((0 : Int), ((0 : Int), ((0 : Int), ((0 : Int), ()))))).1)) (some false) (s_j7 x0 x3 (List.getD x0 x3.toNat ((0 : Int), ((0 : Int), ((0 : Int), ((0 : Int), ()))))))) (none)) (s_j7 x0 x3 (List.getD x0 x3.toNat ((0 : Int), ((0 : Int), ((0 : Int), ((0 : Int), ())))))))))))))) (none)) (some true)
def novationref10_Accs.l2 (N : Nat) : Nat → novationref10_Accs.t_l2
  | 0, _, _ => none
  | n + 1, x0, x3 => novationref10_Accs.l2b N (novationref10_Accs.j7 N (novationref10_Accs.l2 N n)) (novationref10_Accs.l2 N n) x0 x3
def novationref10_Accs.b (N : Nat) (s_l2 : novationref10_Accs.t_l2) (a0 : List (Ty.den tI4)) : Option (Bool) :=
  s_l2 a0 (0 : Int)
def novationref10_Accs (N : Nat) (a0 : List (Ty.den tI4)) : Option (Bool) := novationref10_Accs.b N (novationref10_Accs.l2 N N) a0

abbrev novationref10_status.t_l2 := (List (Ty.den tI2)) → Int → Int → Option (Int)
def novationref10_status.l2b (N : Nat) (k_l2 : novationref10_status.t_l2) (x0 : List (Ty.den tI2)) (x1 : Int) (x5 : Int) : Option (Int) :=
  cond (ltB x5 (List.length x0 : Int)) (cond (inb x5 (List.length x0)) (cond (eqB ((List.getD x0 x5.toNat ((0 : Int), ((0 : Int), ()))).1) x1) (cond (inb x5 (List.length x0)) (some (((List.getD x0 x5.toNat ((0 : Int), ((0 : Int), ()))).2).1)) (none)) (k_l2 x0 x1 (W .i64 (x5 + 1)))) (none)) (some (0 : Int))
def novationref10_status.l2 (N : Nat) : Nat → novationref10_status.t_l2
  | 0, _, _, _ => none
  | n + 1, x0, x1, x5 => novationref10_status.l2b N (novationref10_status.l2 N n) x0 x1 x5
def novationref10_status.b (N : Nat) (s_l2 : novationref10_status.t_l2) (a0 : List (Ty.den tI2)) (a1 : Int) : Option (Int) :=
  s_l2 a0 a1 (0 : Int)
def novationref10_status (N : Nat) (a0 : List (Ty.den tI2)) (a1 : Int) : Option (Int) := novationref10_status.b N (novationref10_status.l2 N N) a0 a1

abbrev novationref10_RightRoll.t_l4 := (List (Ty.den tI2)) → (List (Ty.den tI4)) → Int → Option (Bool)
def novationref10_RightRoll.l4b (N : Nat) (k_l4 : novationref10_RightRoll.t_l4) (x0 : List (Ty.den tI2)) (x1 : List (Ty.den tI4)) (x5 : Int) : Option (Bool) :=
  cond (ltB x5 (List.length x1 : Int)) (cond (inb x5 (List.length x1)) ((novationref10_status N x0 (((List.getD x1 x5.toNat ((0 : Int), ((0 : Int), ((0 : Int), ((0 : Int), ()))))).2).1)).bind fun r4 => cond (eqB r4 0) (some false) (k_l4 x0 x1 (W .i64 (x5 + 1)))) (none)) (some true)
def novationref10_RightRoll.l4 (N : Nat) : Nat → novationref10_RightRoll.t_l4
  | 0, _, _, _ => none
  | n + 1, x0, x1, x5 => novationref10_RightRoll.l4b N (novationref10_RightRoll.l4 N n) x0 x1 x5
def novationref10_RightRoll.b (N : Nat) (s_l4 : novationref10_RightRoll.t_l4) (a0 : List (Ty.den tI2)) (a1 : List (Ty.den tI4)) : Option (Bool) :=
  (novationref10_Members N a0).bind fun r1 => cond (!r1) (some false) ((novationref10_Accs N a1).bind fun r2 => cond (!r2) (some false) (s_l4 a0 a1 (0 : Int)))
def novationref10_RightRoll (N : Nat) (a0 : List (Ty.den tI2)) (a1 : List (Ty.den tI4)) : Option (Bool) := novationref10_RightRoll.b N (novationref10_RightRoll.l4 N N) a0 a1

abbrev novationref1_trim.t_l2 := (List (Int)) → Int → Option (List (Int))
def novationref1_trim.l2b (N : Nat) (k_l2 : novationref1_trim.t_l2) (x0 : List (Int)) (x3 : Int) : Option (List (Int)) :=
  cond (ltB 0 x3) (let v2 : Int := W .i64 (x3 - 1); cond (inb v2 (List.length x0)) (cond (eqB (List.getD x0 v2.toNat (0 : Int)) (0 : Int)) (k_l2 x0 (W .i64 (x3 - 1))) (cond (okCut 0 x3 x3 (List.length x0 : Int)) (some (List.drop (0 : Int).toNat (List.take x3.toNat x0))) (none))) (none)) (cond (okCut 0 x3 x3 (List.length x0 : Int)) (some (List.drop (0 : Int).toNat (List.take x3.toNat x0))) (none))
def novationref1_trim.l2 (N : Nat) : Nat → novationref1_trim.t_l2
  | 0, _, _ => none
  | n + 1, x0, x3 => novationref1_trim.l2b N (novationref1_trim.l2 N n) x0 x3
def novationref1_trim.b (N : Nat) (s_l2 : novationref1_trim.t_l2) (a0 : List (Int)) : Option (List (Int)) :=
  s_l2 a0 (List.length a0 : Int)
def novationref1_trim (N : Nat) (a0 : List (Int)) : Option (List (Int)) := novationref1_trim.b N (novationref1_trim.l2 N N) a0

def novationref1_size (N : Nat) (a0 : Int) : Option (List (Int)) :=
  cond (ltB 32 0) (none) ((novationref1_trim N ([(bitw .and .u64 a0 4294967295), (shr .u64 a0 32)])).bind fun r3 => some r3)

def novationref1_made (N : Nat) (a0 : Bool) (a1 : List (Int)) : Option (Ty.den tBig) :=
  (novationref1_trim N a1).bind fun r1 => cond (a0) (some (ltB 0 (List.length r1 : Int), (r1, ()))) (some (false, (r1, ())))

def novationref1_Whole (N : Nat) (a0 : Int) : Option (Ty.den tBig) :=
  let v1 : Int := W .u64 a0; cond (ltB a0 0) ((novationref1_size N (W .u64 (0 - v1))).bind fun r3 => (novationref1_made N (ltB a0 0) r3).bind fun r4 => some r4) ((novationref1_size N v1).bind fun r5 => (novationref1_made N (ltB a0 0) r5).bind fun r6 => some r6)

def novationref1_digit (N : Nat) (a0 : List (Int)) (a1 : Int) : Option (Int) :=
  cond (ltB a1 (List.length a0 : Int)) (cond (inb a1 (List.length a0)) (some (List.getD a0 a1.toNat (0 : Int))) (none)) (some (0 : Int))

abbrev novationref1_addSizes.t_j6 := (List (Int)) → (List (Int)) → (List (Int)) → Int → Int → Option (List (Int))
abbrev novationref1_addSizes.t_l4 := (List (Int)) → (List (Int)) → (List (Int)) → Int → Int → Option (List (Int))
def novationref1_addSizes.j6b (N : Nat) (k_l4 : novationref1_addSizes.t_l4) (x0 : List (Int)) (x1 : List (Int)) (x5 : List (Int)) (x6 : Int) (x7 : Int) : Option (List (Int)) :=
  (novationref1_digit N x0 x7).bind fun r3 => (novationref1_digit N x1 x7).bind fun r4 => let v6 : Int := W .u64 (x6 + (W .u64 (r3 + r4))); let v7 : Int := bitw .and .u64 v6 4294967295; cond (small (List.length x5 + List.length ([v7]))) (cond (ltB 32 0) (none) (k_l4 x0 x1 (x5 ++ ([v7])) (shr .u64 v6 32) (W .i64 (x7 + 1)))) (none)
def novationref1_addSizes.j6 (N : Nat) (k_l4 : novationref1_addSizes.t_l4) (x0 : List (Int)) (x1 : List (Int)) (x5 : List (Int)) (x6 : Int) (x7 : Int) : Option (List (Int)) := novationref1_addSizes.j6b N k_l4 x0 x1 x5 x6 x7
def novationref1_addSizes.l4b (N : Nat) (s_j6 : novationref1_addSizes.t_j6) (k_l4 : novationref1_addSizes.t_l4) (x0 : List (Int)) (x1 : List (Int)) (x5 : List (Int)) (x6 : Int) (x7 : Int) : Option (List (Int)) :=
  cond (ltB x7 (List.length x0 : Int)) (s_j6 x0 x1 x5 x6 x7) (cond (ltB x7 (List.length x1 : Int)) (s_j6 x0 x1 x5 x6 x7) (cond (ltB 0 x6) (s_j6 x0 x1 x5 x6 x7) (some x5)))
def novationref1_addSizes.l4 (N : Nat) : Nat → novationref1_addSizes.t_l4
  | 0, _, _, _, _, _ => none
  | n + 1, x0, x1, x5, x6, x7 => novationref1_addSizes.l4b N (novationref1_addSizes.j6 N (novationref1_addSizes.l4 N n)) (novationref1_addSizes.l4 N n) x0 x1 x5 x6 x7
def novationref1_addSizes.b (N : Nat) (s_l4 : novationref1_addSizes.t_l4) (a0 : List (Int)) (a1 : List (Int)) : Option (List (Int)) :=
  s_l4 a0 a1 ([]) (0 : Int) (0 : Int)
def novationref1_addSizes (N : Nat) (a0 : List (Int)) (a1 : List (Int)) : Option (List (Int)) := novationref1_addSizes.b N (novationref1_addSizes.l4 N N) a0 a1

abbrev novationref1_cmpSizes.t_l6 := (List (Int)) → (List (Int)) → Int → Option (Int)
def novationref1_cmpSizes.l6b (N : Nat) (k_l6 : novationref1_cmpSizes.t_l6) (x0 : List (Int)) (x1 : List (Int)) (x5 : Int) : Option (Int) :=
  cond (leB 0 x5) (cond (inb x5 (List.length x0)) (cond (inb x5 (List.length x1)) (cond (ltB (List.getD x0 x5.toNat (0 : Int)) (List.getD x1 x5.toNat (0 : Int))) (some (-1 : Int)) (cond (inb x5 (List.length x0)) (cond (inb x5 (List.length x1)) (cond (ltB (List.getD x1 x5.toNat (0 : Int)) (List.getD x0 x5.toNat (0 : Int))) (some (1 : Int)) (k_l6 x0 x1 (W .i64 (x5 - 1)))) (none)) (none))) (none)) (none)) (some (0 : Int))
def novationref1_cmpSizes.l6 (N : Nat) : Nat → novationref1_cmpSizes.t_l6
  | 0, _, _, _ => none
  | n + 1, x0, x1, x5 => novationref1_cmpSizes.l6b N (novationref1_cmpSizes.l6 N n) x0 x1 x5
def novationref1_cmpSizes.b (N : Nat) (s_l6 : novationref1_cmpSizes.t_l6) (a0 : List (Int)) (a1 : List (Int)) : Option (Int) :=
  cond (!eqB (List.length a0 : Int) (List.length a1 : Int)) (cond (ltB (List.length a0 : Int) (List.length a1 : Int)) (some (-1 : Int)) (some (1 : Int))) (s_l6 a0 a1 (W .i64 ((List.length a0 : Int) - 1)))
def novationref1_cmpSizes (N : Nat) (a0 : List (Int)) (a1 : List (Int)) : Option (Int) := novationref1_cmpSizes.b N (novationref1_cmpSizes.l6 N N) a0 a1

abbrev novationref1_subSizes.t_l4 := (List (Int)) → (List (Int)) → (List (Int)) → Int → Int → Option (List (Int))
def novationref1_subSizes.l4b (N : Nat) (k_l4 : novationref1_subSizes.t_l4) (x0 : List (Int)) (x1 : List (Int)) (x5 : List (Int)) (x6 : Int) (x7 : Int) : Option (List (Int)) :=
  cond (ltB x7 (List.length x0 : Int)) (cond (inb x7 (List.length x0)) ((novationref1_digit N x1 x7).bind fun r2 => let v3 : Int := W .u64 (r2 + x6); cond (ltB (List.getD x0 x7.toNat (0 : Int)) v3) (let v5 : Int := W .u64 ((W .u64 ((List.getD x0 x7.toNat (0 : Int)) + 4294967296)) - v3); cond (small (List.length x5 + List.length ([v5]))) (k_l4 x0 x1 (x5 ++ ([v5])) (1 : Int) (W .i64 (x7 + 1))) (none)) (let v8 : Int := W .u64 ((List.getD x0 x7.toNat (0 : Int)) - v3); cond (small (List.length x5 + List.length ([v8]))) (k_l4 x0 x1 (x5 ++ ([v8])) (0 : Int) (W .i64 (x7 + 1))) (none))) (none)) (some x5)
def novationref1_subSizes.l4 (N : Nat) : Nat → novationref1_subSizes.t_l4
  | 0, _, _, _, _, _ => none
  | n + 1, x0, x1, x5, x6, x7 => novationref1_subSizes.l4b N (novationref1_subSizes.l4 N n) x0 x1 x5 x6 x7
def novationref1_subSizes.b (N : Nat) (s_l4 : novationref1_subSizes.t_l4) (a0 : List (Int)) (a1 : List (Int)) : Option (List (Int)) :=
  s_l4 a0 a1 ([]) (0 : Int) (0 : Int)
def novationref1_subSizes (N : Nat) (a0 : List (Int)) (a1 : List (Int)) : Option (List (Int)) := novationref1_subSizes.b N (novationref1_subSizes.l4 N N) a0 a1

def novationref1_Plus (N : Nat) (a0 : Ty.den tBig) (a1 : Ty.den tBig) : Option (Ty.den tBig) :=
  cond (teq .bool a0.1 a1.1) ((novationref1_addSizes N a0.2.1 a1.2.1).bind fun r1 => (novationref1_made N a0.1 r1).bind fun r2 => some r2) ((novationref1_cmpSizes N a0.2.1 a1.2.1).bind fun r3 => cond (leB 0 r3) ((novationref1_subSizes N a0.2.1 a1.2.1).bind fun r4 => (novationref1_made N a0.1 r4).bind fun r5 => some r5) ((novationref1_subSizes N a1.2.1 a0.2.1).bind fun r6 => (novationref1_made N a1.1 r6).bind fun r7 => some r7))

abbrev novationref10_SumInst.t_l5 := (List (Ty.den tI3)) → Int → Ty.den tBig → Ty.den tBig → Int → Option (Ty.den tBig)
def novationref10_SumInst.l5b (N : Nat) (k_l5 : novationref10_SumInst.t_l5) (x0 : List (Ty.den tI3)) (x1 : Int) (x4 : Ty.den tBig) (x5 : Ty.den tBig) (x6 : Int) : Option (Ty.den tBig) :=
  cond (ltB x6 (List.length x0 : Int)) (cond (inb x6 (List.length x0)) (cond (eqB (((List.getD x0 x6.toNat ((0 : Int), ((0 : Int), ((0 : Int), ())))).2).1) x1) (cond (inb x6 (List.length x0)) ((novationref1_Whole N ((((List.getD x0 x6.toNat ((0 : Int), ((0 : Int), ((0 : Int), ())))).2).2).1)).bind fun r3 => (novationref1_Plus N x5 r3).bind fun r4 => k_l5 x0 x1 x4 r4 (W .i64 (x6 + 1))) (none)) (k_l5 x0 x1 x4 x5 (W .i64 (x6 + 1)))) (none)) (some x5)
def novationref10_SumInst.l5 (N : Nat) : Nat → novationref10_SumInst.t_l5
  | 0, _, _, _, _, _ => none
  | n + 1, x0, x1, x4, x5, x6 => novationref10_SumInst.l5b N (novationref10_SumInst.l5 N n) x0 x1 x4 x5 x6
def novationref10_SumInst.b (N : Nat) (s_l5 : novationref10_SumInst.t_l5) (a0 : List (Ty.den tI3)) (a1 : Int) : Option (Ty.den tBig) :=
  (novationref10_Stock N a0).bind fun r1 => cond (!r1) (some (false, (([] : List (Int)), ()))) (s_l5 a0 a1 (false, (([] : List (Int)), ())) (false, (([] : List (Int)), ())) (0 : Int))
def novationref10_SumInst (N : Nat) (a0 : List (Ty.den tI3)) (a1 : Int) : Option (Ty.den tBig) := novationref10_SumInst.b N (novationref10_SumInst.l5 N N) a0 a1

def novationref1_Sign (N : Nat) (a0 : Ty.den tBig) : Option (Int) :=
  cond (eqB (List.length a0.2.1 : Int) 0) (some (0 : Int)) (cond (a0.1) (some (-1 : Int)) (some (1 : Int)))

abbrev novationref10_Flat.t_l2 := (List (Ty.den tI3)) → Int → Option (Bool)
def novationref10_Flat.l2b (N : Nat) (k_l2 : novationref10_Flat.t_l2) (x0 : List (Ty.den tI3)) (x3 : Int) : Option (Bool) :=
  cond (ltB x3 6) ((novationref10_SumInst N x0 x3).bind fun r2 => (novationref1_Sign N r2).bind fun r3 => cond (!eqB r3 0) (some false) (k_l2 x0 (W .i64 (x3 + 1)))) ((novationref10_Stock N x0).bind fun r5 => some r5)
def novationref10_Flat.l2 (N : Nat) : Nat → novationref10_Flat.t_l2
  | 0, _, _ => none
  | n + 1, x0, x3 => novationref10_Flat.l2b N (novationref10_Flat.l2 N n) x0 x3
def novationref10_Flat.b (N : Nat) (s_l2 : novationref10_Flat.t_l2) (a0 : List (Ty.den tI3)) : Option (Bool) :=
  s_l2 a0 (0 : Int)
def novationref10_Flat (N : Nat) (a0 : List (Ty.den tI3)) : Option (Bool) := novationref10_Flat.b N (novationref10_Flat.l2 N N) a0

def novationref15_price (N : Nat) (a0 : Int) : Option (Bool) :=
  cond (leB 1 a0) (some (leB a0 1000000000000)) (some false)

def novationref15_RightOrder (N : Nat) (a0 : Ty.den tI6) : Option (Bool) :=
  cond (leB 1 a0.1) (cond (leB a0.1 1099511627776) (cond (leB 1 a0.2.1) (cond (leB a0.2.1 24) (cond (leB 0 a0.2.2.1) (cond (ltB a0.2.2.1 6) (cond (eqB a0.2.2.2.1 1) (cond (leB 1 a0.2.2.2.2.1) (cond (leB a0.2.2.2.2.1 1000000000) ((novationref15_price N a0.2.2.2.2.2.1).bind fun r1 => some r1) (some false)) (some false)) (cond (eqB a0.2.2.2.1 2) (cond (leB 1 a0.2.2.2.2.1) (cond (leB a0.2.2.2.2.1 1000000000) ((novationref15_price N a0.2.2.2.2.2.1).bind fun r2 => some r2) (some false)) (some false)) (some false))) (some false)) (some false)) (some false)) (some false)) (some false)) (some false)

abbrev novationref15_Orders.t_l4 := (List (Ty.den tI6)) → Int → Option (Bool)
def novationref15_Orders.l4b (N : Nat) (k_l4 : novationref15_Orders.t_l4) (x0 : List (Ty.den tI6)) (x3 : Int) : Option (Bool) :=
  cond (ltB x3 (List.length x0 : Int)) (cond (inb x3 (List.length x0)) ((novationref15_RightOrder N (List.getD x0 x3.toNat ((0 : Int), ((0 : Int), ((0 : Int), ((0 : Int), ((0 : Int), ((0 : Int), ())))))))).bind fun r2 => cond (!r2) (some false) (cond (ltB 0 x3) (cond (inb x3 (List.length x0)) (let v3 : Int := W .i64 (x3 - 1); cond (inb v3 (List.length x0)) (cond (leB ((List.getD x0 x3.toNat ((0 : Int), ((0 : Int), ((0 : Int), ((0 : Int), ((0 : Int), ((0 : Int), ()))))))).1) ((List.getD x0 v3.toNat ((0 : Int), ((0 : Int), ((0 : Int), ((0 : Int), ((0 : Int), ((0 : Int), ()))))))).1)) (some false) (k_l4 x0 (W .i64 (x3 + 1)))) (none)) (none)) (k_l4 x0 (W .i64 (x3 + 1))))) (none)) (some true)
def novationref15_Orders.l4 (N : Nat) : Nat → novationref15_Orders.t_l4
  | 0, _, _ => none
  | n + 1, x0, x3 => novationref15_Orders.l4b N (novationref15_Orders.l4 N n) x0 x3
def novationref15_Orders.b (N : Nat) (s_l4 : novationref15_Orders.t_l4) (a0 : List (Ty.den tI6)) : Option (Bool) :=
  cond (ltB 32 (List.length a0 : Int)) (some false) (s_l4 a0 (0 : Int))
def novationref15_Orders (N : Nat) (a0 : List (Ty.den tI6)) : Option (Bool) := novationref15_Orders.b N (novationref15_Orders.l4 N N) a0

abbrev novationref10_Total.t_l5 := (List (Ty.den tI3)) → Ty.den tBig → Ty.den tBig → Int → Option (Ty.den tBig)
def novationref10_Total.l5b (N : Nat) (k_l5 : novationref10_Total.t_l5) (x0 : List (Ty.den tI3)) (x2 : Ty.den tBig) (x3 : Ty.den tBig) (x4 : Int) : Option (Ty.den tBig) :=
  cond (ltB x4 (List.length x0 : Int)) (cond (inb x4 (List.length x0)) ((novationref1_Whole N ((((List.getD x0 x4.toNat ((0 : Int), ((0 : Int), ((0 : Int), ())))).2).2).1)).bind fun r3 => (novationref1_Plus N x3 r3).bind fun r4 => k_l5 x0 x2 r4 (W .i64 (x4 + 1))) (none)) (some x3)
def novationref10_Total.l5 (N : Nat) : Nat → novationref10_Total.t_l5
  | 0, _, _, _, _ => none
  | n + 1, x0, x2, x3, x4 => novationref10_Total.l5b N (novationref10_Total.l5 N n) x0 x2 x3 x4
def novationref10_Total.b (N : Nat) (s_l5 : novationref10_Total.t_l5) (a0 : List (Ty.den tI3)) : Option (Ty.den tBig) :=
  (novationref10_Rows N a0).bind fun r1 => cond (!r1) (some (false, (([] : List (Int)), ()))) (s_l5 a0 (false, (([] : List (Int)), ())) (false, (([] : List (Int)), ())) (0 : Int))
def novationref10_Total (N : Nat) (a0 : List (Ty.den tI3)) : Option (Ty.den tBig) := novationref10_Total.b N (novationref10_Total.l5 N N) a0

abbrev novationref10_find.t_l2 := (List (Ty.den tI4)) → Int → Ty.den tI4 → Int → Option ((Ty.den tI4) × (Bool))
def novationref10_find.l2b (N : Nat) (k_l2 : novationref10_find.t_l2) (x0 : List (Ty.den tI4)) (x1 : Int) (x4 : Ty.den tI4) (x6 : Int) : Option ((Ty.den tI4) × (Bool)) :=
  cond (ltB x6 (List.length x0 : Int)) (cond (inb x6 (List.length x0)) (cond (eqB ((List.getD x0 x6.toNat ((0 : Int), ((0 : Int), ((0 : Int), ((0 : Int), ()))))).1) x1) (cond (inb x6 (List.length x0)) (some (List.getD x0 x6.toNat ((0 : Int), ((0 : Int), ((0 : Int), ((0 : Int), ())))), true)) (none)) (k_l2 x0 x1 x4 (W .i64 (x6 + 1)))) (none)) (some (((0 : Int), ((0 : Int), ((0 : Int), ((0 : Int), ())))), false))
def novationref10_find.l2 (N : Nat) : Nat → novationref10_find.t_l2
  | 0, _, _, _, _ => none
  | n + 1, x0, x1, x4, x6 => novationref10_find.l2b N (novationref10_find.l2 N n) x0 x1 x4 x6
def novationref10_find.b (N : Nat) (s_l2 : novationref10_find.t_l2) (a0 : List (Ty.den tI4)) (a1 : Int) : Option ((Ty.den tI4) × (Bool)) :=
  s_l2 a0 a1 ((0 : Int), ((0 : Int), ((0 : Int), ((0 : Int), ())))) (0 : Int)
def novationref10_find (N : Nat) (a0 : List (Ty.den tI4)) (a1 : Int) : Option ((Ty.den tI4) × (Bool)) := novationref10_find.b N (novationref10_find.l2 N N) a0 a1

def novationref10_Find (N : Nat) (a0 : List (Ty.den tI4)) (a1 : Int) : Option ((Ty.den tI4) × (Bool)) :=
  (novationref10_Accs N a0).bind fun r1 => cond (!r1) (some (((0 : Int), ((0 : Int), ((0 : Int), ((0 : Int), ())))), false)) ((novationref10_find N a0 a1).bind fun r2 => some (r2.1, r2.2))

def novationref15_there (N : Nat) (a0 : Ty.den tBook) (a1 : Int) : Option (Bool) :=
  (novationref10_Find N a0.2.1 a1).bind fun r1 => cond (r1.2) (some true) (some (eqB a1 0))

def novationref10_Status (N : Nat) (a0 : List (Ty.den tI2)) (a1 : Int) : Option (Int) :=
  (novationref10_Members N a0).bind fun r1 => cond (!r1) (some (0 : Int)) ((novationref10_status N a0 a1).bind fun r2 => some r2)

abbrev novationref15_RightBook.t_l22 := Ty.den tConfig → Ty.den tBook → Int → Option (Bool)
abbrev novationref15_RightBook.t_l17 := Ty.den tConfig → Ty.den tBook → Int → Option (Bool)
abbrev novationref15_RightBook.t_l12 := Ty.den tConfig → Ty.den tBook → Int → Option (Bool)
abbrev novationref15_RightBook.t_l6 := Ty.den tConfig → Ty.den tBook → Int → Option (Bool)
def novationref15_RightBook.l22b (N : Nat) (k_l22 : novationref15_RightBook.t_l22) (x2 : Ty.den tConfig) (x3 : Ty.den tBook) (x9 : Int) : Option (Bool) :=
  cond (ltB x9 (List.length x3.2.2.2.2.2.1 : Int)) (cond (inb x9 (List.length x3.2.2.2.2.2.1)) ((novationref15_there N x3 (((List.getD x3.2.2.2.2.2.1 x9.toNat ((0 : Int), ((0 : Int), ((0 : Int), ((0 : Int), ((0 : Int), ((0 : Int), ()))))))).2).1)).bind fun r27 => cond (!r27) (some false) (cond (inb x9 (List.length x3.2.2.2.2.2.1)) (cond (leB (List.length x2.1 : Int) ((((List.getD x3.2.2.2.2.2.1 x9.toNat ((0 : Int), ((0 : Int), ((0 : Int), ((0 : Int), ((0 : Int), ((0 : Int), ()))))))).2).2).1)) (some false) (k_l22 x2 x3 (W .i64 (x9 + 1)))) (none))) (none)) (some true)
def novationref15_RightBook.l22 (N : Nat) : Nat → novationref15_RightBook.t_l22
  | 0, _, _, _ => none
  | n + 1, x2, x3, x9 => novationref15_RightBook.l22b N (novationref15_RightBook.l22 N n) x2 x3 x9
def novationref15_RightBook.l17b (N : Nat) (s_l22 : novationref15_RightBook.t_l22) (k_l17 : novationref15_RightBook.t_l17) (x2 : Ty.den tConfig) (x3 : Ty.den tBook) (x8 : Int) : Option (Bool) :=
  cond (ltB x8 (List.length x3.2.2.2.2.1 : Int)) (cond (inb x8 (List.length x3.2.2.2.2.1)) ((novationref15_price N (List.getD x3.2.2.2.2.1 x8.toNat (0 : Int))).bind fun r24 => cond (!r24) (some false) (k_l17 x2 x3 (W .i64 (x8 + 1)))) (none)) (s_l22 x2 x3 (0 : Int))
def novationref15_RightBook.l17 (N : Nat) : Nat → novationref15_RightBook.t_l17
  | 0, _, _, _ => none
  | n + 1, x2, x3, x8 => novationref15_RightBook.l17b N (novationref15_RightBook.l22 N N) (novationref15_RightBook.l17 N n) x2 x3 x8
def novationref15_RightBook.l12b (N : Nat) (s_l17 : novationref15_RightBook.t_l17) (k_l12 : novationref15_RightBook.t_l12) (x2 : Ty.den tConfig) (x3 : Ty.den tBook) (x7 : Int) : Option (Bool) :=
  cond (ltB x7 (List.length x3.2.2.2.1 : Int)) (cond (inb x7 (List.length x3.2.2.2.1)) ((novationref15_there N x3 ((List.getD x3.2.2.2.1 x7.toNat ((0 : Int), ((0 : Int), ((0 : Int), ())))).1)).bind fun r21 => cond (!r21) (some false) (cond (inb x7 (List.length x3.2.2.2.1)) (cond (leB (List.length x2.1 : Int) (((List.getD x3.2.2.2.1 x7.toNat ((0 : Int), ((0 : Int), ((0 : Int), ())))).2).1)) (some false) (k_l12 x2 x3 (W .i64 (x7 + 1)))) (none))) (none)) (s_l17 x2 x3 (0 : Int))
def novationref15_RightBook.l12 (N : Nat) : Nat → novationref15_RightBook.t_l12
  | 0, _, _, _ => none
  | n + 1, x2, x3, x7 => novationref15_RightBook.l12b N (novationref15_RightBook.l17 N N) (novationref15_RightBook.l12 N n) x2 x3 x7
def novationref15_RightBook.l6b (N : Nat) (s_l12 : novationref15_RightBook.t_l12) (k_l6 : novationref15_RightBook.t_l6) (x2 : Ty.den tConfig) (x3 : Ty.den tBook) (x5 : Int) : Option (Bool) :=
  cond (ltB x5 (List.length x3.2.2.1 : Int)) (cond (inb x5 (List.length x3.2.2.1)) (cond (eqB ((List.getD x3.2.2.1 x5.toNat ((0 : Int), ((0 : Int), ((0 : Int), ())))).1) (5 : Int)) ((novationref15_there N x3 (((List.getD x3.2.2.1 x5.toNat ((0 : Int), ((0 : Int), ((0 : Int), ())))).2).1)).bind fun r9 => cond (!r9) (some false) (cond (eqB ((List.getD x3.2.2.1 x5.toNat ((0 : Int), ((0 : Int), ((0 : Int), ())))).1) (6 : Int)) ((novationref10_Status N x3.1 (((List.getD x3.2.2.1 x5.toNat ((0 : Int), ((0 : Int), ((0 : Int), ())))).2).1)).bind fun r10 => cond (eqB r10 0) (some false) (k_l6 x2 x3 (W .i64 (x5 + 1)))) (cond (eqB ((List.getD x3.2.2.1 x5.toNat ((0 : Int), ((0 : Int), ((0 : Int), ())))).1) (7 : Int)) ((novationref10_Status N x3.1 (((List.getD x3.2.2.1 x5.toNat ((0 : Int), ((0 : Int), ((0 : Int), ())))).2).1)).bind fun r12 => cond (eqB r12 0) (some false) (k_l6 x2 x3 (W .i64 (x5 + 1)))) (k_l6 x2 x3 (W .i64 (x5 + 1)))))) (cond (eqB ((List.getD x3.2.2.1 x5.toNat ((0 : Int), ((0 : Int), ((0 : Int), ())))).1) (6 : Int)) ((novationref10_Status N x3.1 (((List.getD x3.2.2.1 x5.toNat ((0 : Int), ((0 : Int), ((0 : Int), ())))).2).1)).bind fun r15 => cond (eqB r15 0) (some false) (k_l6 x2 x3 (W .i64 (x5 + 1)))) (cond (eqB ((List.getD x3.2.2.1 x5.toNat ((0 : Int), ((0 : Int), ((0 : Int), ())))).1) (7 : Int)) ((novationref10_Status N x3.1 (((List.getD x3.2.2.1 x5.toNat ((0 : Int), ((0 : Int), ((0 : Int), ())))).2).1)).bind fun r17 => cond (eqB r17 0) (some false) (k_l6 x2 x3 (W .i64 (x5 + 1)))) (k_l6 x2 x3 (W .i64 (x5 + 1)))))) (none)) (s_l12 x2 x3 (0 : Int))
def novationref15_RightBook.l6 (N : Nat) : Nat → novationref15_RightBook.t_l6
  | 0, _, _, _ => none
  | n + 1, x2, x3, x5 => novationref15_RightBook.l6b N (novationref15_RightBook.l12 N N) (novationref15_RightBook.l6 N n) x2 x3 x5
def novationref15_RightBook.b (N : Nat) (s_l6 : novationref15_RightBook.t_l6) (a0 : Ty.den tConfig) (a1 : Ty.den tBook) : Option (Bool) :=
  (novationref4_RightPlan N a0).bind fun r1 => cond (!r1) (some false) ((novationref10_RightRoll N a1.1 a1.2.1).bind fun r2 => cond (!r2) (some false) ((novationref10_Rows N a1.2.2.1).bind fun r3 => cond (!r3) (some false) ((novationref10_Flat N a1.2.2.2.1).bind fun r4 => cond (!r4) (some false) ((novationref15_Orders N a1.2.2.2.2.2.1).bind fun r5 => cond (!r5) (some false) (cond (!eqB (List.length a1.2.2.2.2.1 : Int) (List.length a0.1 : Int)) (some false) ((novationref10_Total N a1.2.2.1).bind fun r6 => (novationref1_Sign N r6).bind fun r7 => cond (!eqB r7 0) (some false) (s_l6 a0 a1 (0 : Int))))))))
def novationref15_RightBook (N : Nat) (a0 : Ty.den tConfig) (a1 : Ty.den tBook) : Option (Bool) := novationref15_RightBook.b N (novationref15_RightBook.l6 N N) a0 a1

abbrev novationref10_Legs.t_l4 := (List (Ty.den tI2)) → Ty.den tConfig → Int → Option (Bool)
def novationref10_Legs.l4b (N : Nat) (k_l4 : novationref10_Legs.t_l4) (x1 : List (Ty.den tI2)) (x2 : Ty.den tConfig) (x5 : Int) : Option (Bool) :=
  cond (ltB x5 (List.length x1 : Int)) (cond (inb x5 (List.length x1)) (cond (ltB ((List.getD x1 x5.toNat ((0 : Int), ((0 : Int), ()))).1) (0 : Int)) (some false) (cond (inb x5 (List.length x1)) (cond (leB (List.length x2.1 : Int) ((List.getD x1 x5.toNat ((0 : Int), ((0 : Int), ()))).1)) (some false) (cond (inb x5 (List.length x1)) (cond (eqB (((List.getD x1 x5.toNat ((0 : Int), ((0 : Int), ()))).2).1) (0 : Int)) (some false) (cond (inb x5 (List.length x1)) (cond (eqB (((List.getD x1 x5.toNat ((0 : Int), ((0 : Int), ()))).2).1) (-9223372036854775808 : Int)) (some false) (cond (ltB 0 x5) (cond (inb x5 (List.length x1)) (let v3 : Int := W .i64 (x5 - 1); cond (inb v3 (List.length x1)) (cond (leB ((List.getD x1 x5.toNat ((0 : Int), ((0 : Int), ()))).1) ((List.getD x1 v3.toNat ((0 : Int), ((0 : Int), ()))).1)) (some false) (k_l4 x1 x2 (W .i64 (x5 + 1)))) (none)) (none)) (k_l4 x1 x2 (W .i64 (x5 + 1))))) (none))) (none))) (none))) (none)) (some true)
def novationref10_Legs.l4 (N : Nat) : Nat → novationref10_Legs.t_l4
  | 0, _, _, _ => none
  | n + 1, x1, x2, x5 => novationref10_Legs.l4b N (novationref10_Legs.l4 N n) x1 x2 x5
def novationref10_Legs.b (N : Nat) (s_l4 : novationref10_Legs.t_l4) (a0 : Ty.den tConfig) (a1 : List (Ty.den tI2)) : Option (Bool) :=
  (novationref4_RightPlan N a0).bind fun r1 => cond (!r1) (some false) (s_l4 a1 a0 (0 : Int))
def novationref10_Legs (N : Nat) (a0 : Ty.den tConfig) (a1 : List (Ty.den tI2)) : Option (Bool) := novationref10_Legs.b N (novationref10_Legs.l4 N N) a0 a1

abbrev novationref20_RightLots.t_j9 := (List (Ty.den tLot)) → Ty.den tConfig → Int → Ty.den tLot → Option (Bool)
abbrev novationref20_RightLots.t_l4 := (List (Ty.den tLot)) → Ty.den tConfig → Int → Option (Bool)
def novationref20_RightLots.j9b (N : Nat) (k_l4 : novationref20_RightLots.t_l4) (x1 : List (Ty.den tLot)) (x2 : Ty.den tConfig) (x5 : Int) (x6 : Ty.den tLot) : Option (Bool) :=
  cond (eqB x6.2.2.2.1 1) (cond (!eqB x6.2.2.2.2.1 0) (some false) (cond (!eqB x6.2.2.2.2.2.1 0) (some false) (k_l4 x1 x2 (W .i64 (x5 + 1))))) (cond (eqB x6.2.2.2.1 3) (cond (!eqB x6.2.2.2.2.1 0) (some false) (cond (!eqB x6.2.2.2.2.2.1 0) (some false) (k_l4 x1 x2 (W .i64 (x5 + 1))))) (cond (eqB x6.2.2.2.1 2) (cond (ltB x6.2.2.2.2.1 1) (some false) (cond (ltB 12 x6.2.2.2.2.1) (some false) (cond (ltB x6.2.2.2.2.2.1 (-1152921504606846976)) (some false) (cond (ltB 1152921504606846976 x6.2.2.2.2.2.1) (some false) (k_l4 x1 x2 (W .i64 (x5 + 1))))))) (some false)))
def novationref20_RightLots.j9 (N : Nat) (k_l4 : novationref20_RightLots.t_l4) (x1 : List (Ty.den tLot)) (x2 : Ty.den tConfig) (x5 : Int) (x6 : Ty.den tLot) : Option (Bool) := novationref20_RightLots.j9b N k_l4 x1 x2 x5 x6
def novationref20_RightLots.l4b (N : Nat) (s_j9 : novationref20_RightLots.t_j9) (k_l4 : novationref20_RightLots.t_l4) (x1 : List (Ty.den tLot)) (x2 : Ty.den tConfig) (x5 : Int) : Option (Bool) :=
  cond (ltB x5 (List.length x1 : Int)) (cond (inb x5 (List.length x1)) (cond (ltB ((List.getD x1 x5.toNat ((0 : Int), (([] : List ((Int) × ((Int) × (Unit)))), ((0 : Int), ((0 : Int), ((0 : Int), ((0 : Int), ()))))))).1) (1 : Int)) (some false) (cond (ltB 1099511627776 ((List.getD x1 x5.toNat ((0 : Int), (([] : List ((Int) × ((Int) × (Unit)))), ((0 : Int), ((0 : Int), ((0 : Int), ((0 : Int), ()))))))).1)) (some false) (cond (ltB 0 x5) (let v3 : Int := W .i64 (x5 - 1); cond (inb v3 (List.length x1)) (cond (leB ((List.getD x1 x5.toNat ((0 : Int), (([] : List ((Int) × ((Int) × (Unit)))), ((0 : Int), ((0 : Int), ((0 : Int), ((0 : Int), ()))))))).1) ((List.getD x1 v3.toNat ((0 : Int), (([] : List ((Int) × ((Int) × (Unit)))), ((0 : Int), ((0 : Int), ((0 : Int), ((0 : Int), ()))))))).1)) (some false) (cond (eqB (List.length (((List.getD x1 x5.toNat ((0 : Int), (([] : List ((Int) × ((Int) × (Unit)))), ((0 : Int), ((0 : Int), ((0 : Int), ((0 : Int), ()))))))).2).1) : Int) (0 : Int)) (some false) ((novationref10_Legs N x2 (((List.getD x1 x5.toNat ((0 : Int), (([] : List ((Int) × ((Int) × (Unit)))), ((0 : Int), ((0 : Int), ((0 : Int), ((0 : Int), ()))))))).2).1)).bind fun r4 => cond (!r4) (some false) (cond (ltB 0 ((((List.getD x1 x5.toNat ((0 : Int), (([] : List ((Int) × ((Int) × (Unit)))), ((0 : Int), ((0 : Int), ((0 : Int), ((0 : Int), ()))))))).2).2).1)) (some false) (s_j9 x1 x2 x5 (List.getD x1 x5.toNat ((0 : Int), (([] : List ((Int) × ((Int) × (Unit)))), ((0 : Int), ((0 : Int), ((0 : Int), ((0 : Int), ())))))))))))) (none)) (cond (eqB (List.length (((List.getD x1 x5.toNat ((0 : Int), (([] : List ((Int) × ((Int) × (Unit)))), ((0 : Int), ((0 : Int), ((0 : Int), ((0 : Int), ()))))))).2).1) : Int) (0 : Int)) (some false) ((novationref10_Legs N x2 (((List.getD x1 x5.toNat ((0 : Int), (([] : List ((Int) × ((Int) × (Unit)))), ((0 : Int), ((0 : Int), ((0 : Int), ((0 : Int), ()))))))).2).1)).bind fun r9 => cond (!r9) (some false) (cond (ltB 0 ((((List.getD x1 x5.toNat ((0 : Int), (([] : List ((Int) × ((Int) × (Unit)))), ((0 : Int), ((0 : Int), ((0 : Int), ((0 : Int), ()))))))).2).2).1)) (some false) (s_j9 x1 x2 x5 (List.getD x1 x5.toNat ((0 : Int), (([] : List ((Int) × ((Int) × (Unit)))), ((0 : Int), ((0 : Int), ((0 : Int), ((0 : Int), ())))))))))))))) (none)) (some true)
def novationref20_RightLots.l4 (N : Nat) : Nat → novationref20_RightLots.t_l4
  | 0, _, _, _ => none
  | n + 1, x1, x2, x5 => novationref20_RightLots.l4b N (novationref20_RightLots.j9 N (novationref20_RightLots.l4 N n)) (novationref20_RightLots.l4 N n) x1 x2 x5
def novationref20_RightLots.b (N : Nat) (s_l4 : novationref20_RightLots.t_l4) (a0 : Ty.den tConfig) (a1 : List (Ty.den tLot)) : Option (Bool) :=
  (novationref4_RightPlan N a0).bind fun r1 => cond (!r1) (some false) (cond (ltB 12 (List.length a1 : Int)) (some false) (s_l4 a1 a0 (0 : Int)))
def novationref20_RightLots (N : Nat) (a0 : Ty.den tConfig) (a1 : List (Ty.den tLot)) : Option (Bool) := novationref20_RightLots.b N (novationref20_RightLots.l4 N N) a0 a1

def novationref20_RightBid (N : Nat) (a0 : Ty.den tI4) : Option (Bool) :=
  cond (leB 1 a0.1) (cond (leB a0.1 1099511627776) (cond (leB 1 a0.2.1) (cond (leB a0.2.1 1099511627776) (cond (leB 1 a0.2.2.1) (cond (leB a0.2.2.1 12) (cond (leB (-1152921504606846976) a0.2.2.2.1) (some (leB a0.2.2.2.1 1152921504606846976)) (some false)) (some false)) (some false)) (some false)) (some false)) (some false)) (some false)

abbrev novationref20_RightBids.t_l9 := (List (Ty.den tI4)) → Int → Int → Option (Bool)
abbrev novationref20_RightBids.t_j8 := (List (Ty.den tI4)) → Int → Option (Bool)
abbrev novationref20_RightBids.t_l4 := (List (Ty.den tI4)) → Int → Option (Bool)
def novationref20_RightBids.l9b (N : Nat) (k_l4 : novationref20_RightBids.t_l4) (k_l9 : novationref20_RightBids.t_l9) (x0 : List (Ty.den tI4)) (x3 : Int) (x4 : Int) : Option (Bool) :=
  cond (ltB x4 x3) (cond (inb x4 (List.length x0)) (cond (inb x3 (List.length x0)) (cond (eqB ((((List.getD x0 x4.toNat ((0 : Int), ((0 : Int), ((0 : Int), ((0 : Int), ()))))).2).2).1) ((((List.getD x0 x3.toNat ((0 : Int), ((0 : Int), ((0 : Int), ((0 : Int), ()))))).2).2).1)) (cond (inb x4 (List.length x0)) (cond (inb x3 (List.length x0)) (cond (eqB (((List.getD x0 x4.toNat ((0 : Int), ((0 : Int), ((0 : Int), ((0 : Int), ()))))).2).1) (((List.getD x0 x3.toNat ((0 : Int), ((0 : Int), ((0 : Int), ((0 : Int), ()))))).2).1)) (some false) (k_l9 x0 x3 (W .i64 (x4 + 1)))) (none)) (none)) (k_l9 x0 x3 (W .i64 (x4 + 1)))) (none)) (none)) (k_l4 x0 (W .i64 (x3 + 1)))
def novationref20_RightBids.l9 (N : Nat) (k_l4 : novationref20_RightBids.t_l4) : Nat → novationref20_RightBids.t_l9
  | 0, _, _, _ => none
  | n + 1, x0, x3, x4 => novationref20_RightBids.l9b N k_l4 (novationref20_RightBids.l9 N k_l4 n) x0 x3 x4
def novationref20_RightBids.j8b (N : Nat) (s_l9 : novationref20_RightBids.t_l9) (k_l4 : novationref20_RightBids.t_l4) (x0 : List (Ty.den tI4)) (x3 : Int) : Option (Bool) :=
  s_l9 x0 x3 (0 : Int)
def novationref20_RightBids.j8 (N : Nat) (k_l4 : novationref20_RightBids.t_l4) (x0 : List (Ty.den tI4)) (x3 : Int) : Option (Bool) := novationref20_RightBids.j8b N (novationref20_RightBids.l9 N k_l4 N) k_l4 x0 x3
def novationref20_RightBids.l4b (N : Nat) (s_j8 : novationref20_RightBids.t_j8) (k_l4 : novationref20_RightBids.t_l4) (x0 : List (Ty.den tI4)) (x3 : Int) : Option (Bool) :=
  cond (ltB x3 (List.length x0 : Int)) (cond (inb x3 (List.length x0)) ((novationref20_RightBid N (List.getD x0 x3.toNat ((0 : Int), ((0 : Int), ((0 : Int), ((0 : Int), ())))))).bind fun r2 => cond (!r2) (some false) (cond (ltB 0 x3) (cond (inb x3 (List.length x0)) (let v3 : Int := W .i64 (x3 - 1); cond (inb v3 (List.length x0)) (cond (leB ((List.getD x0 x3.toNat ((0 : Int), ((0 : Int), ((0 : Int), ((0 : Int), ()))))).1) ((List.getD x0 v3.toNat ((0 : Int), ((0 : Int), ((0 : Int), ((0 : Int), ()))))).1)) (some false) (s_j8 x0 x3)) (none)) (none)) (s_j8 x0 x3))) (none)) (some true)
def novationref20_RightBids.l4 (N : Nat) : Nat → novationref20_RightBids.t_l4
  | 0, _, _ => none
  | n + 1, x0, x3 => novationref20_RightBids.l4b N (novationref20_RightBids.j8 N (novationref20_RightBids.l4 N n)) (novationref20_RightBids.l4 N n) x0 x3
def novationref20_RightBids.b (N : Nat) (s_l4 : novationref20_RightBids.t_l4) (a0 : List (Ty.den tI4)) : Option (Bool) :=
  cond (ltB 40 (List.length a0 : Int)) (some false) (s_l4 a0 (0 : Int))
def novationref20_RightBids (N : Nat) (a0 : List (Ty.den tI4)) : Option (Bool) := novationref20_RightBids.b N (novationref20_RightBids.l4 N N) a0

abbrev novationref20_Best.t_l6 := (List (Ty.den tI4)) → Int → Ty.den tI4 → Ty.den tI4 → Bool → Int → Option ((Ty.den tI4) × (Bool))
def novationref20_Best.l6b (N : Nat) (k_l6 : novationref20_Best.t_l6) (x0 : List (Ty.den tI4)) (x1 : Int) (x4 : Ty.den tI4) (x6 : Ty.den tI4) (x7 : Bool) (x8 : Int) : Option ((Ty.den tI4) × (Bool)) :=
  cond (ltB x8 (List.length x0 : Int)) (cond (inb x8 (List.length x0)) (cond (eqB (((List.getD x0 x8.toNat ((0 : Int), ((0 : Int), ((0 : Int), ((0 : Int), ()))))).2).1) x1) (cond (!x7) (cond (inb x8 (List.length x0)) (k_l6 x0 x1 x4 (List.getD x0 x8.toNat ((0 : Int), ((0 : Int), ((0 : Int), ((0 : Int), ()))))) true (W .i64 (x8 + 1))) (none)) (cond (inb x8 (List.length x0)) (cond (ltB x6.2.2.2.1 (((((List.getD x0 x8.toNat ((0 : Int), ((0 : Int), ((0 : Int), ((0 : Int), ()))))).2).2).2).1)) (cond (inb x8 (List.length x0)) (k_l6 x0 x1 x4 (List.getD x0 x8.toNat ((0 : Int), ((0 : Int), ((0 : Int), ((0 : Int), ()))))) true (W .i64 (x8 + 1))) (none)) (k_l6 x0 x1 x4 x6 x7 (W .i64 (x8 + 1)))) (none))) (k_l6 x0 x1 x4 x6 x7 (W .i64 (x8 + 1)))) (none)) (some (x6, x7))
def novationref20_Best.l6 (N : Nat) : Nat → novationref20_Best.t_l6
  | 0, _, _, _, _, _, _ => none
  | n + 1, x0, x1, x4, x6, x7, x8 => novationref20_Best.l6b N (novationref20_Best.l6 N n) x0 x1 x4 x6 x7 x8
def novationref20_Best.b (N : Nat) (s_l6 : novationref20_Best.t_l6) (a0 : List (Ty.den tI4)) (a1 : Int) : Option ((Ty.den tI4) × (Bool)) :=
  (novationref20_RightBids N a0).bind fun r1 => cond (!r1) (some (((0 : Int), ((0 : Int), ((0 : Int), ((0 : Int), ())))), false)) (s_l6 a0 a1 ((0 : Int), ((0 : Int), ((0 : Int), ((0 : Int), ())))) ((0 : Int), ((0 : Int), ((0 : Int), ((0 : Int), ())))) false (0 : Int))
def novationref20_Best (N : Nat) (a0 : List (Ty.den tI4)) (a1 : Int) : Option ((Ty.den tI4) × (Bool)) := novationref20_Best.b N (novationref20_Best.l6 N N) a0 a1

abbrev novationref10_House.t_l4 := (List (Ty.den tI4)) → Int → Int → Option (Int)
def novationref10_House.l4b (N : Nat) (k_l4 : novationref10_House.t_l4) (x0 : List (Ty.den tI4)) (x1 : Int) (x5 : Int) : Option (Int) :=
  cond (ltB x5 (List.length x0 : Int)) (cond (inb x5 (List.length x0)) (cond (eqB (((List.getD x0 x5.toNat ((0 : Int), ((0 : Int), ((0 : Int), ((0 : Int), ()))))).2).1) x1) (cond (inb x5 (List.length x0)) (cond (eqB ((((List.getD x0 x5.toNat ((0 : Int), ((0 : Int), ((0 : Int), ((0 : Int), ()))))).2).2).1) (1 : Int)) (cond (inb x5 (List.length x0)) (some ((List.getD x0 x5.toNat ((0 : Int), ((0 : Int), ((0 : Int), ((0 : Int), ()))))).1)) (none)) (k_l4 x0 x1 (W .i64 (x5 + 1)))) (none)) (k_l4 x0 x1 (W .i64 (x5 + 1)))) (none)) (some (0 : Int))
def novationref10_House.l4 (N : Nat) : Nat → novationref10_House.t_l4
  | 0, _, _, _ => none
  | n + 1, x0, x1, x5 => novationref10_House.l4b N (novationref10_House.l4 N n) x0 x1 x5
def novationref10_House.b (N : Nat) (s_l4 : novationref10_House.t_l4) (a0 : List (Ty.den tI4)) (a1 : Int) : Option (Int) :=
  (novationref10_Accs N a0).bind fun r1 => cond (!r1) (some (0 : Int)) (s_l4 a0 a1 (0 : Int))
def novationref10_House (N : Nat) (a0 : List (Ty.den tI4)) (a1 : Int) : Option (Int) := novationref10_House.b N (novationref10_House.l4 N N) a0 a1

def novationref20_member (N : Nat) (a0 : Ty.den tBook) (a1 : Int) : Option (Int) :=
  (novationref10_Status N a0.1 a1).bind fun r1 => some r1

def novationref1_Turned (N : Nat) (a0 : Ty.den tBig) : Option (Ty.den tBig) :=
  (novationref1_made N (!a0.1) a0.2.1).bind fun r1 => some r1

def novationref10_Both (N : Nat) (a0 : Int) (a1 : Int) (a2 : Int) (a3 : Int) (a4 : Ty.den tBig) : Option (List (Ty.den tPart)) :=
  (novationref1_Turned N a4).bind fun r1 => some ([(a0, (a1, (r1, ()))), (a2, (a3, (a4, ())))])

def novationref1_Int (N : Nat) (a0 : Ty.den tBig) : Option ((Int) × (Bool)) :=
  cond (ltB 2 (List.length a0.2.1 : Int)) (some ((0 : Int), false)) ((novationref1_digit N a0.2.1 (0 : Int)).bind fun r1 => (novationref1_digit N a0.2.1 (1 : Int)).bind fun r2 => cond (ltB 32 0) (none) (let v4 : Int := bitw .or .u64 r1 (W .u64 (shl .u64 r2 32)); cond (a0.1) (cond (ltB 9223372036854775808 v4) (some ((0 : Int), false)) (some ((W .i64 (W .u64 (0 - v4))), true))) (cond (ltB 9223372036854775807 v4) (some ((0 : Int), false)) (some ((W .i64 v4), true)))))

def novationref1_Quantity (N : Nat) (a0 : Ty.den tBig) : Option ((Int) × (Bool)) :=
  (novationref1_Int N a0).bind fun r1 => cond (!r1.2) (some ((0 : Int), false)) (cond (eqB r1.1 (-9223372036854775808)) (some ((0 : Int), false)) (some (r1.1, true)))

abbrev novationref10_Shifted.t_l15 := (List (Ty.den tI3)) → (List (Ty.den tI3)) → (List (Ty.den tI3)) → Int → Int → Int → Int → Bool → Ty.den tBig → Int → Option ((List (Ty.den tI3)) × (Bool))
abbrev novationref10_Shifted.t_j13 := (List (Ty.den tI3)) → (List (Ty.den tI3)) → (List (Ty.den tI3)) → Int → Int → Int → Int → Bool → Option ((List (Ty.den tI3)) × (Bool))
abbrev novationref10_Shifted.t_l7 := (List (Ty.den tI3)) → (List (Ty.den tI3)) → (List (Ty.den tI3)) → Int → Int → Int → Option ((List (Ty.den tI3)) × (Bool))
abbrev novationref10_Shifted.t_l4 := (List (Ty.den tI3)) → (List (Ty.den tI3)) → (List (Ty.den tI3)) → Int → Int → Option ((List (Ty.den tI3)) × (Bool))
def novationref10_Shifted.l15b (N : Nat) (k_l4 : novationref10_Shifted.t_l4) (k_l7 : novationref10_Shifted.t_l7) (k_l15 : novationref10_Shifted.t_l15) (x0 : List (Ty.den tI3)) (x1 : List (Ty.den tI3)) (x6 : List (Ty.den tI3)) (x7 : Int) (x8 : Int) (x9 : Int) (x10 : Int) (x11 : Bool) (x12 : Ty.den tBig) (x13 : Int) : Option ((List (Ty.den tI3)) × (Bool)) :=
  cond (ltB x13 (List.length x1 : Int)) (cond (inb x13 (List.length x1)) (cond (eqB ((List.getD x1 x13.toNat ((0 : Int), ((0 : Int), ((0 : Int), ())))).1) x8) (cond (inb x13 (List.length x1)) (cond (eqB (((List.getD x1 x13.toNat ((0 : Int), ((0 : Int), ((0 : Int), ())))).2).1) x9) (cond (inb x13 (List.length x1)) ((novationref1_Whole N ((((List.getD x1 x13.toNat ((0 : Int), ((0 : Int), ((0 : Int), ())))).2).2).1)).bind fun r6 => (novationref1_Plus N x12 r6).bind fun r7 => k_l15 x0 x1 x6 x7 x8 x9 x10 true r7 (W .i64 (x13 + 1))) (none)) (k_l15 x0 x1 x6 x7 x8 x9 x10 x11 x12 (W .i64 (x13 + 1)))) (none)) (k_l15 x0 x1 x6 x7 x8 x9 x10 x11 x12 (W .i64 (x13 + 1)))) (none)) (cond (x11) ((novationref1_Whole N x10).bind fun r11 => (novationref1_Plus N x12 r11).bind fun r12 => (novationref1_Quantity N r12).bind fun r13 => cond (!r13.2) (some ([], false)) (cond (!eqB r13.1 0) (cond (small (List.length x6 + List.length ([(x8, (x9, (r13.1, ())))]))) (k_l7 x0 x1 (x6 ++ ([(x8, (x9, (r13.1, ())))])) x7 x8 (W .i64 (x9 + 1))) (none)) (k_l7 x0 x1 x6 x7 x8 (W .i64 (x9 + 1))))) (cond (!eqB x10 0) (cond (small (List.length x6 + List.length ([(x8, (x9, (x10, ())))]))) (k_l7 x0 x1 (x6 ++ ([(x8, (x9, (x10, ())))])) x7 x8 (W .i64 (x9 + 1))) (none)) (k_l7 x0 x1 x6 x7 x8 (W .i64 (x9 + 1)))))
def novationref10_Shifted.l15 (N : Nat) (k_l4 : novationref10_Shifted.t_l4) (k_l7 : novationref10_Shifted.t_l7) : Nat → novationref10_Shifted.t_l15
  | 0, _, _, _, _, _, _, _, _, _, _ => none
  | n + 1, x0, x1, x6, x7, x8, x9, x10, x11, x12, x13 => novationref10_Shifted.l15b N k_l4 k_l7 (novationref10_Shifted.l15 N k_l4 k_l7 n) x0 x1 x6 x7 x8 x9 x10 x11 x12 x13
def novationref10_Shifted.j13b (N : Nat) (s_l15 : novationref10_Shifted.t_l15) (k_l4 : novationref10_Shifted.t_l4) (k_l7 : novationref10_Shifted.t_l7) (x0 : List (Ty.den tI3)) (x1 : List (Ty.den tI3)) (x6 : List (Ty.den tI3)) (x7 : Int) (x8 : Int) (x9 : Int) (x10 : Int) (x11 : Bool) : Option ((List (Ty.den tI3)) × (Bool)) :=
  s_l15 x0 x1 x6 x7 x8 x9 x10 x11 (false, (([] : List (Int)), ())) (0 : Int)
def novationref10_Shifted.j13 (N : Nat) (k_l4 : novationref10_Shifted.t_l4) (k_l7 : novationref10_Shifted.t_l7) (x0 : List (Ty.den tI3)) (x1 : List (Ty.den tI3)) (x6 : List (Ty.den tI3)) (x7 : Int) (x8 : Int) (x9 : Int) (x10 : Int) (x11 : Bool) : Option ((List (Ty.den tI3)) × (Bool)) := novationref10_Shifted.j13b N (novationref10_Shifted.l15 N k_l4 k_l7 N) k_l4 k_l7 x0 x1 x6 x7 x8 x9 x10 x11
def novationref10_Shifted.l7b (N : Nat) (s_j13 : novationref10_Shifted.t_j13) (k_l4 : novationref10_Shifted.t_l4) (k_l7 : novationref10_Shifted.t_l7) (x0 : List (Ty.den tI3)) (x1 : List (Ty.den tI3)) (x6 : List (Ty.den tI3)) (x7 : Int) (x8 : Int) (x9 : Int) : Option ((List (Ty.den tI3)) × (Bool)) :=
  cond (ltB x9 6) (cond (ltB x7 (List.length x0 : Int)) (cond (inb x7 (List.length x0)) (cond (eqB ((List.getD x0 x7.toNat ((0 : Int), ((0 : Int), ((0 : Int), ())))).1) x8) (cond (inb x7 (List.length x0)) (cond (eqB (((List.getD x0 x7.toNat ((0 : Int), ((0 : Int), ((0 : Int), ())))).2).1) x9) (cond (inb x7 (List.length x0)) (s_j13 x0 x1 x6 (W .i64 (x7 + 1)) x8 x9 ((((List.getD x0 x7.toNat ((0 : Int), ((0 : Int), ((0 : Int), ())))).2).2).1) false) (none)) (s_j13 x0 x1 x6 x7 x8 x9 (0 : Int) false)) (none)) (s_j13 x0 x1 x6 x7 x8 x9 (0 : Int) false)) (none)) (s_j13 x0 x1 x6 x7 x8 x9 (0 : Int) false)) (k_l4 x0 x1 x6 x7 (W .i64 (x8 + 1)))
def novationref10_Shifted.l7 (N : Nat) (k_l4 : novationref10_Shifted.t_l4) : Nat → novationref10_Shifted.t_l7
  | 0, _, _, _, _, _, _ => none
  | n + 1, x0, x1, x6, x7, x8, x9 => novationref10_Shifted.l7b N (novationref10_Shifted.j13 N k_l4 (novationref10_Shifted.l7 N k_l4 n)) k_l4 (novationref10_Shifted.l7 N k_l4 n) x0 x1 x6 x7 x8 x9
def novationref10_Shifted.l4b (N : Nat) (s_l7 : novationref10_Shifted.t_l7) (k_l4 : novationref10_Shifted.t_l4) (x0 : List (Ty.den tI3)) (x1 : List (Ty.den tI3)) (x6 : List (Ty.den tI3)) (x7 : Int) (x8 : Int) : Option ((List (Ty.den tI3)) × (Bool)) :=
  cond (leB x8 24) (s_l7 x0 x1 x6 x7 x8 (0 : Int)) (some (x6, true))
def novationref10_Shifted.l4 (N : Nat) : Nat → novationref10_Shifted.t_l4
  | 0, _, _, _, _, _ => none
  | n + 1, x0, x1, x6, x7, x8 => novationref10_Shifted.l4b N (novationref10_Shifted.l7 N (novationref10_Shifted.l4 N n) N) (novationref10_Shifted.l4 N n) x0 x1 x6 x7 x8
def novationref10_Shifted.b (N : Nat) (s_l4 : novationref10_Shifted.t_l4) (a0 : List (Ty.den tI3)) (a1 : List (Ty.den tI3)) : Option ((List (Ty.den tI3)) × (Bool)) :=
  s_l4 a0 a1 ([]) (0 : Int) (0 : Int)
def novationref10_Shifted (N : Nat) (a0 : List (Ty.den tI3)) (a1 : List (Ty.den tI3)) : Option ((List (Ty.den tI3)) × (Bool)) := novationref10_Shifted.b N (novationref10_Shifted.l4 N N) a0 a1

abbrev novationref10_behind.t_l3 := Int → Int → Int → (List (Ty.den tPart)) → Ty.den tBig → Bool → Int → Option ((Int) × (Bool))
def novationref10_behind.l3b (N : Nat) (k_l3 : novationref10_behind.t_l3) (x0 : Int) (x1 : Int) (x2 : Int) (x3 : List (Ty.den tPart)) (x10 : Ty.den tBig) (x11 : Bool) (x12 : Int) : Option ((Int) × (Bool)) :=
  cond (ltB x12 (List.length x3 : Int)) (cond (inb x12 (List.length x3)) (cond (eqB ((List.getD x3 x12.toNat ((0 : Int), ((0 : Int), ((false, (([] : List (Int)), ())), ())))).1) x1) (cond (inb x12 (List.length x3)) (cond (eqB (((List.getD x3 x12.toNat ((0 : Int), ((0 : Int), ((false, (([] : List (Int)), ())), ())))).2).1) x2) (cond (inb x12 (List.length x3)) ((novationref1_Plus N x10 ((((List.getD x3 x12.toNat ((0 : Int), ((0 : Int), ((false, (([] : List (Int)), ())), ())))).2).2).1)).bind fun r2 => k_l3 x0 x1 x2 x3 r2 true (W .i64 (x12 + 1))) (none)) (k_l3 x0 x1 x2 x3 x10 x11 (W .i64 (x12 + 1)))) (none)) (k_l3 x0 x1 x2 x3 x10 x11 (W .i64 (x12 + 1)))) (none)) (cond (!x11) (some (x0, true)) ((novationref1_Whole N x0).bind fun r6 => (novationref1_Plus N x10 r6).bind fun r7 => (novationref1_Int N r7).bind fun r8 => some (r8.1, r8.2)))
def novationref10_behind.l3 (N : Nat) : Nat → novationref10_behind.t_l3
  | 0, _, _, _, _, _, _, _ => none
  | n + 1, x0, x1, x2, x3, x10, x11, x12 => novationref10_behind.l3b N (novationref10_behind.l3 N n) x0 x1 x2 x3 x10 x11 x12
def novationref10_behind.b (N : Nat) (s_l3 : novationref10_behind.t_l3) (a0 : Int) (a1 : Int) (a2 : Int) (a3 : List (Ty.den tPart)) : Option ((Int) × (Bool)) :=
  s_l3 a0 a1 a2 a3 (false, (([] : List (Int)), ())) false (0 : Int)
def novationref10_behind (N : Nat) (a0 : Int) (a1 : Int) (a2 : Int) (a3 : List (Ty.den tPart)) : Option ((Int) × (Bool)) := novationref10_behind.b N (novationref10_behind.l3 N N) a0 a1 a2 a3

abbrev novationref10_Laid.t_j13 := (List (Ty.den tI3)) → (List (Ty.den tPart)) → (List (Ty.den tI3)) → Int → Int → Int → Int → Option ((List (Ty.den tI3)) × (Bool))
abbrev novationref10_Laid.t_l7 := (List (Ty.den tI3)) → (List (Ty.den tPart)) → (List (Ty.den tI3)) → Int → Int → Int → Option ((List (Ty.den tI3)) × (Bool))
abbrev novationref10_Laid.t_l4 := (List (Ty.den tI3)) → (List (Ty.den tPart)) → (List (Ty.den tI3)) → Int → Int → Option ((List (Ty.den tI3)) × (Bool))
def novationref10_Laid.j13b (N : Nat) (k_l4 : novationref10_Laid.t_l4) (k_l7 : novationref10_Laid.t_l7) (x0 : List (Ty.den tI3)) (x1 : List (Ty.den tPart)) (x6 : List (Ty.den tI3)) (x7 : Int) (x8 : Int) (x9 : Int) (x10 : Int) : Option ((List (Ty.den tI3)) × (Bool)) :=
  (novationref10_behind N x10 x8 x9 x1).bind fun r5 => cond (!r5.2) (some ([], false)) (cond (!eqB r5.1 0) (cond (small (List.length x6 + List.length ([(x8, (x9, (r5.1, ())))]))) (k_l7 x0 x1 (x6 ++ ([(x8, (x9, (r5.1, ())))])) x7 x8 (W .i64 (x9 + 1))) (none)) (k_l7 x0 x1 x6 x7 x8 (W .i64 (x9 + 1))))
def novationref10_Laid.j13 (N : Nat) (k_l4 : novationref10_Laid.t_l4) (k_l7 : novationref10_Laid.t_l7) (x0 : List (Ty.den tI3)) (x1 : List (Ty.den tPart)) (x6 : List (Ty.den tI3)) (x7 : Int) (x8 : Int) (x9 : Int) (x10 : Int) : Option ((List (Ty.den tI3)) × (Bool)) := novationref10_Laid.j13b N k_l4 k_l7 x0 x1 x6 x7 x8 x9 x10
def novationref10_Laid.l7b (N : Nat) (s_j13 : novationref10_Laid.t_j13) (k_l4 : novationref10_Laid.t_l4) (k_l7 : novationref10_Laid.t_l7) (x0 : List (Ty.den tI3)) (x1 : List (Ty.den tPart)) (x6 : List (Ty.den tI3)) (x7 : Int) (x8 : Int) (x9 : Int) : Option ((List (Ty.den tI3)) × (Bool)) :=
  cond (leB x9 24) (cond (ltB x7 (List.length x0 : Int)) (cond (inb x7 (List.length x0)) (cond (eqB ((List.getD x0 x7.toNat ((0 : Int), ((0 : Int), ((0 : Int), ())))).1) x8) (cond (inb x7 (List.length x0)) (cond (eqB (((List.getD x0 x7.toNat ((0 : Int), ((0 : Int), ((0 : Int), ())))).2).1) x9) (cond (inb x7 (List.length x0)) (s_j13 x0 x1 x6 (W .i64 (x7 + 1)) x8 x9 ((((List.getD x0 x7.toNat ((0 : Int), ((0 : Int), ((0 : Int), ())))).2).2).1)) (none)) (s_j13 x0 x1 x6 x7 x8 x9 (0 : Int))) (none)) (s_j13 x0 x1 x6 x7 x8 x9 (0 : Int))) (none)) (s_j13 x0 x1 x6 x7 x8 x9 (0 : Int))) (k_l4 x0 x1 x6 x7 (W .i64 (x8 + 1)))
def novationref10_Laid.l7 (N : Nat) (k_l4 : novationref10_Laid.t_l4) : Nat → novationref10_Laid.t_l7
  | 0, _, _, _, _, _, _ => none
  | n + 1, x0, x1, x6, x7, x8, x9 => novationref10_Laid.l7b N (novationref10_Laid.j13 N k_l4 (novationref10_Laid.l7 N k_l4 n)) k_l4 (novationref10_Laid.l7 N k_l4 n) x0 x1 x6 x7 x8 x9
def novationref10_Laid.l4b (N : Nat) (s_l7 : novationref10_Laid.t_l7) (k_l4 : novationref10_Laid.t_l4) (x0 : List (Ty.den tI3)) (x1 : List (Ty.den tPart)) (x6 : List (Ty.den tI3)) (x7 : Int) (x8 : Int) : Option ((List (Ty.den tI3)) × (Bool)) :=
  cond (leB x8 7) (s_l7 x0 x1 x6 x7 x8 (0 : Int)) (some (x6, true))
def novationref10_Laid.l4 (N : Nat) : Nat → novationref10_Laid.t_l4
  | 0, _, _, _, _, _ => none
  | n + 1, x0, x1, x6, x7, x8 => novationref10_Laid.l4b N (novationref10_Laid.l7 N (novationref10_Laid.l4 N n) N) (novationref10_Laid.l4 N n) x0 x1 x6 x7 x8
def novationref10_Laid.b (N : Nat) (s_l4 : novationref10_Laid.t_l4) (a0 : List (Ty.den tI3)) (a1 : List (Ty.den tPart)) : Option ((List (Ty.den tI3)) × (Bool)) :=
  s_l4 a0 a1 ([]) (0 : Int) (1 : Int)
def novationref10_Laid (N : Nat) (a0 : List (Ty.den tI3)) (a1 : List (Ty.den tPart)) : Option ((List (Ty.den tI3)) × (Bool)) := novationref10_Laid.b N (novationref10_Laid.l4 N N) a0 a1

def novationref15_With (N : Nat) (a0 : Ty.den tBook) (a1 : List (Ty.den tI3)) (a2 : List (Ty.den tPart)) : Option ((Ty.den tBook) × (Int)) :=
  (novationref10_Shifted N a0.2.2.2.1 a1).bind fun r1 => cond (!r1.2) (some ((([] : List ((Int) × ((Int) × (Unit)))), (([] : List ((Int) × ((Int) × ((Int) × ((Int) × (Unit)))))), (([] : List ((Int) × ((Int) × ((Int) × (Unit))))), (([] : List ((Int) × ((Int) × ((Int) × (Unit))))), (([] : List (Int)), (([] : List ((Int) × ((Int) × ((Int) × ((Int) × ((Int) × ((Int) × (Unit)))))))), ())))))), (2 : Int))) ((novationref10_Laid N a0.2.2.1 a2).bind fun r2 => cond (!r2.2) (some ((([] : List ((Int) × ((Int) × (Unit)))), (([] : List ((Int) × ((Int) × ((Int) × ((Int) × (Unit)))))), (([] : List ((Int) × ((Int) × ((Int) × (Unit))))), (([] : List ((Int) × ((Int) × ((Int) × (Unit))))), (([] : List (Int)), (([] : List ((Int) × ((Int) × ((Int) × ((Int) × ((Int) × ((Int) × (Unit)))))))), ())))))), (2 : Int))) (some ((a0.1, (a0.2.1, (r2.1, (r1.1, a0.2.2.2.2)))), (0 : Int))))

abbrev novationref20_Award.t_l22 := (List (Ty.den tLot)) → (List (Ty.den tI4)) → Ty.den tBook → Ty.den tBook → (List (Ty.den tI3)) → (List (Ty.den tPart)) → (List (Ty.den tLot)) → Int → Ty.den tLot → Ty.den tI4 → Int → Int → Option ((Ty.den tBook) × (List (Ty.den tLot)) × (Int))
abbrev novationref20_Award.t_l7 := (List (Ty.den tLot)) → (List (Ty.den tI4)) → Ty.den tBook → Ty.den tBook → (List (Ty.den tI3)) → (List (Ty.den tPart)) → (List (Ty.den tLot)) → Int → Option ((Ty.den tBook) × (List (Ty.den tLot)) × (Int))
def novationref20_Award.l22b (N : Nat) (k_l7 : novationref20_Award.t_l7) (k_l22 : novationref20_Award.t_l22) (x2 : List (Ty.den tLot)) (x3 : List (Ty.den tI4)) (x5 : Ty.den tBook) (x8 : Ty.den tBook) (x11 : List (Ty.den tI3)) (x12 : List (Ty.den tPart)) (x13 : List (Ty.den tLot)) (x14 : Int) (x15 : Ty.den tLot) (x16 : Ty.den tI4) (x18 : Int) (x19 : Int) : Option ((Ty.den tBook) × (List (Ty.den tLot)) × (Int)) :=
  cond (ltB x19 (List.length x15.2.1 : Int)) (cond (inb x19 (List.length x15.2.1)) (cond (inb x19 (List.length x15.2.1)) (let v14 : Int := W .i64 (0 - (((List.getD x15.2.1 x19.toNat ((0 : Int), ((0 : Int), ()))).2).1)); cond (inb x19 (List.length x15.2.1)) (cond (inb x19 (List.length x15.2.1)) (cond (small (List.length x11 + List.length ([((0 : Int), ((List.getD x15.2.1 x19.toNat ((0 : Int), ((0 : Int), ()))).1, (v14, ()))), (x18, ((List.getD x15.2.1 x19.toNat ((0 : Int), ((0 : Int), ()))).1, (((List.getD x15.2.1 x19.toNat ((0 : Int), ((0 : Int), ()))).2).1, ())))]))) (k_l22 x2 x3 x5 x8 (x11 ++ ([((0 : Int), ((List.getD x15.2.1 x19.toNat ((0 : Int), ((0 : Int), ()))).1, (v14, ()))), (x18, ((List.getD x15.2.1 x19.toNat ((0 : Int), ((0 : Int), ()))).1, (((List.getD x15.2.1 x19.toNat ((0 : Int), ((0 : Int), ()))).2).1, ())))])) x12 x13 x14 x15 x16 x18 (W .i64 (x19 + 1))) (none)) (none)) (none)) (none)) (none)) ((novationref1_Whole N x16.2.2.2.1).bind fun r17 => (novationref10_Both N (5 : Int) x18 (2 : Int) (0 : Int) r17).bind fun r18 => cond (small (List.length x12 + List.length r18)) (cond (small (List.length x13 + List.length ([x15]))) (k_l7 x2 x3 x5 x8 x11 (x12 ++ r18) (x13 ++ ([x15])) (W .i64 (x14 + 1))) (none)) (none))
def novationref20_Award.l22 (N : Nat) (k_l7 : novationref20_Award.t_l7) : Nat → novationref20_Award.t_l22
  | 0, _, _, _, _, _, _, _, _, _, _, _, _ => none
  | n + 1, x2, x3, x5, x8, x11, x12, x13, x14, x15, x16, x18, x19 => novationref20_Award.l22b N k_l7 (novationref20_Award.l22 N k_l7 n) x2 x3 x5 x8 x11 x12 x13 x14 x15 x16 x18 x19
def novationref20_Award.l7b (N : Nat) (s_l22 : novationref20_Award.t_l22) (k_l7 : novationref20_Award.t_l7) (x2 : List (Ty.den tLot)) (x3 : List (Ty.den tI4)) (x5 : Ty.den tBook) (x8 : Ty.den tBook) (x11 : List (Ty.den tI3)) (x12 : List (Ty.den tPart)) (x13 : List (Ty.den tLot)) (x14 : Int) : Option ((Ty.den tBook) × (List (Ty.den tLot)) × (Int)) :=
  cond (ltB x14 (List.length x2 : Int)) (cond (inb x14 (List.length x2)) (cond (small (List.length ([] : List ((Int) × ((Int) × (Unit)))) + List.length (((List.getD x2 x14.toNat ((0 : Int), (([] : List ((Int) × ((Int) × (Unit)))), ((0 : Int), ((0 : Int), ((0 : Int), ((0 : Int), ()))))))).2).1))) (let v5 : List ((Int) × ((Int) × (Unit))) := ([] : List ((Int) × ((Int) × (Unit)))) ++ (((List.getD x2 x14.toNat ((0 : Int), (([] : List ((Int) × ((Int) × (Unit)))), ((0 : Int), ((0 : Int), ((0 : Int), ((0 : Int), ()))))))).2).1); cond (!eqB (((((List.getD x2 x14.toNat ((0 : Int), (([] : List ((Int) × ((Int) × (Unit)))), ((0 : Int), ((0 : Int), ((0 : Int), ((0 : Int), ()))))))).2).2).2).1) (1 : Int)) (cond (small (List.length x13 + List.length ([((List.getD x2 x14.toNat ((0 : Int), (([] : List ((Int) × ((Int) × (Unit)))), ((0 : Int), ((0 : Int), ((0 : Int), ((0 : Int), ()))))))).1, (v5, ((List.getD x2 x14.toNat ((0 : Int), (([] : List ((Int) × ((Int) × (Unit)))), ((0 : Int), ((0 : Int), ((0 : Int), ((0 : Int), ()))))))).2).2))]))) (k_l7 x2 x3 x5 x8 x11 x12 (x13 ++ ([((List.getD x2 x14.toNat ((0 : Int), (([] : List ((Int) × ((Int) × (Unit)))), ((0 : Int), ((0 : Int), ((0 : Int), ((0 : Int), ()))))))).1, (v5, ((List.getD x2 x14.toNat ((0 : Int), (([] : List ((Int) × ((Int) × (Unit)))), ((0 : Int), ((0 : Int), ((0 : Int), ((0 : Int), ()))))))).2).2))])) (W .i64 (x14 + 1))) (none)) ((novationref20_Best N x3 ((List.getD x2 x14.toNat ((0 : Int), (([] : List ((Int) × ((Int) × (Unit)))), ((0 : Int), ((0 : Int), ((0 : Int), ((0 : Int), ()))))))).1)).bind fun r8 => cond (!r8.2) (cond (small (List.length x13 + List.length ([((List.getD x2 x14.toNat ((0 : Int), (([] : List ((Int) × ((Int) × (Unit)))), ((0 : Int), ((0 : Int), ((0 : Int), ((0 : Int), ()))))))).1, (v5, ((((List.getD x2 x14.toNat ((0 : Int), (([] : List ((Int) × ((Int) × (Unit)))), ((0 : Int), ((0 : Int), ((0 : Int), ((0 : Int), ()))))))).2).2).1, ((3 : Int), ((((List.getD x2 x14.toNat ((0 : Int), (([] : List ((Int) × ((Int) × (Unit)))), ((0 : Int), ((0 : Int), ((0 : Int), ((0 : Int), ()))))))).2).2).2).2))))]))) (k_l7 x2 x3 x5 x8 x11 x12 (x13 ++ ([((List.getD x2 x14.toNat ((0 : Int), (([] : List ((Int) × ((Int) × (Unit)))), ((0 : Int), ((0 : Int), ((0 : Int), ((0 : Int), ()))))))).1, (v5, ((((List.getD x2 x14.toNat ((0 : Int), (([] : List ((Int) × ((Int) × (Unit)))), ((0 : Int), ((0 : Int), ((0 : Int), ((0 : Int), ()))))))).2).2).1, ((3 : Int), ((((List.getD x2 x14.toNat ((0 : Int), (([] : List ((Int) × ((Int) × (Unit)))), ((0 : Int), ((0 : Int), ((0 : Int), ((0 : Int), ()))))))).2).2).2).2))))])) (W .i64 (x14 + 1))) (none)) ((novationref10_House N x5.2.1 r8.1.2.2.1).bind fun r11 => cond (eqB r11 0) (some ((([] : List ((Int) × ((Int) × (Unit)))), (([] : List ((Int) × ((Int) × ((Int) × ((Int) × (Unit)))))), (([] : List ((Int) × ((Int) × ((Int) × (Unit))))), (([] : List ((Int) × ((Int) × ((Int) × (Unit))))), (([] : List (Int)), (([] : List ((Int) × ((Int) × ((Int) × ((Int) × ((Int) × ((Int) × (Unit)))))))), ())))))), [], (3 : Int))) ((novationref20_member N x5 r8.1.2.2.1).bind fun r12 => cond (eqB r12 0) (some ((([] : List ((Int) × ((Int) × (Unit)))), (([] : List ((Int) × ((Int) × ((Int) × ((Int) × (Unit)))))), (([] : List ((Int) × ((Int) × ((Int) × (Unit))))), (([] : List ((Int) × ((Int) × ((Int) × (Unit))))), (([] : List (Int)), (([] : List ((Int) × ((Int) × ((Int) × ((Int) × ((Int) × ((Int) × (Unit)))))))), ())))))), [], (3 : Int))) (s_l22 x2 x3 x5 x8 x11 x12 x13 x14 ((List.getD x2 x14.toNat ((0 : Int), (([] : List ((Int) × ((Int) × (Unit)))), ((0 : Int), ((0 : Int), ((0 : Int), ((0 : Int), ()))))))).1, (v5, ((((List.getD x2 x14.toNat ((0 : Int), (([] : List ((Int) × ((Int) × (Unit)))), ((0 : Int), ((0 : Int), ((0 : Int), ((0 : Int), ()))))))).2).2).1, ((2 : Int), (r8.1.2.2.1, (r8.1.2.2.2.1, ((((((List.getD x2 x14.toNat ((0 : Int), (([] : List ((Int) × ((Int) × (Unit)))), ((0 : Int), ((0 : Int), ((0 : Int), ((0 : Int), ()))))))).2).2).2).2).2).2)))))) r8.1 r11 (0 : Int)))))) (none)) (none)) ((novationref15_With N x5 x11 x12).bind fun r22 => cond (!eqB r22.2 0) (some ((([] : List ((Int) × ((Int) × (Unit)))), (([] : List ((Int) × ((Int) × ((Int) × ((Int) × (Unit)))))), (([] : List ((Int) × ((Int) × ((Int) × (Unit))))), (([] : List ((Int) × ((Int) × ((Int) × (Unit))))), (([] : List (Int)), (([] : List ((Int) × ((Int) × ((Int) × ((Int) × ((Int) × ((Int) × (Unit)))))))), ())))))), [], r22.2)) (some (r22.1, x13, (0 : Int))))
def novationref20_Award.l7 (N : Nat) : Nat → novationref20_Award.t_l7
  | 0, _, _, _, _, _, _, _, _ => none
  | n + 1, x2, x3, x5, x8, x11, x12, x13, x14 => novationref20_Award.l7b N (novationref20_Award.l22 N (novationref20_Award.l7 N n) N) (novationref20_Award.l7 N n) x2 x3 x5 x8 x11 x12 x13 x14
def novationref20_Award.b (N : Nat) (s_l7 : novationref20_Award.t_l7) (a0 : Ty.den tConfig) (a1 : Ty.den tBook) (a2 : List (Ty.den tLot)) (a3 : List (Ty.den tI4)) : Option ((Ty.den tBook) × (List (Ty.den tLot)) × (Int)) :=
  (novationref15_RightBook N a0 a1).bind fun r1 => cond (!r1) (some ((([] : List ((Int) × ((Int) × (Unit)))), (([] : List ((Int) × ((Int) × ((Int) × ((Int) × (Unit)))))), (([] : List ((Int) × ((Int) × ((Int) × (Unit))))), (([] : List ((Int) × ((Int) × ((Int) × (Unit))))), (([] : List (Int)), (([] : List ((Int) × ((Int) × ((Int) × ((Int) × ((Int) × ((Int) × (Unit)))))))), ())))))), [], (1 : Int))) ((novationref20_RightLots N a0 a2).bind fun r2 => cond (!r2) (some ((([] : List ((Int) × ((Int) × (Unit)))), (([] : List ((Int) × ((Int) × ((Int) × ((Int) × (Unit)))))), (([] : List ((Int) × ((Int) × ((Int) × (Unit))))), (([] : List ((Int) × ((Int) × ((Int) × (Unit))))), (([] : List (Int)), (([] : List ((Int) × ((Int) × ((Int) × ((Int) × ((Int) × ((Int) × (Unit)))))))), ())))))), [], (1 : Int))) ((novationref20_RightBids N a3).bind fun r3 => cond (!r3) (some ((([] : List ((Int) × ((Int) × (Unit)))), (([] : List ((Int) × ((Int) × ((Int) × ((Int) × (Unit)))))), (([] : List ((Int) × ((Int) × ((Int) × (Unit))))), (([] : List ((Int) × ((Int) × ((Int) × (Unit))))), (([] : List (Int)), (([] : List ((Int) × ((Int) × ((Int) × ((Int) × ((Int) × ((Int) × (Unit)))))))), ())))))), [], (1 : Int))) (s_l7 a2 a3 a1 (([] : List ((Int) × ((Int) × (Unit)))), (([] : List ((Int) × ((Int) × ((Int) × ((Int) × (Unit)))))), (([] : List ((Int) × ((Int) × ((Int) × (Unit))))), (([] : List ((Int) × ((Int) × ((Int) × (Unit))))), (([] : List (Int)), (([] : List ((Int) × ((Int) × ((Int) × ((Int) × ((Int) × ((Int) × (Unit)))))))), ())))))) ([]) ([]) ([]) (0 : Int))))
def novationref20_Award (N : Nat) (a0 : Ty.den tConfig) (a1 : Ty.den tBook) (a2 : List (Ty.den tLot)) (a3 : List (Ty.den tI4)) : Option ((Ty.den tBook) × (List (Ty.den tLot)) × (Int)) := novationref20_Award.b N (novationref20_Award.l7 N N) a0 a1 a2 a3

abbrev novationhelp_Members.t_l4 := (List (Ty.den tI2)) → (List (Ty.den tI2)) → Int → Option (Bool)
def novationhelp_Members.l4b (N : Nat) (k_l4 : novationhelp_Members.t_l4) (x0 : List (Ty.den tI2)) (x1 : List (Ty.den tI2)) (x5 : Int) : Option (Bool) :=
  cond (ltB x5 (List.length x0 : Int)) (cond (inb x5 (List.length x0)) (cond (inb x5 (List.length x1)) (cond (!(teq (.pair (.int .i64) (.pair (.int .i64) .unit)) (List.getD x0 x5.toNat ((0 : Int), ((0 : Int), ()))) (List.getD x1 x5.toNat ((0 : Int), ((0 : Int), ()))))) (some false) (k_l4 x0 x1 (W .i64 (x5 + 1)))) (none)) (none)) (some true)
def novationhelp_Members.l4 (N : Nat) : Nat → novationhelp_Members.t_l4
  | 0, _, _, _ => none
  | n + 1, x0, x1, x5 => novationhelp_Members.l4b N (novationhelp_Members.l4 N n) x0 x1 x5
def novationhelp_Members.b (N : Nat) (s_l4 : novationhelp_Members.t_l4) (a0 : List (Ty.den tI2)) (a1 : List (Ty.den tI2)) : Option (Bool) :=
  cond (!eqB (List.length a0 : Int) (List.length a1 : Int)) (some false) (s_l4 a0 a1 (0 : Int))
def novationhelp_Members (N : Nat) (a0 : List (Ty.den tI2)) (a1 : List (Ty.den tI2)) : Option (Bool) := novationhelp_Members.b N (novationhelp_Members.l4 N N) a0 a1

abbrev novationhelp_Accs.t_l4 := (List (Ty.den tI4)) → (List (Ty.den tI4)) → Int → Option (Bool)
def novationhelp_Accs.l4b (N : Nat) (k_l4 : novationhelp_Accs.t_l4) (x0 : List (Ty.den tI4)) (x1 : List (Ty.den tI4)) (x5 : Int) : Option (Bool) :=
  cond (ltB x5 (List.length x0 : Int)) (cond (inb x5 (List.length x0)) (cond (inb x5 (List.length x1)) (cond (!(teq (.pair (.int .i64) (.pair (.int .i64) (.pair (.int .i64) (.pair (.int .i64) .unit)))) (List.getD x0 x5.toNat ((0 : Int), ((0 : Int), ((0 : Int), ((0 : Int), ()))))) (List.getD x1 x5.toNat ((0 : Int), ((0 : Int), ((0 : Int), ((0 : Int), ()))))))) (some false) (k_l4 x0 x1 (W .i64 (x5 + 1)))) (none)) (none)) (some true)
def novationhelp_Accs.l4 (N : Nat) : Nat → novationhelp_Accs.t_l4
  | 0, _, _, _ => none
  | n + 1, x0, x1, x5 => novationhelp_Accs.l4b N (novationhelp_Accs.l4 N n) x0 x1 x5
def novationhelp_Accs.b (N : Nat) (s_l4 : novationhelp_Accs.t_l4) (a0 : List (Ty.den tI4)) (a1 : List (Ty.den tI4)) : Option (Bool) :=
  cond (!eqB (List.length a0 : Int) (List.length a1 : Int)) (some false) (s_l4 a0 a1 (0 : Int))
def novationhelp_Accs (N : Nat) (a0 : List (Ty.den tI4)) (a1 : List (Ty.den tI4)) : Option (Bool) := novationhelp_Accs.b N (novationhelp_Accs.l4 N N) a0 a1

abbrev novationhelp_Rows.t_l4 := (List (Ty.den tI3)) → (List (Ty.den tI3)) → Int → Option (Bool)
def novationhelp_Rows.l4b (N : Nat) (k_l4 : novationhelp_Rows.t_l4) (x0 : List (Ty.den tI3)) (x1 : List (Ty.den tI3)) (x5 : Int) : Option (Bool) :=
  cond (ltB x5 (List.length x0 : Int)) (cond (inb x5 (List.length x0)) (cond (inb x5 (List.length x1)) (cond (!(teq (.pair (.int .i64) (.pair (.int .i64) (.pair (.int .i64) .unit))) (List.getD x0 x5.toNat ((0 : Int), ((0 : Int), ((0 : Int), ())))) (List.getD x1 x5.toNat ((0 : Int), ((0 : Int), ((0 : Int), ())))))) (some false) (k_l4 x0 x1 (W .i64 (x5 + 1)))) (none)) (none)) (some true)
def novationhelp_Rows.l4 (N : Nat) : Nat → novationhelp_Rows.t_l4
  | 0, _, _, _ => none
  | n + 1, x0, x1, x5 => novationhelp_Rows.l4b N (novationhelp_Rows.l4 N n) x0 x1 x5
def novationhelp_Rows.b (N : Nat) (s_l4 : novationhelp_Rows.t_l4) (a0 : List (Ty.den tI3)) (a1 : List (Ty.den tI3)) : Option (Bool) :=
  cond (!eqB (List.length a0 : Int) (List.length a1 : Int)) (some false) (s_l4 a0 a1 (0 : Int))
def novationhelp_Rows (N : Nat) (a0 : List (Ty.den tI3)) (a1 : List (Ty.den tI3)) : Option (Bool) := novationhelp_Rows.b N (novationhelp_Rows.l4 N N) a0 a1

abbrev novationhelp_Stock.t_l4 := (List (Ty.den tI3)) → (List (Ty.den tI3)) → Int → Option (Bool)
def novationhelp_Stock.l4b (N : Nat) (k_l4 : novationhelp_Stock.t_l4) (x0 : List (Ty.den tI3)) (x1 : List (Ty.den tI3)) (x5 : Int) : Option (Bool) :=
  cond (ltB x5 (List.length x0 : Int)) (cond (inb x5 (List.length x0)) (cond (inb x5 (List.length x1)) (cond (!(teq (.pair (.int .i64) (.pair (.int .i64) (.pair (.int .i64) .unit))) (List.getD x0 x5.toNat ((0 : Int), ((0 : Int), ((0 : Int), ())))) (List.getD x1 x5.toNat ((0 : Int), ((0 : Int), ((0 : Int), ())))))) (some false) (k_l4 x0 x1 (W .i64 (x5 + 1)))) (none)) (none)) (some true)
def novationhelp_Stock.l4 (N : Nat) : Nat → novationhelp_Stock.t_l4
  | 0, _, _, _ => none
  | n + 1, x0, x1, x5 => novationhelp_Stock.l4b N (novationhelp_Stock.l4 N n) x0 x1 x5
def novationhelp_Stock.b (N : Nat) (s_l4 : novationhelp_Stock.t_l4) (a0 : List (Ty.den tI3)) (a1 : List (Ty.den tI3)) : Option (Bool) :=
  cond (!eqB (List.length a0 : Int) (List.length a1 : Int)) (some false) (s_l4 a0 a1 (0 : Int))
def novationhelp_Stock (N : Nat) (a0 : List (Ty.den tI3)) (a1 : List (Ty.den tI3)) : Option (Bool) := novationhelp_Stock.b N (novationhelp_Stock.l4 N N) a0 a1

abbrev novationhelp_Ints.t_l4 := (List (Int)) → (List (Int)) → Int → Option (Bool)
def novationhelp_Ints.l4b (N : Nat) (k_l4 : novationhelp_Ints.t_l4) (x0 : List (Int)) (x1 : List (Int)) (x5 : Int) : Option (Bool) :=
  cond (ltB x5 (List.length x0 : Int)) (cond (inb x5 (List.length x0)) (cond (inb x5 (List.length x1)) (cond (!eqB (List.getD x0 x5.toNat (0 : Int)) (List.getD x1 x5.toNat (0 : Int))) (some false) (k_l4 x0 x1 (W .i64 (x5 + 1)))) (none)) (none)) (some true)
def novationhelp_Ints.l4 (N : Nat) : Nat → novationhelp_Ints.t_l4
  | 0, _, _, _ => none
  | n + 1, x0, x1, x5 => novationhelp_Ints.l4b N (novationhelp_Ints.l4 N n) x0 x1 x5
def novationhelp_Ints.b (N : Nat) (s_l4 : novationhelp_Ints.t_l4) (a0 : List (Int)) (a1 : List (Int)) : Option (Bool) :=
  cond (!eqB (List.length a0 : Int) (List.length a1 : Int)) (some false) (s_l4 a0 a1 (0 : Int))
def novationhelp_Ints (N : Nat) (a0 : List (Int)) (a1 : List (Int)) : Option (Bool) := novationhelp_Ints.b N (novationhelp_Ints.l4 N N) a0 a1

abbrev novationhelp_Orders.t_l4 := (List (Ty.den tI6)) → (List (Ty.den tI6)) → Int → Option (Bool)
def novationhelp_Orders.l4b (N : Nat) (k_l4 : novationhelp_Orders.t_l4) (x0 : List (Ty.den tI6)) (x1 : List (Ty.den tI6)) (x5 : Int) : Option (Bool) :=
  cond (ltB x5 (List.length x0 : Int)) (cond (inb x5 (List.length x0)) (cond (inb x5 (List.length x1)) (cond (!(teq (.pair (.int .i64) (.pair (.int .i64) (.pair (.int .i64) (.pair (.int .i64) (.pair (.int .i64) (.pair (.int .i64) .unit)))))) (List.getD x0 x5.toNat ((0 : Int), ((0 : Int), ((0 : Int), ((0 : Int), ((0 : Int), ((0 : Int), ()))))))) (List.getD x1 x5.toNat ((0 : Int), ((0 : Int), ((0 : Int), ((0 : Int), ((0 : Int), ((0 : Int), ()))))))))) (some false) (k_l4 x0 x1 (W .i64 (x5 + 1)))) (none)) (none)) (some true)
def novationhelp_Orders.l4 (N : Nat) : Nat → novationhelp_Orders.t_l4
  | 0, _, _, _ => none
  | n + 1, x0, x1, x5 => novationhelp_Orders.l4b N (novationhelp_Orders.l4 N n) x0 x1 x5
def novationhelp_Orders.b (N : Nat) (s_l4 : novationhelp_Orders.t_l4) (a0 : List (Ty.den tI6)) (a1 : List (Ty.den tI6)) : Option (Bool) :=
  cond (!eqB (List.length a0 : Int) (List.length a1 : Int)) (some false) (s_l4 a0 a1 (0 : Int))
def novationhelp_Orders (N : Nat) (a0 : List (Ty.den tI6)) (a1 : List (Ty.den tI6)) : Option (Bool) := novationhelp_Orders.b N (novationhelp_Orders.l4 N N) a0 a1

def novationhelp_Book (N : Nat) (a0 : Ty.den tBook) (a1 : Ty.den tBook) : Option (Bool) :=
  (novationhelp_Members N a0.1 a1.1).bind fun r1 => cond (r1) ((novationhelp_Accs N a0.2.1 a1.2.1).bind fun r2 => cond (r2) ((novationhelp_Rows N a0.2.2.1 a1.2.2.1).bind fun r3 => cond (r3) ((novationhelp_Stock N a0.2.2.2.1 a1.2.2.2.1).bind fun r4 => cond (r4) ((novationhelp_Ints N a0.2.2.2.2.1 a1.2.2.2.2.1).bind fun r5 => cond (r5) ((novationhelp_Orders N a0.2.2.2.2.2.1 a1.2.2.2.2.2.1).bind fun r6 => some r6) (some false)) (some false)) (some false)) (some false)) (some false)

abbrev novationref20_SameLots.t_l10 := (List (Ty.den tLot)) → (List (Ty.den tLot)) → Int → Ty.den tLot → Ty.den tLot → Int → Option (Bool)
abbrev novationref20_SameLots.t_l4 := (List (Ty.den tLot)) → (List (Ty.den tLot)) → Int → Option (Bool)
def novationref20_SameLots.l10b (N : Nat) (k_l4 : novationref20_SameLots.t_l4) (k_l10 : novationref20_SameLots.t_l10) (x0 : List (Ty.den tLot)) (x1 : List (Ty.den tLot)) (x5 : Int) (x6 : Ty.den tLot) (x7 : Ty.den tLot) (x8 : Int) : Option (Bool) :=
  cond (ltB x8 (List.length x6.2.1 : Int)) (cond (inb x8 (List.length x6.2.1)) (cond (inb x8 (List.length x7.2.1)) (cond (!(teq (.pair (.int .i64) (.pair (.int .i64) .unit)) (List.getD x6.2.1 x8.toNat ((0 : Int), ((0 : Int), ()))) (List.getD x7.2.1 x8.toNat ((0 : Int), ((0 : Int), ()))))) (some false) (k_l10 x0 x1 x5 x6 x7 (W .i64 (x8 + 1)))) (none)) (none)) (k_l4 x0 x1 (W .i64 (x5 + 1)))
def novationref20_SameLots.l10 (N : Nat) (k_l4 : novationref20_SameLots.t_l4) : Nat → novationref20_SameLots.t_l10
  | 0, _, _, _, _, _, _ => none
  | n + 1, x0, x1, x5, x6, x7, x8 => novationref20_SameLots.l10b N k_l4 (novationref20_SameLots.l10 N k_l4 n) x0 x1 x5 x6 x7 x8
def novationref20_SameLots.l4b (N : Nat) (s_l10 : novationref20_SameLots.t_l10) (k_l4 : novationref20_SameLots.t_l4) (x0 : List (Ty.den tLot)) (x1 : List (Ty.den tLot)) (x5 : Int) : Option (Bool) :=
  cond (ltB x5 (List.length x0 : Int)) (cond (inb x5 (List.length x0)) (cond (inb x5 (List.length x1)) (cond (!eqB ((List.getD x0 x5.toNat ((0 : Int), (([] : List ((Int) × ((Int) × (Unit)))), ((0 : Int), ((0 : Int), ((0 : Int), ((0 : Int), ()))))))).1) ((List.getD x1 x5.toNat ((0 : Int), (([] : List ((Int) × ((Int) × (Unit)))), ((0 : Int), ((0 : Int), ((0 : Int), ((0 : Int), ()))))))).1)) (some false) (cond (!eqB ((((List.getD x0 x5.toNat ((0 : Int), (([] : List ((Int) × ((Int) × (Unit)))), ((0 : Int), ((0 : Int), ((0 : Int), ((0 : Int), ()))))))).2).2).1) ((((List.getD x1 x5.toNat ((0 : Int), (([] : List ((Int) × ((Int) × (Unit)))), ((0 : Int), ((0 : Int), ((0 : Int), ((0 : Int), ()))))))).2).2).1)) (some false) (cond (!eqB (((((List.getD x0 x5.toNat ((0 : Int), (([] : List ((Int) × ((Int) × (Unit)))), ((0 : Int), ((0 : Int), ((0 : Int), ((0 : Int), ()))))))).2).2).2).1) (((((List.getD x1 x5.toNat ((0 : Int), (([] : List ((Int) × ((Int) × (Unit)))), ((0 : Int), ((0 : Int), ((0 : Int), ((0 : Int), ()))))))).2).2).2).1)) (some false) (cond (!eqB ((((((List.getD x0 x5.toNat ((0 : Int), (([] : List ((Int) × ((Int) × (Unit)))), ((0 : Int), ((0 : Int), ((0 : Int), ((0 : Int), ()))))))).2).2).2).2).1) ((((((List.getD x1 x5.toNat ((0 : Int), (([] : List ((Int) × ((Int) × (Unit)))), ((0 : Int), ((0 : Int), ((0 : Int), ((0 : Int), ()))))))).2).2).2).2).1)) (some false) (cond (!eqB (((((((List.getD x0 x5.toNat ((0 : Int), (([] : List ((Int) × ((Int) × (Unit)))), ((0 : Int), ((0 : Int), ((0 : Int), ((0 : Int), ()))))))).2).2).2).2).2).1) (((((((List.getD x1 x5.toNat ((0 : Int), (([] : List ((Int) × ((Int) × (Unit)))), ((0 : Int), ((0 : Int), ((0 : Int), ((0 : Int), ()))))))).2).2).2).2).2).1)) (some false) (cond (!eqB (List.length (((List.getD x0 x5.toNat ((0 : Int), (([] : List ((Int) × ((Int) × (Unit)))), ((0 : Int), ((0 : Int), ((0 : Int), ((0 : Int), ()))))))).2).1) : Int) (List.length (((List.getD x1 x5.toNat ((0 : Int), (([] : List ((Int) × ((Int) × (Unit)))), ((0 : Int), ((0 : Int), ((0 : Int), ((0 : Int), ()))))))).2).1) : Int)) (some false) (s_l10 x0 x1 x5 (List.getD x0 x5.toNat ((0 : Int), (([] : List ((Int) × ((Int) × (Unit)))), ((0 : Int), ((0 : Int), ((0 : Int), ((0 : Int), ()))))))) (List.getD x1 x5.toNat ((0 : Int), (([] : List ((Int) × ((Int) × (Unit)))), ((0 : Int), ((0 : Int), ((0 : Int), ((0 : Int), ()))))))) (0 : Int)))))))) (none)) (none)) (some true)
def novationref20_SameLots.l4 (N : Nat) : Nat → novationref20_SameLots.t_l4
  | 0, _, _, _ => none
  | n + 1, x0, x1, x5 => novationref20_SameLots.l4b N (novationref20_SameLots.l10 N (novationref20_SameLots.l4 N n) N) (novationref20_SameLots.l4 N n) x0 x1 x5
def novationref20_SameLots.b (N : Nat) (s_l4 : novationref20_SameLots.t_l4) (a0 : List (Ty.den tLot)) (a1 : List (Ty.den tLot)) : Option (Bool) :=
  cond (!eqB (List.length a0 : Int) (List.length a1 : Int)) (some false) (s_l4 a0 a1 (0 : Int))
def novationref20_SameLots (N : Nat) (a0 : List (Ty.den tLot)) (a1 : List (Ty.den tLot)) : Option (Bool) := novationref20_SameLots.b N (novationref20_SameLots.l4 N N) a0 a1

def novationlaw25_told (N : Nat) (a0 : Ty.den tConfig) (a1 : Ty.den tBook) (a2 : List (Ty.den tLot)) (a3 : List (Ty.den tI4)) (a4 : Int) : Option (Bool) :=
  (award_Award N a0 a1 a2 a3).bind fun r1 => (novationref20_Award N a0 a1 a2 a3).bind fun r2 => (award_Best N a3 a4).bind fun r3 => (novationref20_Best N a3 a4).bind fun r4 => cond (eqB r1.2.2 r2.2.2) ((novationhelp_Book N r1.1 r2.1).bind fun r5 => cond (r5) ((novationref20_SameLots N r1.2.1 r2.2.1).bind fun r6 => cond (r6) (cond (teq (.pair (.int .i64) (.pair (.int .i64) (.pair (.int .i64) (.pair (.int .i64) .unit)))) r3.1 r4.1) (some (teq .bool r3.2 r4.2)) (some false)) (some false)) (some false)) (some false)

abbrev novationlaw25_AwardAll.t_l6 := (List (Ty.den tLot)) → (List (Ty.den tI4)) → Int → Ty.den tConfig → Ty.den tBook → Int → Option (Bool)
def novationlaw25_AwardAll.l6b (N : Nat) (k_l6 : novationlaw25_AwardAll.t_l6) (x2 : List (Ty.den tLot)) (x3 : List (Ty.den tI4)) (x4 : Int) (x5 : Ty.den tConfig) (x6 : Ty.den tBook) (x11 : Int) : Option (Bool) :=
  cond (ltB x11 (List.length x2 : Int)) (cond (inb x11 (List.length x2)) (cond (ltB 12 (List.length (((List.getD x2 x11.toNat ((0 : Int), (([] : List ((Int) × ((Int) × (Unit)))), ((0 : Int), ((0 : Int), ((0 : Int), ((0 : Int), ()))))))).2).1) : Int)) (some true) (k_l6 x2 x3 x4 x5 x6 (W .i64 (x11 + 1)))) (none)) ((novationlaw25_told N x5 x6 x2 x3 x4).bind fun r4 => some r4)
def novationlaw25_AwardAll.l6 (N : Nat) : Nat → novationlaw25_AwardAll.t_l6
  | 0, _, _, _, _, _, _ => none
  | n + 1, x2, x3, x4, x5, x6, x11 => novationlaw25_AwardAll.l6b N (novationlaw25_AwardAll.l6 N n) x2 x3 x4 x5 x6 x11
def novationlaw25_AwardAll.b (N : Nat) (s_l6 : novationlaw25_AwardAll.t_l6) (a0 : Ty.den tConfig) (a1 : Ty.den tBook) (a2 : List (Ty.den tLot)) (a3 : List (Ty.den tI4)) (a4 : Int) : Option (Bool) :=
  (novationlaw25_known N ).bind fun r1 => cond (!r1) (some false) (cond (ltB 10 (List.length a0.1 : Int)) (some true) (cond (ltB 16 (List.length a1.1 : Int)) (some true) (cond (ltB 30 (List.length a1.2.1 : Int)) (some true) (cond (ltB 60 (List.length a1.2.2.1 : Int)) (some true) (cond (ltB 60 (List.length a1.2.2.2.1 : Int)) (some true) (cond (ltB 10 (List.length a1.2.2.2.2.1 : Int)) (some true) (cond (ltB 40 (List.length a1.2.2.2.2.2.1 : Int)) (some true) (cond (ltB 20 (List.length a2 : Int)) (some true) (cond (ltB 50 (List.length a3 : Int)) (some true) (s_l6 a2 a3 a4 a0 a1 (0 : Int)))))))))))
def novationlaw25_AwardAll (N : Nat) (a0 : Ty.den tConfig) (a1 : Ty.den tBook) (a2 : List (Ty.den tLot)) (a3 : List (Ty.den tI4)) (a4 : Int) : Option (Bool) := novationlaw25_AwardAll.b N (novationlaw25_AwardAll.l6 N N) a0 a1 a2 a3 a4

end
end VM.F
