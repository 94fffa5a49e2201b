/- A part of the proof of HedgeAll of layer 22: the functions as equations between values, printed by a program. -/
import Derived.Test.YthpchkeghefokaaGreatVm0
set_option linter.all false
/- The functions by their numbers: 100 mark_Price · 102 need_Worst · 103 queue_Opens · 104 roll_Status · 105 book_Copy · 108 novationref10_Stock · 109 novationref10_Rows · 110 roll_Right · 111 ledger_Right · 112 ledger_Total · 113 stock_Flat · 114 queue_Right · 115 slices_ContainsFunc_int64__book_Right_1 · 116 book_Right_1 · 117 plan_in · 118 novationref4_within · 119 novationref15_RightTrade · 120 novationref15_there · 121 novationref15_TradeParts · 122 novationref15_With · 123 novationref15_price · 125 novationref10_Find · 126 novationref15_worst · 127 novationref10_Status · 13 novationhelp_Book · 130 novationref1_Cmp · 131 novationref1_Wide · 132 novationref10_RightRoll · 133 novationref10_Flat · 134 novationref15_Orders · 135 novationref1_Sign · 136 novationref10_Total · 139 roll_Find · 140 need_Covers · 141 ledger_Get · 143 queue_Order · 144 gate_with · 145 need_Top · 147 novationref1_Less · 149 novationref15_RightOrder · 150 novationref1_Times · 151 novationref10_Top · 152 novationref15_opens · 153 wide_Abs · 154 plan_Bucket · 155 wide_Div · 156 hedge_quantity · 157 novationref4_Bucket · 158 novationref1_Over · 159 stock_Right · 165 wide_Sub · 166 stock_Quantity · 167 bits_Mul64 · 168 wide_signed · 169 novationref1_made · 17 novationlaw22_known · 170 novationref1_addSizes · 171 novationref1_cmpSizes · 172 novationref1_subSizes · 173 novationref1_size · 176 novationref1_digit · 177 slices_IndexFunc_Trade__book_Trades_1 · 178 mark_entry · 179 stock_Post · 18 novationlaw22_told · 180 ledger_Post · 181 need_Opens · 182 wide_Times · 183 wide_Sum · 184 roll_Members · 194 roll_Accs · 195 novationref10_Key · 196 ledger_Key · 197 ledger_order · 198 stock_Sum · 199 slices_IndexFunc_int64__book_Right_1 · 200 novationref15_Row · 201 novationref10_Shifted · 202 novationref10_Laid · 203 novationref10_Accs · 204 novationref10_find · 205 novationref10_Worst · 206 novationref10_Members · 207 novationref10_status · 208 novationref10_SumInst · 214 novationref10_OpensRight · 215 wide_size · 216 bits_Div64 · 217 novationref1_half · 218 stock_key · 219 stock_order · 225 novationref1_trim · 229 stock_flat · 231 slices_Clip_Pos · 233 slices_Clip_Row · 236 novationref1_Quantity · 237 novationref10_behind · 244 bits_LeadingZeros64 · 25 wide_Of · 256 bits_Len64 · 31 book_Trades · 35 novationhelp_Rows · 36 novationhelp_Ints · 37 novationref10_Held · 38 novationref10_Get · 39 book_Right · 40 plan_Right · 41 novationref4_RightPlan · 42 novationhelp_Members · 43 novationhelp_Accs · 44 novationhelp_Stock · 45 novationhelp_Orders · 46 novationref15_Trades · 51 novationhelp_Wide · 52 novationref15_RightBook · 56 gate_Loss · 57 gate_Check · 6 novationlaw22_HedgeAll · 60 novationref15_Loss · 62 novationref15_Check · 63 novationlaw22_small · 64 hedge_Nets · 65 hedge_Orders · 66 hedge_Fill · 67 hedge_Right · 68 novationref20_Nets · 69 novationref20_Hedges · 70 novationref20_Fill · 71 novationhelp_Hedges · 72 novationref20_RightHedge · 73 stock_Of · 74 wide_Add · 75 amount_Size · 78 wide_Neg · 79 wide_Int · 80 need_Legs · 81 wide_Sign · 82 wide_Cmp · 83 wide_Mul · 84 novationref10_Of · 85 novationref1_Plus · 86 novationref1_Sized · 87 novationref1_Whole · 91 novationref1_Int · 92 novationref1_Turned · 93 novationref10_Legs · 94 slices_ContainsFunc_Trade__book_Trades_1 · 95 book_Trades_1 · 96 mark_Right · 97 book_Acc · 98 mark_Trade · 99 book_Moved -/
namespace VM.F
open Go VM
set_option linter.unusedVariables false
set_option maxRecDepth 100000
noncomputable section
abbrev terrorString : Ty := (.pair .str .unit)
abbrev terrorAddressString : Ty := (.pair .str (.pair (.int .u64) .unit))
abbrev tI2 : Ty := (.pair (.int .i64) (.pair (.int .i64) .unit))
abbrev tWide : Ty := (.pair (.int .i64) (.pair (.int .u64) .unit))
abbrev tBig : Ty := (.pair .bool (.pair (.slice (.int .u64)) .unit))
abbrev tI3 : Ty := (.pair (.int .i64) tI2)
abbrev tboundsError : Ty := (.pair (.int .i64) (.pair (.int .i64) (.pair .bool (.pair (.int .u8) .unit))))
abbrev tI4 : Ty := (.pair (.int .i64) tI3)
abbrev tEntry : Ty := (.pair (.int .i64) (.pair (.int .i64) (.pair tWide .unit)))
abbrev tI5 : Ty := (.pair (.int .i64) tI4)
abbrev tPart : Ty := (.pair (.int .i64) (.pair (.int .i64) (.pair tBig .unit)))
abbrev tI6 : Ty := (.pair (.int .i64) tI5)
abbrev tLot : Ty := (.pair (.int .i64) (.pair (.slice tI2) tI4))
abbrev tConfig : Ty := (.pair (.slice tI4) tI6)
abbrev tBook : Ty := (.pair (.slice tI2) (.pair (.slice tI4) (.pair (.slice tI3) (.pair (.slice tI3) (.pair (.slice (.int .i64)) (.pair (.slice tI6) .unit))))))
abbrev vterrorString := Ty.den terrorString
abbrev wterrorString := List (Ty.den terrorString)
abbrev vterrorAddressString := Ty.den terrorAddressString
abbrev wterrorAddressString := List (Ty.den terrorAddressString)
abbrev vtI2 := Ty.den tI2
abbrev wtI2 := List (Ty.den tI2)
abbrev vtWide := Ty.den tWide
abbrev wtWide := List (Ty.den tWide)
abbrev vtBig := Ty.den tBig
abbrev wtBig := List (Ty.den tBig)
abbrev vtI3 := Ty.den tI3
abbrev wtI3 := List (Ty.den tI3)
abbrev vtboundsError := Ty.den tboundsError
abbrev wtboundsError := List (Ty.den tboundsError)
abbrev vtI4 := Ty.den tI4
abbrev wtI4 := List (Ty.den tI4)
abbrev vtEntry := Ty.den tEntry
abbrev wtEntry := List (Ty.den tEntry)
abbrev vtI5 := Ty.den tI5
abbrev wtI5 := List (Ty.den tI5)
abbrev vtPart := Ty.den tPart
abbrev wtPart := List (Ty.den tPart)
abbrev vtI6 := Ty.den tI6
abbrev wtI6 := List (Ty.den tI6)
abbrev vtLot := Ty.den tLot
abbrev wtLot := List (Ty.den tLot)
abbrev vtConfig := Ty.den tConfig
abbrev wtConfig := List (Ty.den tConfig)
abbrev vtBook := Ty.den tBook
abbrev wtBook := List (Ty.den tBook)
def F63 (N : Nat) : Option (vtConfig × vtBook) :=
  some (([((0 : Int), ((100 : Int), ((1 : Int), ((0 : Int), ())))), ((0 : Int), ((7 : Int), zz2))], ((0 : Int), ((0 : Int), ((0 : Int), ((0 : Int), ((1 : Int), ((10 : Int), ()))))))), ([((1 : Int), ((1 : Int), ()))], ([((1 : Int), ((1 : Int), ((1 : Int), ((50 : Int), ()))))], ([((1 : Int), ((0 : Int), ((-90 : Int), ()))), ((5 : Int), ((1 : Int), ((90 : Int), ())))], ([((0 : Int), ((0 : Int), ((5 : Int), ()))), ((0 : Int), ((1 : Int), ((20 : Int), ()))), ((1 : Int), ((0 : Int), ((-5 : Int), ()))), ((1 : Int), ((1 : Int), ((-20 : Int), ())))], ([(100 : Int), (7 : Int)], (ee6, ())))))))

def F117 (N : Nat) (a0 : Int) (a1 : Int) (a2 : Int) : Option (Bool) :=
  cond (leB a1 a0) (some (leB a0 a2)) (some false)

abbrev F40.t_l4 := vtConfig → wtI4 → Int → Int → Option (Bool)
def F40.l4b (N : Nat) (k_l4 : F40.t_l4) (x1 : vtConfig) (x11 : wtI4) (x12 : Int) (x13 : Int) : Option (Bool) :=
  cond (ltB x13 x12) (cond (inb x13 (List.length x11)) ((F117 N ((List.getD x11 x13.toNat zz4).1) (0 : Int) (3 : Int)).bind fun r3 => cond (!r3) (some false) ((F117 N (((List.getD x11 x13.toNat zz4).2).1) (1 : Int) (1000000000000 : Int)).bind fun r4 => cond (!r4) (some false) ((F117 N ((((List.getD x11 x13.toNat zz4).2).2).1) (0 : Int) (1000000000 : Int)).bind fun r5 => cond (!r5) (some false) ((F117 N (((((List.getD x11 x13.toNat zz4).2).2).2).1) (0 : Int) (1000000000 : Int)).bind fun r6 => cond (!r6) (some false) (k_l4 x1 x11 x12 (W .i64 (x13 + 1))))))) (none)) (cond (leB 0 x1.2.1) ((F117 N x1.2.2.1 (0 : Int) (4 : Int)).bind fun r8 => cond (r8) ((F117 N x1.2.2.2.1 (0 : Int) (1000000 : Int)).bind fun r9 => cond (r9) ((F117 N x1.2.2.2.2.1 (0 : Int) (1000000 : Int)).bind fun r10 => cond (r10) ((F117 N x1.2.2.2.2.2.1 (1 : Int) (4611686018427387904 : Int)).bind fun r11 => cond (r11) (some (leB 0 x1.2.2.2.2.2.2.1)) (some false)) (some false)) (some false)) (some false)) (some false))
def F40.l4 (N : Nat) : Nat → F40.t_l4
  | 0, _, _, _, _ => none
  | n + 1, x1, x11, x12, x13 => F40.l4b N (F40.l4 N n) x1 x11 x12 x13
def F40.b (N : Nat) (s_l4 : F40.t_l4) (a0 : vtConfig) : Option (Bool) :=
  (F117 N (List.length a0.1 : Int) (1 : Int) (6 : Int)).bind fun r1 => cond (!r1) (some false) (s_l4 a0 a0.1 (List.length a0.1 : Int) (0 : Int))
def F40 (N : Nat) (a0 : vtConfig) : Option (Bool) := F40.b N (F40.l4 N N) a0

abbrev F184.t_l2 := wtI2 → wtI2 → Int → Int → Option (Bool)
def F184.l2b (N : Nat) (k_l2 : F184.t_l2) (x0 : wtI2) (x5 : wtI2) (x6 : Int) (x7 : Int) : Option (Bool) :=
  cond (ltB x7 x6) (cond (inb x7 (List.length x5)) (cond (ltB ((List.getD x5 x7.toNat zz2).1) (1 : Int)) (some false) (cond (ltB 12 ((List.getD x5 x7.toNat zz2).1)) (some false) (cond (ltB (((List.getD x5 x7.toNat zz2).2).1) (1 : Int)) (some false) (cond (ltB 4 (((List.getD x5 x7.toNat zz2).2).1)) (some false) (cond (ltB 0 x7) (let v2 : Int := W .i64 (x7 - 1); cond (inb v2 (List.length x0)) (cond (leB ((List.getD x5 x7.toNat zz2).1) ((List.getD x0 v2.toNat zz2).1)) (some false) (k_l2 x0 x5 x6 (W .i64 (x7 + 1)))) (none)) (k_l2 x0 x5 x6 (W .i64 (x7 + 1)))))))) (none)) (some true)
def F184.l2 (N : Nat) : Nat → F184.t_l2
  | 0, _, _, _, _ => none
  | n + 1, x0, x5, x6, x7 => F184.l2b N (F184.l2 N n) x0 x5 x6 x7
def F184.b (N : Nat) (s_l2 : F184.t_l2) (a0 : wtI2) : Option (Bool) :=
  s_l2 a0 a0 (List.length a0 : Int) (0 : Int)
def F184 (N : Nat) (a0 : wtI2) : Option (Bool) := F184.b N (F184.l2 N N) a0

abbrev F194.t_l3 := wtI4 → (List (Bool)) → wtI4 → Int → Int → Option (Bool)
def F194.l3b (N : Nat) (k_l3 : F194.t_l3) (x0 : wtI4) (x3 : List (Bool)) (x6 : wtI4) (x7 : Int) (x8 : Int) : Option (Bool) :=
  cond (ltB x8 x7) (cond (inb x8 (List.length x6)) (cond (ltB ((List.getD x6 x8.toNat zz4).1) (1 : Int)) (some false) (cond (ltB 24 ((List.getD x6 x8.toNat zz4).1)) (some false) (cond (ltB (((List.getD x6 x8.toNat zz4).2).1) (1 : Int)) (some false) (cond (ltB 12 (((List.getD x6 x8.toNat zz4).2).1)) (some false) (cond (!eqB ((((List.getD x6 x8.toNat zz4).2).2).1) (1 : Int)) (cond (!eqB ((((List.getD x6 x8.toNat zz4).2).2).1) (2 : Int)) (some false) (cond (ltB (((((List.getD x6 x8.toNat zz4).2).2).2).1) (0 : Int)) (some false) (cond (ltB 1000000000000 (((((List.getD x6 x8.toNat zz4).2).2).2).1)) (some false) (cond (ltB 0 x8) (let v2 : Int := W .i64 (x8 - 1); cond (inb v2 (List.length x0)) (cond (leB ((List.getD x6 x8.toNat zz4).1) ((List.getD x0 v2.toNat zz4).1)) (some false) (cond (eqB ((((List.getD x6 x8.toNat zz4).2).2).1) (1 : Int)) (cond (inb (((List.getD x6 x8.toNat zz4).2).1) 13) (cond (List.getD x3 (((List.getD x6 x8.toNat zz4).2).1).toNat false) (some false) (cond (inb (((List.getD x6 x8.toNat zz4).2).1) 13) (k_l3 x0 (List.set x3 (((List.getD x6 x8.toNat zz4).2).1).toNat true) x6 x7 (W .i64 (x8 + 1))) (none))) (none)) (k_l3 x0 x3 x6 x7 (W .i64 (x8 + 1))))) (none)) (cond (eqB ((((List.getD x6 x8.toNat zz4).2).2).1) (1 : Int)) (cond (inb (((List.getD x6 x8.toNat zz4).2).1) 13) (cond (List.getD x3 (((List.getD x6 x8.toNat zz4).2).1).toNat false) (some false) (cond (inb (((List.getD x6 x8.toNat zz4).2).1) 13) (k_l3 x0 (List.set x3 (((List.getD x6 x8.toNat zz4).2).1).toNat true) x6 x7 (W .i64 (x8 + 1))) (none))) (none)) (k_l3 x0 x3 x6 x7 (W .i64 (x8 + 1)))))))) (cond (ltB (((((List.getD x6 x8.toNat zz4).2).2).2).1) (0 : Int)) (some false) (cond (ltB 1000000000000 (((((List.getD x6 x8.toNat zz4).2).2).2).1)) (some false) (cond (ltB 0 x8) (let v7 : Int := W .i64 (x8 - 1); cond (inb v7 (List.length x0)) (cond (leB ((List.getD x6 x8.toNat zz4).1) ((List.getD x0 v7.toNat zz4).1)) (some false) (cond (eqB ((((List.getD x6 x8.toNat zz4).2).2).1) (1 : Int)) (cond (inb (((List.getD x6 x8.toNat zz4).2).1) 13) (cond (List.getD x3 (((List.getD x6 x8.toNat zz4).2).1).toNat false) (some false) (cond (inb (((List.getD x6 x8.toNat zz4).2).1) 13) (k_l3 x0 (List.set x3 (((List.getD x6 x8.toNat zz4).2).1).toNat true) x6 x7 (W .i64 (x8 + 1))) (none))) (none)) (k_l3 x0 x3 x6 x7 (W .i64 (x8 + 1))))) (none)) (cond (eqB ((((List.getD x6 x8.toNat zz4).2).2).1) (1 : Int)) (cond (inb (((List.getD x6 x8.toNat zz4).2).1) 13) (cond (List.getD x3 (((List.getD x6 x8.toNat zz4).2).1).toNat false) (some false) (cond (inb (((List.getD x6 x8.toNat zz4).2).1) 13) (k_l3 x0 (List.set x3 (((List.getD x6 x8.toNat zz4).2).1).toNat true) x6 x7 (W .i64 (x8 + 1))) (none))) (none)) (k_l3 x0 x3 x6 x7 (W .i64 (x8 + 1)))))))))))) (none)) (some true)
def F194.l3 (N : Nat) : Nat → F194.t_l3
  | 0, _, _, _, _, _ => none
  | n + 1, x0, x3, x6, x7, x8 => F194.l3b N (F194.l3 N n) x0 x3 x6 x7 x8
def F194.b (N : Nat) (s_l3 : F194.t_l3) (a0 : wtI4) : Option (Bool) :=
  s_l3 a0 (List.replicate 13 false) a0 (List.length a0 : Int) (0 : Int)
def F194 (N : Nat) (a0 : wtI4) : Option (Bool) := F194.b N (F194.l3 N N) a0

abbrev F104.t_l4 := Int → wtI2 → Int → Int → Option (Int)
def F104.l4b (N : Nat) (k_l4 : F104.t_l4) (x1 : Int) (x10 : wtI2) (x11 : Int) (x12 : Int) : Option (Int) :=
  cond (ltB x12 x11) (cond (inb x12 (List.length x10)) (cond (eqB ((List.getD x10 x12.toNat zz2).1) x1) (some (((List.getD x10 x12.toNat zz2).2).1)) (k_l4 x1 x10 x11 (W .i64 (x12 + 1)))) (none)) (some (0 : Int))
def F104.l4 (N : Nat) : Nat → F104.t_l4
  | 0, _, _, _, _ => none
  | n + 1, x1, x10, x11, x12 => F104.l4b N (F104.l4 N n) x1 x10 x11 x12
def F104.b (N : Nat) (s_l4 : F104.t_l4) (a0 : wtI2) (a1 : Int) : Option (Int) :=
  (F184 N a0).bind fun r1 => cond (!r1) (some (0 : Int)) (s_l4 a1 a0 (List.length a0 : Int) (0 : Int))
def F104 (N : Nat) (a0 : wtI2) (a1 : Int) : Option (Int) := F104.b N (F104.l4 N N) a0 a1

abbrev F110.t_l4 := wtI2 → wtI4 → Int → Int → Option (Bool)
def F110.l4b (N : Nat) (k_l4 : F110.t_l4) (x0 : wtI2) (x15 : wtI4) (x16 : Int) (x17 : Int) : Option (Bool) :=
  cond (ltB x17 x16) (cond (inb x17 (List.length x15)) ((F104 N x0 (((List.getD x15 x17.toNat zz4).2).1)).bind fun r4 => cond (eqB r4 0) (some false) (k_l4 x0 x15 x16 (W .i64 (x17 + 1)))) (none)) (some true)
def F110.l4 (N : Nat) : Nat → F110.t_l4
  | 0, _, _, _, _ => none
  | n + 1, x0, x15, x16, x17 => F110.l4b N (F110.l4 N n) x0 x15 x16 x17
def F110.b (N : Nat) (s_l4 : F110.t_l4) (a0 : wtI2) (a1 : wtI4) : Option (Bool) :=
  (F184 N a0).bind fun r1 => cond (!r1) (some false) ((F194 N a1).bind fun r2 => cond (!r2) (some false) (s_l4 a0 a1 (List.length a1 : Int) (0 : Int)))
def F110 (N : Nat) (a0 : wtI2) (a1 : wtI4) : Option (Bool) := F110.b N (F110.l4 N N) a0 a1

def F196 (N : Nat) (a0 : Int) (a1 : Int) : Option (Bool) :=
  cond (eqB a0 1) (some (eqB a1 0)) (cond (eqB a0 2) (some (eqB a1 0)) (cond (eqB a0 3) (some (eqB a1 0)) (cond (eqB a0 4) (some (eqB a1 0)) (cond (eqB a0 5) (cond (leB 1 a1) (some (leB a1 24)) (some false)) (cond (eqB a0 6) (cond (leB 1 a1) (some (leB a1 12)) (some false)) (cond (eqB a0 7) (cond (leB 1 a1) (some (leB a1 12)) (some false)) (some false)))))))

def F197 (N : Nat) (a0 : Int) (a1 : Int) (a2 : vtI3) : Option (Int) :=
  cond (!eqB a0 a2.1) (some (W .i64 (a0 - a2.1))) (some (W .i64 (a1 - a2.2.1)))

abbrev F111.t_l2 := wtI3 → wtI3 → Int → Int → Option (Bool)
def F111.l2b (N : Nat) (k_l2 : F111.t_l2) (x0 : wtI3) (x5 : wtI3) (x6 : Int) (x7 : Int) : Option (Bool) :=
  cond (ltB x7 x6) (cond (inb x7 (List.length x5)) ((F196 N ((List.getD x5 x7.toNat zz3).1) (((List.getD x5 x7.toNat zz3).2).1)).bind fun r2 => cond (!r2) (some false) (cond (eqB ((((List.getD x5 x7.toNat zz3).2).2).1) (0 : Int)) (some false) (cond (ltB 0 x7) (let v3 : Int := W .i64 (x7 - 1); cond (inb v3 (List.length x0)) ((F197 N ((List.getD x5 x7.toNat zz3).1) (((List.getD x5 x7.toNat zz3).2).1) (List.getD x0 v3.toNat zz3)).bind fun r4 => cond (leB r4 0) (some false) (k_l2 x0 x5 x6 (W .i64 (x7 + 1)))) (none)) (k_l2 x0 x5 x6 (W .i64 (x7 + 1)))))) (none)) (some true)
def F111.l2 (N : Nat) : Nat → F111.t_l2
  | 0, _, _, _, _ => none
  | n + 1, x0, x5, x6, x7 => F111.l2b N (F111.l2 N n) x0 x5 x6 x7
def F111.b (N : Nat) (s_l2 : F111.t_l2) (a0 : wtI3) : Option (Bool) :=
  s_l2 a0 a0 (List.length a0 : Int) (0 : Int)
def F111 (N : Nat) (a0 : wtI3) : Option (Bool) := F111.b N (F111.l2 N N) a0

def F25 (N : Nat) (a0 : Int) : Option vtWide :=
  cond (ltB 63 0) (none) (some ((shr .i64 a0 63), ((W .u64 a0), ())))

abbrev F183.t_l3 := vtWide → Int → Int → Int → wtWide → Int → Int → Option (vtWide × (Bool))
def F183.l3b (N : Nat) (k_l3 : F183.t_l3) (x2 : vtWide) (x4 : Int) (x5 : Int) (x6 : Int) (x10 : wtWide) (x11 : Int) (x12 : Int) : Option (vtWide × (Bool)) :=
  cond (ltB x12 x11) (cond (inb x12 (List.length x10)) ((add64 N x6 (((List.getD x10 x12.toNat zz2).2).1) (0 : Int)).bind fun r2 => (add64 N x5 (W .u64 ((List.getD x10 x12.toNat zz2).1)) r2.2).bind fun r4 => cond (ltB 63 0) (none) (k_l3 x2 (W .i64 ((W .i64 (x4 + (shr .i64 ((List.getD x10 x12.toNat zz2).1) (63 : Int)))) + (W .i64 r4.2))) r4.1 r2.1 x10 x11 (W .i64 (x12 + 1)))) (none)) (cond (ltB 63 0) (none) (cond (!eqB x4 (shr .i64 (W .i64 x5) 63)) (some (zz2, false)) (some (((W .i64 x5), (x6, ())), true))))
def F183.l3 (N : Nat) : Nat → F183.t_l3
  | 0, _, _, _, _, _, _, _ => none
  | n + 1, x2, x4, x5, x6, x10, x11, x12 => F183.l3b N (F183.l3 N n) x2 x4 x5 x6 x10 x11 x12
def F183.b (N : Nat) (s_l3 : F183.t_l3) (a0 : wtWide) : Option (vtWide × (Bool)) :=
  s_l3 zz2 (0 : Int) (0 : Int) (0 : Int) a0 (List.length a0 : Int) (0 : Int)
def F183 (N : Nat) (a0 : wtWide) : Option (vtWide × (Bool)) := F183.b N (F183.l3 N N) a0

abbrev F112.t_l5 := vtWide → wtWide → wtI3 → Int → Int → Option vtWide
def F112.l5b (N : Nat) (k_l5 : F112.t_l5) (x2 : vtWide) (x3 : wtWide) (x12 : wtI3) (x13 : Int) (x14 : Int) : Option vtWide :=
  cond (ltB x14 x13) (cond (inb x14 (List.length x12)) ((F25 N ((((List.getD x12 x14.toNat zz3).2).2).1)).bind fun r3 => cond (small (List.length x3 + List.length ([r3]))) (k_l5 x2 (x3 ++ ([r3])) x12 x13 (W .i64 (x14 + 1))) (none)) (none)) ((F183 N x3).bind fun r6 => some r6.1)
def F112.l5 (N : Nat) : Nat → F112.t_l5
  | 0, _, _, _, _, _ => none
  | n + 1, x2, x3, x12, x13, x14 => F112.l5b N (F112.l5 N n) x2 x3 x12 x13 x14
def F112.b (N : Nat) (s_l5 : F112.t_l5) (a0 : wtI3) : Option vtWide :=
  (F111 N a0).bind fun r1 => cond (!r1) (some zz2) (s_l5 zz2 ([]) a0 (List.length a0 : Int) (0 : Int))
def F112 (N : Nat) (a0 : wtI3) : Option vtWide := F112.b N (F112.l5 N N) a0

def F82 (N : Nat) (a0 : vtWide) (a1 : vtWide) : Option (Int) :=
  cond (ltB a0.1 a1.1) (some (-1 : Int)) (cond (eqB a0.1 a1.1) (cond (ltB a0.2.1 a1.2.1) (some (-1 : Int)) (cond (teq (.pair (.int .i64) (.pair (.int .u64) .unit)) a0 a1) (some (0 : Int)) (some (1 : Int)))) (cond (teq (.pair (.int .i64) (.pair (.int .u64) .unit)) a0 a1) (some (0 : Int)) (some (1 : Int))))

def F81 (N : Nat) (a0 : vtWide) : Option (Int) :=
  (F82 N a0 zz2).bind fun r1 => some r1

def F218 (N : Nat) (a0 : Int) (a1 : Int) : Option (Bool) :=
  cond (leB 0 a0) (cond (leB a0 24) (cond (leB 0 a1) (some (ltB a1 6)) (some false)) (some false)) (some false)

def F166 (N : Nat) (a0 : Int) : Option (Bool) :=
  some (!eqB a0 (-9223372036854775808))

def F219 (N : Nat) (a0 : Int) (a1 : Int) (a2 : vtI3) : Option (Int) :=
  cond (!eqB a0 a2.1) (some (W .i64 (a0 - a2.1))) (some (W .i64 (a1 - a2.2.1)))

abbrev F159.t_l2 := wtI3 → wtI3 → Int → Int → Option (Bool)
def F159.l2b (N : Nat) (k_l2 : F159.t_l2) (x0 : wtI3) (x5 : wtI3) (x6 : Int) (x7 : Int) : Option (Bool) :=
  cond (ltB x7 x6) (cond (inb x7 (List.length x5)) ((F218 N ((List.getD x5 x7.toNat zz3).1) (((List.getD x5 x7.toNat zz3).2).1)).bind fun r2 => cond (!r2) (some false) (cond (eqB ((((List.getD x5 x7.toNat zz3).2).2).1) (0 : Int)) (some false) ((F166 N ((((List.getD x5 x7.toNat zz3).2).2).1)).bind fun r3 => cond (!r3) (some false) (cond (ltB 0 x7) (let v4 : Int := W .i64 (x7 - 1); cond (inb v4 (List.length x0)) ((F219 N ((List.getD x5 x7.toNat zz3).1) (((List.getD x5 x7.toNat zz3).2).1) (List.getD x0 v4.toNat zz3)).bind fun r5 => cond (leB r5 0) (some false) (k_l2 x0 x5 x6 (W .i64 (x7 + 1)))) (none)) (k_l2 x0 x5 x6 (W .i64 (x7 + 1))))))) (none)) (some true)
def F159.l2 (N : Nat) : Nat → F159.t_l2
  | 0, _, _, _, _ => none
  | n + 1, x0, x5, x6, x7 => F159.l2b N (F159.l2 N n) x0 x5 x6 x7
def F159.b (N : Nat) (s_l2 : F159.t_l2) (a0 : wtI3) : Option (Bool) :=
  s_l2 a0 a0 (List.length a0 : Int) (0 : Int)
def F159 (N : Nat) (a0 : wtI3) : Option (Bool) := F159.b N (F159.l2 N N) a0

abbrev F198.t_l5 := Int → vtWide → wtWide → wtI3 → Int → Int → Option vtWide
def F198.l5b (N : Nat) (k_l5 : F198.t_l5) (x1 : Int) (x4 : vtWide) (x5 : wtWide) (x14 : wtI3) (x15 : Int) (x16 : Int) : Option vtWide :=
  cond (ltB x16 x15) (cond (inb x16 (List.length x14)) (cond (eqB (((List.getD x14 x16.toNat zz3).2).1) x1) ((F25 N ((((List.getD x14 x16.toNat zz3).2).2).1)).bind fun r3 => cond (small (List.length x5 + List.length ([r3]))) (k_l5 x1 x4 (x5 ++ ([r3])) x14 x15 (W .i64 (x16 + 1))) (none)) (k_l5 x1 x4 x5 x14 x15 (W .i64 (x16 + 1)))) (none)) ((F183 N x5).bind fun r7 => some r7.1)
def F198.l5 (N : Nat) : Nat → F198.t_l5
  | 0, _, _, _, _, _, _ => none
  | n + 1, x1, x4, x5, x14, x15, x16 => F198.l5b N (F198.l5 N n) x1 x4 x5 x14 x15 x16
def F198.b (N : Nat) (s_l5 : F198.t_l5) (a0 : wtI3) (a1 : Int) : Option vtWide :=
  (F159 N a0).bind fun r1 => cond (!r1) (some zz2) (s_l5 a1 zz2 ([]) a0 (List.length a0 : Int) (0 : Int))
def F198 (N : Nat) (a0 : wtI3) (a1 : Int) : Option vtWide := F198.b N (F198.l5 N N) a0 a1

abbrev F113.t_l2 := wtI3 → Int → Option (Bool)
def F113.l2b (N : Nat) (k_l2 : F113.t_l2) (x0 : wtI3) (x4 : Int) : Option (Bool) :=
  cond (ltB x4 6) ((F198 N x0 x4).bind fun r2 => (F81 N r2).bind fun r3 => cond (!eqB r3 0) (some false) (k_l2 x0 (W .i64 (x4 + 1)))) ((F159 N x0).bind fun r5 => some r5)
def F113.l2 (N : Nat) : Nat → F113.t_l2
  | 0, _, _ => none
  | n + 1, x0, x4 => F113.l2b N (F113.l2 N n) x0 x4
def F113.b (N : Nat) (s_l2 : F113.t_l2) (a0 : wtI3) : Option (Bool) :=
  s_l2 a0 (0 : Int)
def F113 (N : Nat) (a0 : wtI3) : Option (Bool) := F113.b N (F113.l2 N N) a0

def F143 (N : Nat) (a0 : vtI6) : Option (Bool) :=
  cond (leB 1 a0.1) (cond (leB a0.1 1099511627776) (cond (leB 1 a0.2.1) (cond (leB a0.2.1 24) (cond (leB 0 a0.2.2.1) (cond (ltB a0.2.2.1 6) (cond (eqB a0.2.2.2.1 1) (cond (leB 1 a0.2.2.2.2.1) (cond (leB a0.2.2.2.2.1 1000000000) (cond (leB 1 a0.2.2.2.2.2.1) (some (leB a0.2.2.2.2.2.1 1000000000000)) (some false)) (some false)) (some false)) (cond (eqB a0.2.2.2.1 2) (cond (leB 1 a0.2.2.2.2.1) (cond (leB a0.2.2.2.2.1 1000000000) (cond (leB 1 a0.2.2.2.2.2.1) (some (leB a0.2.2.2.2.2.1 1000000000000)) (some false)) (some false)) (some false)) (some false))) (some false)) (some false)) (some false)) (some false)) (some false)) (some false)

abbrev F114.t_l2 := wtI6 → wtI6 → Int → Int → Option (Bool)
def F114.l2b (N : Nat) (k_l2 : F114.t_l2) (x0 : wtI6) (x5 : wtI6) (x6 : Int) (x7 : Int) : Option (Bool) :=
  cond (ltB x7 x6) (cond (inb x7 (List.length x5)) ((F143 N (List.getD x5 x7.toNat zz6)).bind fun r2 => cond (!r2) (some false) (cond (ltB 0 x7) (let v3 : Int := W .i64 (x7 - 1); cond (inb v3 (List.length x0)) (cond (leB ((List.getD x5 x7.toNat zz6).1) ((List.getD x0 v3.toNat zz6).1)) (some false) (k_l2 x0 x5 x6 (W .i64 (x7 + 1)))) (none)) (k_l2 x0 x5 x6 (W .i64 (x7 + 1))))) (none)) (some (leB (List.length x0 : Int) 32))
def F114.l2 (N : Nat) : Nat → F114.t_l2
  | 0, _, _, _, _ => none
  | n + 1, x0, x5, x6, x7 => F114.l2b N (F114.l2 N n) x0 x5 x6 x7
def F114.b (N : Nat) (s_l2 : F114.t_l2) (a0 : wtI6) : Option (Bool) :=
  s_l2 a0 a0 (List.length a0 : Int) (0 : Int)
def F114 (N : Nat) (a0 : wtI6) : Option (Bool) := F114.b N (F114.l2 N N) a0

abbrev F139.t_l4 := Int → vtI4 → wtI4 → Int → Int → Option (vtI4 × (Bool))
def F139.l4b (N : Nat) (k_l4 : F139.t_l4) (x1 : Int) (x4 : vtI4) (x12 : wtI4) (x13 : Int) (x14 : Int) : Option (vtI4 × (Bool)) :=
  cond (ltB x14 x13) (cond (inb x14 (List.length x12)) (cond (eqB ((List.getD x12 x14.toNat zz4).1) x1) (some (List.getD x12 x14.toNat zz4, true)) (k_l4 x1 x4 x12 x13 (W .i64 (x14 + 1)))) (none)) (some (zz4, false))
def F139.l4 (N : Nat) : Nat → F139.t_l4
  | 0, _, _, _, _, _ => none
  | n + 1, x1, x4, x12, x13, x14 => F139.l4b N (F139.l4 N n) x1 x4 x12 x13 x14
def F139.b (N : Nat) (s_l4 : F139.t_l4) (a0 : wtI4) (a1 : Int) : Option (vtI4 × (Bool)) :=
  (F194 N a0).bind fun r1 => cond (!r1) (some (zz4, false)) (s_l4 a1 zz4 a0 (List.length a0 : Int) (0 : Int))
def F139 (N : Nat) (a0 : wtI4) (a1 : Int) : Option (vtI4 × (Bool)) := F139.b N (F139.l4 N N) a0 a1

def F97 (N : Nat) (a0 : vtBook) (a1 : Int) : Option (Bool) :=
  (F139 N a0.2.1 a1).bind fun r1 => some r1.2

def F100 (N : Nat) (a0 : Int) : Option (Bool) :=
  cond (leB 1 a0) (some (leB a0 1000000000000)) (some false)

def F116 (N : Nat) (a0 : Int) : Option (Bool) :=
  (F100 N a0).bind fun r1 => some (!r1)

abbrev F199.t_l2 := (List (Int)) → Unit → Int → Int → Option (Int)
def F199.l2b (N : Nat) (k_l2 : F199.t_l2) (x0 : List (Int)) (x1 : Unit) (x7 : Int) (x8 : Int) : Option (Int) :=
  cond (ltB x8 x7) (cond (inb x8 (List.length x0)) ((F116 N (List.getD x0 x8.toNat (0 : Int))).bind fun r2 => cond (r2) (some x8) (k_l2 x0 () x7 (W .i64 (x8 + 1)))) (none)) (some (-1 : Int))
def F199.l2 (N : Nat) : Nat → F199.t_l2
  | 0, _, _, _, _ => none
  | n + 1, x0, x1, x7, x8 => F199.l2b N (F199.l2 N n) x0 x1 x7 x8
def F199.b (N : Nat) (s_l2 : F199.t_l2) (a0 : List (Int)) (a1 : Unit) : Option (Int) :=
  s_l2 a0 () (List.length a0 : Int) (0 : Int)
def F199 (N : Nat) (a0 : List (Int)) (a1 : Unit) : Option (Int) := F199.b N (F199.l2 N N) a0 a1

def F115 (N : Nat) (a0 : List (Int)) (a1 : Unit) : Option (Bool) :=
  (F199 N a0 ()).bind fun r1 => some (leB 0 r1)

abbrev F39.t_l22 := vtConfig → vtBook → wtI6 → Int → Int → Option (Bool)
abbrev F39.t_l16 := vtConfig → vtBook → wtI3 → Int → Int → Option (Bool)
abbrev F39.t_l4 := vtConfig → vtBook → wtI3 → Int → Int → Option (Bool)
def F39.l22b (N : Nat) (k_l22 : F39.t_l22) (x2 : vtConfig) (x3 : vtBook) (x109 : wtI6) (x110 : Int) (x111 : Int) : Option (Bool) :=
  cond (ltB x111 x110) (cond (inb x111 (List.length x109)) ((F97 N x3 (((List.getD x109 x111.toNat zz6).2).1)).bind fun r21 => cond (!r21) (some false) (cond (leB (List.length x2.1 : Int) ((((List.getD x109 x111.toNat zz6).2).2).1)) (some false) (k_l22 x2 x3 x109 x110 (W .i64 (x111 + 1))))) (none)) ((F115 N x3.2.2.2.2.1 ()).bind fun r23 => some (!r23))
def F39.l22 (N : Nat) : Nat → F39.t_l22
  | 0, _, _, _, _, _ => none
  | n + 1, x2, x3, x109, x110, x111 => F39.l22b N (F39.l22 N n) x2 x3 x109 x110 x111
def F39.l16b (N : Nat) (s_l22 : F39.t_l22) (k_l16 : F39.t_l16) (x2 : vtConfig) (x3 : vtBook) (x83 : wtI3) (x84 : Int) (x85 : Int) : Option (Bool) :=
  cond (ltB x85 x84) (cond (inb x85 (List.length x83)) (cond (!eqB ((List.getD x83 x85.toNat zz3).1) (0 : Int)) ((F97 N x3 ((List.getD x83 x85.toNat zz3).1)).bind fun r17 => cond (!r17) (some false) (cond (leB (List.length x2.1 : Int) (((List.getD x83 x85.toNat zz3).2).1)) (some false) (k_l16 x2 x3 x83 x84 (W .i64 (x85 + 1))))) (cond (leB (List.length x2.1 : Int) (((List.getD x83 x85.toNat zz3).2).1)) (some false) (k_l16 x2 x3 x83 x84 (W .i64 (x85 + 1))))) (none)) (s_l22 x2 x3 x3.2.2.2.2.2.1 (List.length x3.2.2.2.2.2.1 : Int) (0 : Int))
def F39.l16 (N : Nat) : Nat → F39.t_l16
  | 0, _, _, _, _, _ => none
  | n + 1, x2, x3, x83, x84, x85 => F39.l16b N (F39.l22 N N) (F39.l16 N n) x2 x3 x83 x84 x85
def F39.l4b (N : Nat) (s_l16 : F39.t_l16) (k_l4 : F39.t_l4) (x2 : vtConfig) (x3 : vtBook) (x57 : wtI3) (x58 : Int) (x59 : Int) : Option (Bool) :=
  cond (ltB x59 x58) (cond (inb x59 (List.length x57)) (cond (eqB ((List.getD x57 x59.toNat zz3).1) (5 : Int)) ((F97 N x3 (((List.getD x57 x59.toNat zz3).2).1)).bind fun r9 => cond (!r9) (some false) (k_l4 x2 x3 x57 x58 (W .i64 (x59 + 1)))) (cond (eqB ((List.getD x57 x59.toNat zz3).1) (6 : Int)) ((F104 N x3.1 (((List.getD x57 x59.toNat zz3).2).1)).bind fun r11 => cond (eqB r11 0) (some false) (k_l4 x2 x3 x57 x58 (W .i64 (x59 + 1)))) (cond (eqB ((List.getD x57 x59.toNat zz3).1) (7 : Int)) ((F104 N x3.1 (((List.getD x57 x59.toNat zz3).2).1)).bind fun r13 => cond (eqB r13 0) (some false) (k_l4 x2 x3 x57 x58 (W .i64 (x59 + 1)))) (k_l4 x2 x3 x57 x58 (W .i64 (x59 + 1)))))) (none)) (s_l16 x2 x3 x3.2.2.2.1 (List.length x3.2.2.2.1 : Int) (0 : Int))
def F39.l4 (N : Nat) : Nat → F39.t_l4
  | 0, _, _, _, _, _ => none
  | n + 1, x2, x3, x57, x58, x59 => F39.l4b N (F39.l16 N N) (F39.l4 N n) x2 x3 x57 x58 x59
def F39.b (N : Nat) (s_l4 : F39.t_l4) (a0 : vtConfig) (a1 : vtBook) : Option (Bool) :=
  (F40 N a0).bind fun r1 => cond (!r1) (some false) ((F110 N a1.1 a1.2.1).bind fun r2 => cond (!r2) (some false) ((F111 N a1.2.2.1).bind fun r3 => cond (!r3) (some false) ((F112 N a1.2.2.1).bind fun r4 => (F81 N r4).bind fun r5 => cond (!eqB r5 0) (some false) ((F113 N a1.2.2.2.1).bind fun r6 => cond (!r6) (some false) ((F114 N a1.2.2.2.2.2.1).bind fun r7 => cond (!r7) (some false) (cond (!eqB (List.length a1.2.2.2.2.1 : Int) (List.length a0.1 : Int)) (some false) (s_l4 a0 a1 a1.2.2.1 (List.length a1.2.2.1 : Int) (0 : Int))))))))
def F39 (N : Nat) (a0 : vtConfig) (a1 : vtBook) : Option (Bool) := F39.b N (F39.l4 N N) a0 a1

abbrev F73.t_l5 := Int → wtI2 → wtI3 → Int → Int → Option wtI2
def F73.l5b (N : Nat) (k_l5 : F73.t_l5) (x1 : Int) (x5 : wtI2) (x11 : wtI3) (x12 : Int) (x13 : Int) : Option wtI2 :=
  cond (ltB x13 x12) (cond (inb x13 (List.length x11)) (cond (eqB ((List.getD x11 x13.toNat zz3).1) x1) (cond (small (List.length x5 + List.length ([(((List.getD x11 x13.toNat zz3).2).1, ((((List.getD x11 x13.toNat zz3).2).2).1, ()))]))) (k_l5 x1 (x5 ++ ([(((List.getD x11 x13.toNat zz3).2).1, ((((List.getD x11 x13.toNat zz3).2).2).1, ()))])) x11 x12 (W .i64 (x13 + 1))) (none)) (k_l5 x1 x5 x11 x12 (W .i64 (x13 + 1)))) (none)) (some x5)
def F73.l5 (N : Nat) : Nat → F73.t_l5
  | 0, _, _, _, _, _ => none
  | n + 1, x1, x5, x11, x12, x13 => F73.l5b N (F73.l5 N n) x1 x5 x11 x12 x13
def F73.b (N : Nat) (s_l5 : F73.t_l5) (a0 : wtI3) (a1 : Int) : Option wtI2 :=
  (F159 N a0).bind fun r1 => cond (!r1) (some ([])) (s_l5 a1 ([]) a0 (List.length a0 : Int) (0 : Int))
def F73 (N : Nat) (a0 : wtI3) (a1 : Int) : Option wtI2 := F73.b N (F73.l5 N N) a0 a1

def F75 (N : Nat) (a0 : Int) : Option (Int) :=
  cond (ltB a0 0) (some (W .u64 (0 - (W .u64 a0)))) (some (W .u64 a0))

def F167 (N : Nat) (a0 : Int) (a1 : Int) : Option ((Int) × (Int)) :=
  let v1 : Int := bitw .and .u64 a0 4294967295; cond (ltB 32 0) (none) (let v2 : Int := shr .u64 a0 32; let v3 : Int := bitw .and .u64 a1 4294967295; cond (ltB 32 0) (none) (let v4 : Int := shr .u64 a1 32; cond (ltB 32 0) (none) (let v8 : Int := W .u64 ((W .u64 (v2 * v3)) + (shr .u64 (W .u64 (v1 * v3)) (32 : Int))); cond (ltB 32 0) (none) (cond (ltB 32 0) (none) (some ((W .u64 ((W .u64 ((W .u64 (v2 * v4)) + (shr .u64 v8 32))) + (shr .u64 (W .u64 ((bitw .and .u64 v8 4294967295) + (W .u64 (v1 * v4)))) (32 : Int)))), (W .u64 (a0 * a1))))))))

abbrev F168.t_j7 := Int → Int → vtWide → Option (vtWide × (Bool))
def F168.j7b (N : Nat) (x1 : Int) (x2 : Int) (x6 : vtWide) : Option (vtWide × (Bool)) :=
  (sub64 N (0 : Int) x2 (0 : Int)).bind fun r3 => (sub64 N (0 : Int) x1 r3.2).bind fun r4 => some (((W .i64 r4.1), (r3.1, ())), true)
def F168.j7 (N : Nat) (x1 : Int) (x2 : Int) (x6 : vtWide) : Option (vtWide × (Bool)) := F168.j7b N x1 x2 x6
def F168.b (N : Nat) (s_j7 : F168.t_j7) (a0 : Bool) (a1 : Int) (a2 : Int) : Option (vtWide × (Bool)) :=
  cond (!a0) (cond (leB 9223372036854775808 a1) (some (zz2, false)) (some (((W .i64 a1), (a2, ())), true))) (cond (ltB 9223372036854775808 a1) (some (zz2, false)) (cond (eqB a1 9223372036854775808) (cond (ltB 0 a2) (some (zz2, false)) (s_j7 a1 a2 zz2)) (s_j7 a1 a2 zz2)))
def F168 (N : Nat) (a0 : Bool) (a1 : Int) (a2 : Int) : Option (vtWide × (Bool)) := F168.b N (F168.j7 N) a0 a1 a2

def F83 (N : Nat) (a0 : Int) (a1 : Int) : Option vtWide :=
  (F75 N a0).bind fun r1 => (F75 N a1).bind fun r2 => (F167 N r1 r2).bind fun r3 => (F168 N (!(teq .bool (ltB a0 0) (ltB a1 0))) r3.1 r3.2).bind fun r4 => some r4.1

def F74 (N : Nat) (a0 : vtWide) (a1 : vtWide) : Option (vtWide × (Bool)) :=
  (add64 N a0.2.1 a1.2.1 (0 : Int)).bind fun r1 => (add64 N (W .u64 a0.1) (W .u64 a1.1) r1.2).bind fun r4 => let v5 : Int := W .i64 r4.1; cond (teq .bool (ltB a0.1 0) (ltB a1.1 0)) (cond (!(teq .bool (ltB v5 0) (ltB a0.1 0))) (some (zz2, false)) (some ((v5, (r1.1, ())), true))) (some ((v5, (r1.1, ())), true))

abbrev F64.t_l5 := vtConfig → vtBook → wtWide → wtI2 → Int → Int → Option (wtWide × (Int))
def F64.l5b (N : Nat) (k_l5 : F64.t_l5) (x2 : vtConfig) (x3 : vtBook) (x6 : wtWide) (x17 : wtI2) (x18 : Int) (x19 : Int) : Option (wtWide × (Int)) :=
  cond (ltB x19 x18) (cond (inb x19 (List.length x17)) (cond (inb ((List.getD x17 x19.toNat zz2).1) (List.length x2.1)) (cond (inb ((List.getD x2.1 ((List.getD x17 x19.toNat zz2).1).toNat zz4).1) (List.length x6)) (cond (inb ((List.getD x17 x19.toNat zz2).1) (List.length x3.2.2.2.2.1)) ((F83 N (((List.getD x17 x19.toNat zz2).2).1) (List.getD x3.2.2.2.2.1 ((List.getD x17 x19.toNat zz2).1).toNat (0 : Int))).bind fun r5 => (F74 N (List.getD x6 ((List.getD x2.1 ((List.getD x17 x19.toNat zz2).1).toNat zz4).1).toNat zz2) r5).bind fun r6 => cond (inb ((List.getD x2.1 ((List.getD x17 x19.toNat zz2).1).toNat zz4).1) (List.length x6)) (k_l5 x2 x3 (List.set x6 ((List.getD x2.1 ((List.getD x17 x19.toNat zz2).1).toNat zz4).1).toNat r6.1) x17 x18 (W .i64 (x19 + 1))) (none)) (none)) (none)) (none)) (none)) (some (x6, (0 : Int)))
def F64.l5 (N : Nat) : Nat → F64.t_l5
  | 0, _, _, _, _, _, _ => none
  | n + 1, x2, x3, x6, x17, x18, x19 => F64.l5b N (F64.l5 N n) x2 x3 x6 x17 x18 x19
def F64.b (N : Nat) (s_l5 : F64.t_l5) (a0 : vtConfig) (a1 : vtBook) : Option (wtWide × (Int)) :=
  (F39 N a0 a1).bind fun r1 => cond (!r1) (some ([], (1 : Int))) (cond (okMake 4 4) ((F73 N a1.2.2.2.1 (0 : Int)).bind fun r3 => s_l5 a0 a1 (List.replicate (4 : Int).toNat zz2) r3 (List.length r3 : Int) (0 : Int)) (none))
def F64 (N : Nat) (a0 : vtConfig) (a1 : vtBook) : Option (wtWide × (Int)) := F64.b N (F64.l5 N N) a0 a1

def F165 (N : Nat) (a0 : vtWide) (a1 : vtWide) : Option (vtWide × (Bool)) :=
  (sub64 N a0.2.1 a1.2.1 (0 : Int)).bind fun r1 => (sub64 N (W .u64 a0.1) (W .u64 a1.1) r1.2).bind fun r4 => let v5 : Int := W .i64 r4.1; cond (!(teq .bool (ltB a0.1 0) (ltB a1.1 0))) (cond (!(teq .bool (ltB v5 0) (ltB a0.1 0))) (some (zz2, false)) (some ((v5, (r1.1, ())), true))) (some ((v5, (r1.1, ())), true))

def F78 (N : Nat) (a0 : vtWide) : Option (vtWide × (Bool)) :=
  (F165 N zz2 a0).bind fun r1 => some (r1.1, r1.2)

def F153 (N : Nat) (a0 : vtWide) : Option (vtWide × (Bool)) :=
  cond (ltB a0.1 0) ((F78 N a0).bind fun r1 => some (r1.1, r1.2)) (some (a0, true))

abbrev F154.t_l5 := Int → (List (Int)) → wtI4 → Int → Int → Option (List (Int))
def F154.l5b (N : Nat) (k_l5 : F154.t_l5) (x1 : Int) (x5 : List (Int)) (x12 : wtI4) (x13 : Int) (x14 : Int) : Option (List (Int)) :=
  cond (ltB x14 x13) (cond (inb x14 (List.length x12)) (cond (eqB ((List.getD x12 x14.toNat zz4).1) x1) (cond (small (List.length x5 + List.length ([x14]))) (k_l5 x1 (x5 ++ ([x14])) x12 x13 (W .i64 (x14 + 1))) (none)) (k_l5 x1 x5 x12 x13 (W .i64 (x14 + 1)))) (none)) (some x5)
def F154.l5 (N : Nat) : Nat → F154.t_l5
  | 0, _, _, _, _, _ => none
  | n + 1, x1, x5, x12, x13, x14 => F154.l5b N (F154.l5 N n) x1 x5 x12 x13 x14
def F154.b (N : Nat) (s_l5 : F154.t_l5) (a0 : vtConfig) (a1 : Int) : Option (List (Int)) :=
  (F40 N a0).bind fun r1 => cond (!r1) (some ([])) (s_l5 a1 ([]) a0.1 (List.length a0.1 : Int) (0 : Int))
def F154 (N : Nat) (a0 : vtConfig) (a1 : Int) : Option (List (Int)) := F154.b N (F154.l5 N N) a0 a1

def F215 (N : Nat) (a0 : vtWide) : Option ((Int) × (Int)) :=
  cond (leB 0 a0.1) (some ((W .u64 a0.1), a0.2.1)) ((sub64 N (0 : Int) a0.2.1 (0 : Int)).bind fun r2 => (sub64 N (0 : Int) (W .u64 a0.1) r2.2).bind fun r4 => some (r4.1, r2.1))

abbrev F256.t_j7 := Int → Int → Option (Int)
abbrev F256.t_j4 := Int → Int → Option (Int)
def F256.j7b (N : Nat) (x0 : Int) (x2 : Int) : Option (Int) :=
  cond (leB 256 x0) (cond (ltB 8 0) (none) (let v8 : Int := W .u8 (shr .u64 x0 8); cond (inb v8 (ByteArray.size (strOf [0, 1, 2, 2, 3, 3, 3, 3, 4, 4, 4, 4, 4, 4, 4, 4, 5, 5, 5, 5, 5, 5, 5, 5, 5, 5, 5, 5, 5, 5, 5, 5, 6, 6, 6, 6, 6, 6, 6, 6, 6, 6, 6, 6, 6, 6, 6, 6, 6, 6, 6, 6, 6, 6, 6, 6, 6, 6, 6, 6, 6, 6, 6, 6, 7, 7, 7, 7, 7, 7, 7, 7, 7, 7, 7, 7, 7, 7, 7, 7, 7, 7, 7, 7, 7, 7, 7, 7, 7, 7, 7, 7, 7, 7, 7, 7, 7, 7, 7, 7, 7, 7, 7, 7, 7, 7, 7, 7, 7, 7, 7, 7, 7, 7, 7, 7, 7, 7, 7, 7, 7, 7, 7, 7, 7, 7, 7, 7, 8, 8, 8, 8, 8, 8, 8, 8, 8, 8, 8, 8, 8, 8, 8, 8, 8, 8, 8, 8, 8, 8, 8, 8, 8, 8, 8, 8, 8, 8, 8, 8, 8, 8, 8, 8, 8, 8, 8, 8, 8, 8, 8, 8, 8, 8, 8, 8, 8, 8, 8, 8, 8, 8, 8, 8, 8, 8, 8, 8, 8, 8, 8, 8, 8, 8, 8, 8, 8, 8, 8, 8, 8, 8, 8, 8, 8, 8, 8, 8, 8, 8, 8, 8, 8, 8, 8, 8, 8, 8, 8, 8, 8, 8, 8, 8, 8, 8, 8, 8, 8, 8, 8, 8, 8, 8, 8, 8, 8, 8, 8, 8, 8, 8, 8, 8, 8, 8, 8, 8, 8, 8, 8, 8, 8, 8, 8, 8]))) (some (W .i64 ((W .i64 (x2 + 8)) + (W .i64 (((strOf [0, 1, 2, 2, 3, 3, 3, 3, 4, 4, 4, 4, 4, 4, 4, 4, 5, 5, 5, 5, 5, 5, 5, 5, 5, 5, 5, 5, 5, 5, 5, 5, 6, 6, 6, 6, 6, 6, 6, 6, 6, 6, 6, 6, 6, 6, 6, 6, 6, 6, 6, 6, 6, 6, 6, 6, 6, 6, 6, 6, 6, 6, 6, 6, 7, 7, 7, 7, 7, 7, 7, 7, 7, 7, 7, 7, 7, 7, 7, 7, 7, 7, 7, 7, 7, 7, 7, 7, 7, 7, 7, 7, 7, 7, 7, 7, 7, 7, 7, 7, 7, 7, 7, 7, 7, 7, 7, 7, 7, 7, 7, 7, 7, 7, 7, 7, 7, 7, 7, 7, 7, 7, 7, 7, 7, 7, 7, 7, 8, 8, 8, 8, 8, 8, 8, 8, 8, 8, 8, 8, 8, 8, 8, 8, 8, 8, 8, 8, 8, 8, 8, 8, 8, 8, 8, 8, 8, 8, 8, 8, 8, 8, 8, 8, 8, 8, 8, 8, 8, 8, 8, 8, 8, 8, 8, 8, 8, 8, 8, 8, 8, 8, 8, 8, 8, 8, 8, 8, 8, 8, 8, 8, 8, 8, 8, 8, 8, 8, 8, 8, 8, 8, 8, 8, 8, 8, 8, 8, 8, 8, 8, 8, 8, 8, 8, 8, 8, 8, 8, 8, 8, 8, 8, 8, 8, 8, 8, 8, 8, 8, 8, 8, 8, 8, 8, 8, 8, 8, 8, 8, 8, 8, 8, 8, 8, 8, 8, 8, 8, 8, 8, 8, 8, 8, 8, 8]).data.getD v8.toNat 0).toNat : Int))))) (none))) (let v11 : Int := W .u8 x0; cond (inb v11 (ByteArray.size (strOf [0, 1, 2, 2, 3, 3, 3, 3, 4, 4, 4, 4, 4, 4, 4, 4, 5, 5, 5, 5, 5, 5, 5, 5, 5, 5, 5, 5, 5, 5, 5, 5, 6, 6, 6, 6, 6, 6, 6, 6, 6, 6, 6, 6, 6, 6, 6, 6, 6, 6, 6, 6, 6, 6, 6, 6, 6, 6, 6, 6, 6, 6, 6, 6, 7, 7, 7, 7, 7, 7, 7, 7, 7, 7, 7, 7, 7, 7, 7, 7, 7, 7, 7, 7, 7, 7, 7, 7, 7, 7, 7, 7, 7, 7, 7, 7, 7, 7, 7, 7, 7, 7, 7, 7, 7, 7, 7, 7, 7, 7, 7, 7, 7, 7, 7, 7, 7, 7, 7, 7, 7, 7, 7, 7, 7, 7, 7, 7, 8, 8, 8, 8, 8, 8, 8, 8, 8, 8, 8, 8, 8, 8, 8, 8, 8, 8, 8, 8, 8, 8, 8, 8, 8, 8, 8, 8, 8, 8, 8, 8, 8, 8, 8, 8, 8, 8, 8, 8, 8, 8, 8, 8, 8, 8, 8, 8, 8, 8, 8, 8, 8, 8, 8, 8, 8, 8, 8, 8, 8, 8, 8, 8, 8, 8, 8, 8, 8, 8, 8, 8, 8, 8, 8, 8, 8, 8, 8, 8, 8, 8, 8, 8, 8, 8, 8, 8, 8, 8, 8, 8, 8, 8, 8, 8, 8, 8, 8, 8, 8, 8, 8, 8, 8, 8, 8, 8, 8, 8, 8, 8, 8, 8, 8, 8, 8, 8, 8, 8, 8, 8, 8, 8, 8, 8, 8, 8]))) (some (W .i64 (x2 + (W .i64 (((strOf [0, 1, 2, 2, 3, 3, 3, 3, 4, 4, 4, 4, 4, 4, 4, 4, 5, 5, 5, 5, 5, 5, 5, 5, 5, 5, 5, 5, 5, 5, 5, 5, 6, 6, 6, 6, 6, 6, 6, 6, 6, 6, 6, 6, 6, 6, 6, 6, 6, 6, 6, 6, 6, 6, 6, 6, 6, 6, 6, 6, 6, 6, 6, 6, 7, 7, 7, 7, 7, 7, 7, 7, 7, 7, 7, 7, 7, 7, 7, 7, 7, 7, 7, 7, 7, 7, 7, 7, 7, 7, 7, 7, 7, 7, 7, 7, 7, 7, 7, 7, 7, 7, 7, 7, 7, 7, 7, 7, 7, 7, 7, 7, 7, 7, 7, 7, 7, 7, 7, 7, 7, 7, 7, 7, 7, 7, 7, 7, 8, 8, 8, 8, 8, 8, 8, 8, 8, 8, 8, 8, 8, 8, 8, 8, 8, 8, 8, 8, 8, 8, 8, 8, 8, 8, 8, 8, 8, 8, 8, 8, 8, 8, 8, 8, 8, 8, 8, 8, 8, 8, 8, 8, 8, 8, 8, 8, 8, 8, 8, 8, 8, 8, 8, 8, 8, 8, 8, 8, 8, 8, 8, 8, 8, 8, 8, 8, 8, 8, 8, 8, 8, 8, 8, 8, 8, 8, 8, 8, 8, 8, 8, 8, 8, 8, 8, 8, 8, 8, 8, 8, 8, 8, 8, 8, 8, 8, 8, 8, 8, 8, 8, 8, 8, 8, 8, 8, 8, 8, 8, 8, 8, 8, 8, 8, 8, 8, 8, 8, 8, 8, 8, 8, 8, 8, 8, 8]).data.getD v11.toNat 0).toNat : Int))))) (none))
def F256.j7 (N : Nat) (x0 : Int) (x2 : Int) : Option (Int) := F256.j7b N x0 x2
def F256.j4b (N : Nat) (s_j7 : F256.t_j7) (x0 : Int) (x2 : Int) : Option (Int) :=
  cond (leB 65536 x0) (cond (ltB 16 0) (none) (s_j7 (shr .u64 x0 16) (W .i64 (x2 + 16)))) (s_j7 x0 x2)
def F256.j4 (N : Nat) (x0 : Int) (x2 : Int) : Option (Int) := F256.j4b N (F256.j7 N) x0 x2
def F256.b (N : Nat) (s_j4 : F256.t_j4) (a0 : Int) : Option (Int) :=
  cond (leB 4294967296 a0) (cond (ltB 32 0) (none) (s_j4 (shr .u64 a0 32) (32 : Int))) (s_j4 a0 (0 : Int))
def F256 (N : Nat) (a0 : Int) : Option (Int) := F256.b N (F256.j4 N) a0

def F244 (N : Nat) (a0 : Int) : Option (Int) :=
  (F256 N a0).bind fun r1 => some (W .i64 ((64 : Int) - r1))

abbrev F216.t_j28 := Int → Int → Int → Int → Int → Int → Option ((Int) × (Int))
abbrev F216.t_l24 := Int → Int → Int → Int → Int → Int → Int → Int → Int → Option ((Int) × (Int))
abbrev F216.t_j21 := Int → Int → Int → Int → Int → Int → Int → Int → Option ((Int) × (Int))
abbrev F216.t_l17 := Int → Int → Int → Int → Int → Int → Int → Int → Int → Option ((Int) × (Int))
def F216.j28b (N : Nat) (x2 : Int) (x8 : Int) (x14 : Int) (x15 : Int) (x17 : Int) (x18 : Int) : Option ((Int) × (Int)) :=
  cond (ltB x8 0) (none) (some ((W .u64 ((W .u64 (x15 * 4294967296)) + x18)), (shr .u64 (W .u64 ((W .u64 ((W .u64 (x17 * 4294967296)) + x14)) - (W .u64 (x18 * x2)))) x8)))
def F216.j28 (N : Nat) (x2 : Int) (x8 : Int) (x14 : Int) (x15 : Int) (x17 : Int) (x18 : Int) : Option ((Int) × (Int)) := F216.j28b N x2 x8 x14 x15 x17 x18
def F216.l24b (N : Nat) (s_j28 : F216.t_j28) (k_l24 : F216.t_l24) (x2 : Int) (x8 : Int) (x9 : Int) (x10 : Int) (x14 : Int) (x15 : Int) (x16 : Int) (x17 : Int) (x18 : Int) : Option ((Int) × (Int)) :=
  cond (leB 4294967296 x18) (let v30 : Int := W .u64 (x18 - 1); let v31 : Int := W .u64 (x16 + x9); cond (leB 4294967296 v31) (s_j28 x2 x8 x14 x15 x17 v30) (k_l24 x2 x8 x9 x10 x14 x15 v31 x17 v30)) (cond (ltB (W .u64 ((W .u64 ((4294967296 : Int) * x16)) + x14)) (W .u64 (x18 * x10))) (let v43 : Int := W .u64 (x18 - 1); let v44 : Int := W .u64 (x16 + x9); cond (leB 4294967296 v44) (s_j28 x2 x8 x14 x15 x17 v43) (k_l24 x2 x8 x9 x10 x14 x15 v44 x17 v43)) (s_j28 x2 x8 x14 x15 x17 x18))
def F216.l24 (N : Nat) : Nat → F216.t_l24
  | 0, _, _, _, _, _, _, _, _, _ => none
  | n + 1, x2, x8, x9, x10, x14, x15, x16, x17, x18 => F216.l24b N (F216.j28 N) (F216.l24 N n) x2 x8 x9 x10 x14 x15 x16 x17 x18
def F216.j21b (N : Nat) (s_l24 : F216.t_l24) (x2 : Int) (x8 : Int) (x9 : Int) (x10 : Int) (x11 : Int) (x13 : Int) (x14 : Int) (x15 : Int) : Option ((Int) × (Int)) :=
  let v25 : Int := W .u64 ((W .u64 ((W .u64 (x11 * 4294967296)) + x13)) - (W .u64 (x15 * x2))); cond (eqB x9 0) (none) (let v26 : Int := W .u64 (quo v25 x9); s_l24 x2 x8 x9 x10 x14 x15 (W .u64 (v25 - (W .u64 (v26 * x9)))) v25 v26)
def F216.j21 (N : Nat) (x2 : Int) (x8 : Int) (x9 : Int) (x10 : Int) (x11 : Int) (x13 : Int) (x14 : Int) (x15 : Int) : Option ((Int) × (Int)) := F216.j21b N (F216.l24 N N) x2 x8 x9 x10 x11 x13 x14 x15
def F216.l17b (N : Nat) (s_j21 : F216.t_j21) (k_l17 : F216.t_l17) (x2 : Int) (x8 : Int) (x9 : Int) (x10 : Int) (x11 : Int) (x13 : Int) (x14 : Int) (x15 : Int) (x16 : Int) : Option ((Int) × (Int)) :=
  cond (leB 4294967296 x15) (let v19 : Int := W .u64 (x15 - 1); let v20 : Int := W .u64 (x16 + x9); cond (leB 4294967296 v20) (s_j21 x2 x8 x9 x10 x11 x13 x14 v19) (k_l17 x2 x8 x9 x10 x11 x13 x14 v19 v20)) (cond (ltB (W .u64 ((W .u64 ((4294967296 : Int) * x16)) + x13)) (W .u64 (x15 * x10))) (let v48 : Int := W .u64 (x15 - 1); let v49 : Int := W .u64 (x16 + x9); cond (leB 4294967296 v49) (s_j21 x2 x8 x9 x10 x11 x13 x14 v48) (k_l17 x2 x8 x9 x10 x11 x13 x14 v48 v49)) (s_j21 x2 x8 x9 x10 x11 x13 x14 x15))
def F216.l17 (N : Nat) : Nat → F216.t_l17
  | 0, _, _, _, _, _, _, _, _, _ => none
  | n + 1, x2, x8, x9, x10, x11, x13, x14, x15, x16 => F216.l17b N (F216.j21 N) (F216.l17 N n) x2 x8 x9 x10 x11 x13 x14 x15 x16
def F216.b (N : Nat) (s_l17 : F216.t_l17) (a0 : Int) (a1 : Int) (a2 : Int) : Option ((Int) × (Int)) :=
  cond (eqB a2 0) (none) (cond (leB a2 a0) (none) (cond (eqB a0 0) (cond (eqB a2 0) (none) (cond (eqB a2 0) (none) (some ((W .u64 (quo a1 a2)), (rem a1 a2))))) ((F244 N a2).bind fun r3 => let v4 : Int := W .u64 r3; cond (ltB v4 0) (none) (let v5 : Int := W .u64 (shl .u64 a2 v4); cond (ltB 32 0) (none) (let v6 : Int := shr .u64 v5 32; cond (ltB v4 0) (none) (let v9 : Int := W .u64 ((64 : Int) - v4); cond (ltB v9 0) (none) (let v11 : Int := bitw .or .u64 (W .u64 (shl .u64 a0 v4)) (shr .u64 a1 v9); cond (ltB v4 0) (none) (let v12 : Int := W .u64 (shl .u64 a1 v4); cond (ltB 32 0) (none) (cond (eqB v6 0) (none) (let v15 : Int := W .u64 (quo v11 v6); s_l17 v5 v4 v6 (bitw .and .u64 v5 4294967295) v11 (shr .u64 v12 32) (bitw .and .u64 v12 4294967295) v15 (W .u64 (v11 - (W .u64 (v15 * v6))))))))))))))
def F216 (N : Nat) (a0 : Int) (a1 : Int) (a2 : Int) : Option ((Int) × (Int)) := F216.b N (F216.l17 N N) a0 a1 a2

abbrev F155.t_j13 := vtWide → Int → Int → Int → Option (vtWide × (Int) × (Bool))
def F155.j13b (N : Nat) (x4 : vtWide) (x10 : Int) (x11 : Int) (x12 : Int) : Option (vtWide × (Int) × (Bool)) :=
  (F168 N true x10 x12).bind fun r11 => some (r11.1, (W .i64 x11), true)
def F155.j13 (N : Nat) (x4 : vtWide) (x10 : Int) (x11 : Int) (x12 : Int) : Option (vtWide × (Int) × (Bool)) := F155.j13b N x4 x10 x11 x12
def F155.b (N : Nat) (s_j13 : F155.t_j13) (a0 : vtWide) (a1 : Int) : Option (vtWide × (Int) × (Bool)) :=
  cond (ltB a1 1) (some (zz2, (0 : Int), false)) ((F215 N a0).bind fun r1 => let v2 : Int := W .u64 a1; (F216 N (0 : Int) r1.1 v2).bind fun r3 => (F216 N r3.2 r1.2 v2).bind fun r4 => cond (leB 0 a0.1) (some (((W .i64 r3.1), (r4.1, ())), (W .i64 r4.2), true)) (cond (ltB 0 r4.2) ((add64 N r4.1 (1 : Int) (0 : Int)).bind fun r7 => s_j13 zz2 (W .u64 (r3.1 + r7.2)) (W .u64 (v2 - r4.2)) r7.1) (s_j13 zz2 r3.1 r4.2 r4.1)))
def F155 (N : Nat) (a0 : vtWide) (a1 : Int) : Option (vtWide × (Int) × (Bool)) := F155.b N (F155.j13 N) a0 a1

def F79 (N : Nat) (a0 : vtWide) : Option ((Int) × (Bool)) :=
  cond (ltB 63 0) (none) (cond (!eqB a0.1 (shr .i64 (W .i64 a0.2.1) 63)) (some ((0 : Int), false)) (some ((W .i64 a0.2.1), true)))

abbrev F65.t_j15 := Int → vtConfig → vtBook → wtI4 → vtWide → Int → Int → wtWide → Int → Int → Option (wtI4 × (Int))
abbrev F65.t_l6 := Int → vtConfig → vtBook → wtI4 → wtWide → Int → Int → Option (wtI4 × (Int))
def F65.j15b (N : Nat) (k_l6 : F65.t_l6) (x2 : Int) (x3 : vtConfig) (x4 : vtBook) (x10 : wtI4) (x12 : vtWide) (x15 : Int) (x19 : Int) (x38 : wtWide) (x39 : Int) (x40 : Int) : Option (wtI4 × (Int)) :=
  cond (eqB x19 0) (k_l6 x2 x3 x4 x10 x38 x39 (W .i64 (x40 + 1))) (let v12 : Int := W .i64 (x2 + (List.length x10 : Int)); (F81 N x12).bind fun r13 => cond (ltB 0 r13) (cond (small (List.length x10 + List.length ([(v12, (x15, ((2 : Int), (x19, ()))))]))) (k_l6 x2 x3 x4 (x10 ++ ([(v12, (x15, ((2 : Int), (x19, ()))))])) x38 x39 (W .i64 (x40 + 1))) (none)) (cond (small (List.length x10 + List.length ([(v12, (x15, ((1 : Int), (x19, ()))))]))) (k_l6 x2 x3 x4 (x10 ++ ([(v12, (x15, ((1 : Int), (x19, ()))))])) x38 x39 (W .i64 (x40 + 1))) (none)))
def F65.j15 (N : Nat) (k_l6 : F65.t_l6) (x2 : Int) (x3 : vtConfig) (x4 : vtBook) (x10 : wtI4) (x12 : vtWide) (x15 : Int) (x19 : Int) (x38 : wtWide) (x39 : Int) (x40 : Int) : Option (wtI4 × (Int)) := F65.j15b N k_l6 x2 x3 x4 x10 x12 x15 x19 x38 x39 x40
def F65.l6b (N : Nat) (s_j15 : F65.t_j15) (k_l6 : F65.t_l6) (x2 : Int) (x3 : vtConfig) (x4 : vtBook) (x10 : wtI4) (x38 : wtWide) (x39 : Int) (x40 : Int) : Option (wtI4 × (Int)) :=
  cond (ltB x40 x39) (cond (inb x40 (List.length x38)) ((F153 N (List.getD x38 x40.toNat zz2)).bind fun r3 => (F25 N x3.2.2.2.2.2.2.1).bind fun r4 => (F82 N r3.1 r4).bind fun r5 => cond (leB r5 0) (k_l6 x2 x3 x4 x10 x38 x39 (W .i64 (x40 + 1))) ((F154 N x3 x40).bind fun r7 => cond (inb 0 (List.length r7)) (cond (inb (List.getD r7 (0 : Int).toNat (0 : Int)) (List.length x4.2.2.2.2.1)) ((F155 N r3.1 (List.getD x4.2.2.2.2.1 (List.getD r7 (0 : Int).toNat (0 : Int)).toNat (0 : Int))).bind fun r8 => (F79 N r8.1).bind fun r9 => cond (!r9.2) (s_j15 x2 x3 x4 x10 (List.getD x38 x40.toNat zz2) (List.getD r7 (0 : Int).toNat (0 : Int)) (1000000000 : Int) x38 x39 x40) (cond (ltB 1000000000 r9.1) (s_j15 x2 x3 x4 x10 (List.getD x38 x40.toNat zz2) (List.getD r7 (0 : Int).toNat (0 : Int)) (1000000000 : Int) x38 x39 x40) (s_j15 x2 x3 x4 x10 (List.getD x38 x40.toNat zz2) (List.getD r7 (0 : Int).toNat (0 : Int)) r9.1 x38 x39 x40))) (none)) (none))) (none)) (some (x10, (0 : Int)))
def F65.l6 (N : Nat) : Nat → F65.t_l6
  | 0, _, _, _, _, _, _, _ => none
  | n + 1, x2, x3, x4, x10, x38, x39, x40 => F65.l6b N (F65.j15 N (F65.l6 N n)) (F65.l6 N n) x2 x3 x4 x10 x38 x39 x40
def F65.b (N : Nat) (s_l6 : F65.t_l6) (a0 : vtConfig) (a1 : vtBook) (a2 : Int) : Option (wtI4 × (Int)) :=
  (F64 N a0 a1).bind fun r1 => cond (!eqB r1.2 0) (some ([], (1 : Int))) (cond (ltB a2 1) (some ([], (1 : Int))) (cond (ltB 1099511627772 a2) (some ([], (1 : Int))) (s_l6 a2 a0 a1 ([]) r1.1 (List.length r1.1 : Int) (0 : Int))))
def F65 (N : Nat) (a0 : vtConfig) (a1 : vtBook) (a2 : Int) : Option (wtI4 × (Int)) := F65.b N (F65.l6 N N) a0 a1 a2

def F156 (N : Nat) (a0 : Int) : Option (Bool) :=
  cond (leB 1 a0) (some (leB a0 1000000000)) (some false)

def F67 (N : Nat) (a0 : vtI4) : Option (Bool) :=
  cond (leB 1 a0.1) (cond (leB a0.1 1099511627776) (cond (leB 0 a0.2.1) (cond (ltB a0.2.1 6) (cond (eqB a0.2.2.1 1) ((F156 N a0.2.2.2.1).bind fun r1 => some r1) (cond (eqB a0.2.2.1 2) ((F156 N a0.2.2.2.1).bind fun r2 => some r2) (some false))) (some false)) (some false)) (some false)) (some false)

abbrev F103.t_l9 := wtI6 → Int → wtI3 → Int → vtI3 → Int → wtI6 → Int → Int → Option wtI3
abbrev F103.t_l5 := wtI6 → Int → wtI3 → Int → Option wtI3
def F103.l9b (N : Nat) (k_l5 : F103.t_l5) (k_l9 : F103.t_l9) (x0 : wtI6) (x1 : Int) (x5 : wtI3) (x6 : Int) (x7 : vtI3) (x13 : Int) (x18 : wtI6) (x19 : Int) (x20 : Int) : Option wtI3 :=
  cond (ltB x20 x19) (cond (inb x20 (List.length x18)) (cond (!eqB (((List.getD x18 x20.toNat zz6).2).1) x1) (k_l9 x0 x1 x5 x6 x7 x13 x18 x19 (W .i64 (x20 + 1))) (cond (!eqB ((((List.getD x18 x20.toNat zz6).2).2).1) x6) (k_l9 x0 x1 x5 x6 x7 x13 x18 x19 (W .i64 (x20 + 1))) (cond (eqB (((((List.getD x18 x20.toNat zz6).2).2).2).1) (1 : Int)) (k_l9 x0 x1 x5 x6 (x7.1, ((W .i64 (x7.2.1 + ((((((List.getD x18 x20.toNat zz6).2).2).2).2).1))), x7.2.2)) x13 x18 x19 (W .i64 (x20 + 1))) (k_l9 x0 x1 x5 x6 (x7.1, (x7.2.1, ((W .i64 (x7.2.2.1 + ((((((List.getD x18 x20.toNat zz6).2).2).2).2).1))), x7.2.2.2))) x13 x18 x19 (W .i64 (x20 + 1)))))) (none)) (cond (ltB 0 (W .i64 (x7.2.1 + x7.2.2.1))) (cond (small (List.length x5 + List.length ([x7]))) (k_l5 x0 x1 (x5 ++ ([x7])) (W .i64 (x13 + 1))) (none)) (k_l5 x0 x1 x5 (W .i64 (x13 + 1))))
def F103.l9 (N : Nat) (k_l5 : F103.t_l5) : Nat → F103.t_l9
  | 0, _, _, _, _, _, _, _, _, _ => none
  | n + 1, x0, x1, x5, x6, x7, x13, x18, x19, x20 => F103.l9b N k_l5 (F103.l9 N k_l5 n) x0 x1 x5 x6 x7 x13 x18 x19 x20
def F103.l5b (N : Nat) (s_l9 : F103.t_l9) (k_l5 : F103.t_l5) (x0 : wtI6) (x1 : Int) (x5 : wtI3) (x13 : Int) : Option wtI3 :=
  cond (ltB x13 6) (s_l9 x0 x1 x5 x13 (x13, zz2) x13 x0 (List.length x0 : Int) (0 : Int)) (some x5)
def F103.l5 (N : Nat) : Nat → F103.t_l5
  | 0, _, _, _, _ => none
  | n + 1, x0, x1, x5, x13 => F103.l5b N (F103.l9 N (F103.l5 N n) N) (F103.l5 N n) x0 x1 x5 x13
def F103.b (N : Nat) (s_l5 : F103.t_l5) (a0 : wtI6) (a1 : Int) : Option wtI3 :=
  (F114 N a0).bind fun r1 => cond (!r1) (some ([])) (s_l5 a0 a1 ([]) (0 : Int))
def F103 (N : Nat) (a0 : wtI6) (a1 : Int) : Option wtI3 := F103.b N (F103.l5 N N) a0 a1

abbrev F144.t_j6 := wtI3 → vtI6 → Int → Option wtI3
abbrev F144.t_j4 := wtI3 → vtI6 → Int → Option wtI3
abbrev F144.t_l2 := wtI3 → vtI6 → Int → Option wtI3
def F144.j6b (N : Nat) (x0 : wtI3) (x3 : vtI6) (x5 : Int) : Option wtI3 :=
  cond (eqB x3.2.2.2.1 1) (cond (inb x5 (List.length x0)) (cond (inb x5 (List.length x0)) (some (List.set x0 x5.toNat ((List.getD x0 x5.toNat zz3).1, ((W .i64 ((((List.getD x0 x5.toNat zz3).2).1) + x3.2.2.2.2.1)), ((List.getD x0 x5.toNat zz3).2).2)))) (none)) (none)) (cond (inb x5 (List.length x0)) (cond (inb x5 (List.length x0)) (some (List.set x0 x5.toNat ((List.getD x0 x5.toNat zz3).1, (((List.getD x0 x5.toNat zz3).2).1, ((W .i64 (((((List.getD x0 x5.toNat zz3).2).2).1) + x3.2.2.2.2.1)), (((List.getD x0 x5.toNat zz3).2).2).2))))) (none)) (none))
def F144.j6 (N : Nat) (x0 : wtI3) (x3 : vtI6) (x5 : Int) : Option wtI3 := F144.j6b N x0 x3 x5
def F144.j4b (N : Nat) (s_j6 : F144.t_j6) (x0 : wtI3) (x3 : vtI6) (x5 : Int) : Option wtI3 :=
  cond (eqB x5 (List.length x0 : Int)) ((insertL N x0 x5 ([(x3.2.2.1, zz2)])).bind fun r4 => s_j6 r4 x3 x5) (cond (inb x5 (List.length x0)) (cond (!eqB ((List.getD x0 x5.toNat zz3).1) x3.2.2.1) ((insertL N x0 x5 ([(x3.2.2.1, zz2)])).bind fun r10 => s_j6 r10 x3 x5) (s_j6 x0 x3 x5)) (none))
def F144.j4 (N : Nat) (x0 : wtI3) (x3 : vtI6) (x5 : Int) : Option wtI3 := F144.j4b N (F144.j6 N) x0 x3 x5
def F144.l2b (N : Nat) (s_j4 : F144.t_j4) (k_l2 : F144.t_l2) (x0 : wtI3) (x3 : vtI6) (x5 : Int) : Option wtI3 :=
  cond (ltB x5 (List.length x0 : Int)) (cond (inb x5 (List.length x0)) (cond (ltB ((List.getD x0 x5.toNat zz3).1) x3.2.2.1) (k_l2 x0 x3 (W .i64 (x5 + 1))) (s_j4 x0 x3 x5)) (none)) (s_j4 x0 x3 x5)
def F144.l2 (N : Nat) : Nat → F144.t_l2
  | 0, _, _, _ => none
  | n + 1, x0, x3, x5 => F144.l2b N (F144.j4 N) (F144.l2 N n) x0 x3 x5
def F144.b (N : Nat) (s_l2 : F144.t_l2) (a0 : wtI3) (a1 : vtI6) : Option wtI3 :=
  s_l2 a0 a1 (0 : Int)
def F144 (N : Nat) (a0 : wtI3) (a1 : vtI6) : Option wtI3 := F144.b N (F144.l2 N N) a0 a1

abbrev F80.t_l2 := wtI2 → vtConfig → wtI2 → Int → Int → Option (Bool)
def F80.l2b (N : Nat) (k_l2 : F80.t_l2) (x1 : wtI2) (x2 : vtConfig) (x7 : wtI2) (x8 : Int) (x9 : Int) : Option (Bool) :=
  cond (ltB x9 x8) (cond (inb x9 (List.length x7)) (cond (ltB ((List.getD x7 x9.toNat zz2).1) (0 : Int)) (some false) (cond (leB (List.length x2.1 : Int) ((List.getD x7 x9.toNat zz2).1)) (some false) (cond (eqB (((List.getD x7 x9.toNat zz2).2).1) (0 : Int)) (some false) ((F166 N (((List.getD x7 x9.toNat zz2).2).1)).bind fun r2 => cond (!r2) (some false) (cond (ltB 0 x9) (let v3 : Int := W .i64 (x9 - 1); cond (inb v3 (List.length x1)) (cond (leB ((List.getD x7 x9.toNat zz2).1) ((List.getD x1 v3.toNat zz2).1)) (some false) (k_l2 x1 x2 x7 x8 (W .i64 (x9 + 1)))) (none)) (k_l2 x1 x2 x7 x8 (W .i64 (x9 + 1)))))))) (none)) ((F40 N x2).bind fun r6 => some r6)
def F80.l2 (N : Nat) : Nat → F80.t_l2
  | 0, _, _, _, _, _ => none
  | n + 1, x1, x2, x7, x8, x9 => F80.l2b N (F80.l2 N n) x1 x2 x7 x8 x9
def F80.b (N : Nat) (s_l2 : F80.t_l2) (a0 : vtConfig) (a1 : wtI2) : Option (Bool) :=
  s_l2 a1 a0 a1 (List.length a1 : Int) (0 : Int)
def F80 (N : Nat) (a0 : vtConfig) (a1 : wtI2) : Option (Bool) := F80.b N (F80.l2 N N) a0 a1

abbrev F181.t_l2 := wtI3 → vtConfig → wtI3 → Int → Int → Option (Bool)
def F181.l2b (N : Nat) (k_l2 : F181.t_l2) (x1 : wtI3) (x2 : vtConfig) (x7 : wtI3) (x8 : Int) (x9 : Int) : Option (Bool) :=
  cond (ltB x9 x8) (cond (inb x9 (List.length x7)) (cond (ltB ((List.getD x7 x9.toNat zz3).1) (0 : Int)) (some false) (cond (leB (List.length x2.1 : Int) ((List.getD x7 x9.toNat zz3).1)) (some false) (cond (ltB (((List.getD x7 x9.toNat zz3).2).1) (0 : Int)) (some false) (cond (ltB 33000000000 (((List.getD x7 x9.toNat zz3).2).1)) (some false) (cond (ltB ((((List.getD x7 x9.toNat zz3).2).2).1) (0 : Int)) (some false) (cond (ltB 33000000000 ((((List.getD x7 x9.toNat zz3).2).2).1)) (some false) (cond (eqB (((List.getD x7 x9.toNat zz3).2).1) (0 : Int)) (cond (eqB ((((List.getD x7 x9.toNat zz3).2).2).1) (0 : Int)) (some false) (cond (ltB 0 x9) (let v2 : Int := W .i64 (x9 - 1); cond (inb v2 (List.length x1)) (cond (leB ((List.getD x7 x9.toNat zz3).1) ((List.getD x1 v2.toNat zz3).1)) (some false) (k_l2 x1 x2 x7 x8 (W .i64 (x9 + 1)))) (none)) (k_l2 x1 x2 x7 x8 (W .i64 (x9 + 1))))) (cond (ltB 0 x9) (let v5 : Int := W .i64 (x9 - 1); cond (inb v5 (List.length x1)) (cond (leB ((List.getD x7 x9.toNat zz3).1) ((List.getD x1 v5.toNat zz3).1)) (some false) (k_l2 x1 x2 x7 x8 (W .i64 (x9 + 1)))) (none)) (k_l2 x1 x2 x7 x8 (W .i64 (x9 + 1))))))))))) (none)) ((F40 N x2).bind fun r8 => some r8)
def F181.l2 (N : Nat) : Nat → F181.t_l2
  | 0, _, _, _, _, _ => none
  | n + 1, x1, x2, x7, x8, x9 => F181.l2b N (F181.l2 N n) x1 x2 x7 x8 x9
def F181.b (N : Nat) (s_l2 : F181.t_l2) (a0 : vtConfig) (a1 : wtI3) : Option (Bool) :=
  s_l2 a1 a0 a1 (List.length a1 : Int) (0 : Int)
def F181 (N : Nat) (a0 : vtConfig) (a1 : wtI3) : Option (Bool) := F181.b N (F181.l2 N N) a0 a1

abbrev F145.t_l13 := Int → vtWide → Int → Int → Int → wtI3 → Int → Int → Option (vtWide × (Int))
abbrev F145.t_l7 := wtI3 → Int → vtWide → Int → Int → Int → wtI2 → Int → Int → Option (vtWide × (Int))
def F145.l13b (N : Nat) (k_l13 : F145.t_l13) (x3 : Int) (x8 : vtWide) (x10 : Int) (x11 : Int) (x12 : Int) (x57 : wtI3) (x58 : Int) (x59 : Int) : Option (vtWide × (Int)) :=
  cond (ltB x59 x58) (cond (inb x59 (List.length x57)) (cond (eqB ((List.getD x57 x59.toNat zz3).1) x3) (k_l13 x3 x8 x10 (((List.getD x57 x59.toNat zz3).2).1) ((((List.getD x57 x59.toNat zz3).2).2).1) x57 x58 (W .i64 (x59 + 1))) (k_l13 x3 x8 x10 x11 x12 x57 x58 (W .i64 (x59 + 1)))) (none)) ((F25 N x10).bind fun r9 => (F25 N x11).bind fun r10 => (F74 N r9 r10).bind fun r11 => (F25 N x10).bind fun r12 => (F25 N x12).bind fun r13 => (F165 N r12 r13).bind fun r14 => (F153 N r11.1).bind fun r15 => (F153 N r14.1).bind fun r16 => (F82 N r15.1 r16.1).bind fun r17 => cond (ltB r17 0) (some (r16.1, (0 : Int))) (some (r15.1, (0 : Int))))
def F145.l13 (N : Nat) : Nat → F145.t_l13
  | 0, _, _, _, _, _, _, _, _ => none
  | n + 1, x3, x8, x10, x11, x12, x57, x58, x59 => F145.l13b N (F145.l13 N n) x3 x8 x10 x11 x12 x57 x58 x59
def F145.l7b (N : Nat) (s_l13 : F145.t_l13) (k_l7 : F145.t_l7) (x2 : wtI3) (x3 : Int) (x8 : vtWide) (x10 : Int) (x11 : Int) (x12 : Int) (x44 : wtI2) (x45 : Int) (x46 : Int) : Option (vtWide × (Int)) :=
  cond (ltB x46 x45) (cond (inb x46 (List.length x44)) (cond (eqB ((List.getD x44 x46.toNat zz2).1) x3) (k_l7 x2 x3 x8 (((List.getD x44 x46.toNat zz2).2).1) x11 x12 x44 x45 (W .i64 (x46 + 1))) (k_l7 x2 x3 x8 x10 x11 x12 x44 x45 (W .i64 (x46 + 1)))) (none)) (s_l13 x3 x8 x10 x11 x12 x2 (List.length x2 : Int) (0 : Int))
def F145.l7 (N : Nat) : Nat → F145.t_l7
  | 0, _, _, _, _, _, _, _, _, _ => none
  | n + 1, x2, x3, x8, x10, x11, x12, x44, x45, x46 => F145.l7b N (F145.l13 N N) (F145.l7 N n) x2 x3 x8 x10 x11 x12 x44 x45 x46
def F145.b (N : Nat) (s_l7 : F145.t_l7) (a0 : vtConfig) (a1 : wtI2) (a2 : wtI3) (a3 : Int) : Option (vtWide × (Int)) :=
  (F80 N a0 a1).bind fun r1 => cond (!r1) (some (zz2, (1 : Int))) ((F181 N a0 a2).bind fun r2 => cond (!r2) (some (zz2, (1 : Int))) (cond (ltB a3 0) (some (zz2, (3 : Int))) (cond (leB (List.length a0.1 : Int) a3) (some (zz2, (3 : Int))) (s_l7 a2 a3 zz2 (0 : Int) (0 : Int) (0 : Int) a1 (List.length a1 : Int) (0 : Int)))))
def F145 (N : Nat) (a0 : vtConfig) (a1 : wtI2) (a2 : wtI3) (a3 : Int) : Option (vtWide × (Int)) := F145.b N (F145.l7 N N) a0 a1 a2 a3

def F182 (N : Nat) (a0 : vtWide) (a1 : Int) : Option (vtWide × (Bool)) :=
  (F215 N a0).bind fun r1 => (F75 N a1).bind fun r2 => (F167 N r1.2 r2).bind fun r3 => (F167 N r1.1 r2).bind fun r4 => (add64 N r4.2 r3.1 (0 : Int)).bind fun r5 => cond (!eqB (W .u64 (r4.1 + r5.2)) (0 : Int)) (some (zz2, false)) ((F168 N (!(teq .bool (ltB a0.1 0) (ltB a1 0))) r5.1 r3.2).bind fun r7 => some (r7.1, r7.2))

abbrev F102.t_l5 := wtI2 → wtI3 → vtConfig → vtWide → wtWide → wtI4 → Int → Int → Option (vtWide × (Int))
def F102.l5b (N : Nat) (k_l5 : F102.t_l5) (x1 : wtI2) (x2 : wtI3) (x3 : vtConfig) (x6 : vtWide) (x8 : wtWide) (x29 : wtI4) (x30 : Int) (x31 : Int) : Option (vtWide × (Int)) :=
  cond (ltB x31 x30) (cond (inb x31 (List.length x29)) ((F145 N x3 x1 x2 x31).bind fun r4 => (F182 N r4.1 ((((List.getD x29 x31.toNat zz4).2).2).1)).bind fun r5 => cond (small (List.length x8 + List.length ([r5.1]))) (k_l5 x1 x2 x3 x6 (x8 ++ ([r5.1])) x29 x30 (W .i64 (x31 + 1))) (none)) (none)) ((F183 N x8).bind fun r8 => some (r8.1, (0 : Int)))
def F102.l5 (N : Nat) : Nat → F102.t_l5
  | 0, _, _, _, _, _, _, _, _ => none
  | n + 1, x1, x2, x3, x6, x8, x29, x30, x31 => F102.l5b N (F102.l5 N n) x1 x2 x3 x6 x8 x29 x30 x31
def F102.b (N : Nat) (s_l5 : F102.t_l5) (a0 : vtConfig) (a1 : wtI2) (a2 : wtI3) : Option (vtWide × (Int)) :=
  (F80 N a0 a1).bind fun r1 => cond (!r1) (some (zz2, (1 : Int))) ((F181 N a0 a2).bind fun r2 => cond (!r2) (some (zz2, (1 : Int))) (s_l5 a1 a2 a0 zz2 ([]) a0.1 (List.length a0.1 : Int) (0 : Int)))
def F102 (N : Nat) (a0 : vtConfig) (a1 : wtI2) (a2 : wtI3) : Option (vtWide × (Int)) := F102.b N (F102.l5 N N) a0 a1 a2

def F56 (N : Nat) (a0 : vtI6) (a1 : Int) : Option (vtWide × (Int)) :=
  (F143 N a0).bind fun r1 => cond (!r1) (some (zz2, (1 : Int))) ((F100 N a1).bind fun r2 => cond (!r2) (some (zz2, (1 : Int))) ((F83 N a0.2.2.2.2.1 (W .i64 (a0.2.2.2.2.2.1 - a1))).bind fun r4 => cond (eqB a0.2.2.2.1 2) ((F83 N a0.2.2.2.2.1 (W .i64 (a1 - a0.2.2.2.2.2.1))).bind fun r6 => (F81 N r6).bind fun r7 => cond (ltB r7 0) (some (zz2, (0 : Int))) (some (r6, (0 : Int)))) ((F81 N r4).bind fun r8 => cond (ltB r8 0) (some (zz2, (0 : Int))) (some (r4, (0 : Int))))))

abbrev F141.t_l4 := Int → Int → wtI3 → Int → Int → Option (Int)
def F141.l4b (N : Nat) (k_l4 : F141.t_l4) (x1 : Int) (x2 : Int) (x12 : wtI3) (x13 : Int) (x14 : Int) : Option (Int) :=
  cond (ltB x14 x13) (cond (inb x14 (List.length x12)) (cond (eqB ((List.getD x12 x14.toNat zz3).1) x1) (cond (eqB (((List.getD x12 x14.toNat zz3).2).1) x2) (some ((((List.getD x12 x14.toNat zz3).2).2).1)) (k_l4 x1 x2 x12 x13 (W .i64 (x14 + 1)))) (k_l4 x1 x2 x12 x13 (W .i64 (x14 + 1)))) (none)) (some (0 : Int))
def F141.l4 (N : Nat) : Nat → F141.t_l4
  | 0, _, _, _, _, _ => none
  | n + 1, x1, x2, x12, x13, x14 => F141.l4b N (F141.l4 N n) x1 x2 x12 x13 x14
def F141.b (N : Nat) (s_l4 : F141.t_l4) (a0 : wtI3) (a1 : Int) (a2 : Int) : Option (Int) :=
  (F111 N a0).bind fun r1 => cond (!r1) (some (0 : Int)) (s_l4 a1 a2 a0 (List.length a0 : Int) (0 : Int))
def F141 (N : Nat) (a0 : wtI3) (a1 : Int) (a2 : Int) : Option (Int) := F141.b N (F141.l4 N N) a0 a1 a2

def F140 (N : Nat) (a0 : Int) (a1 : vtWide) : Option (Bool) :=
  (F25 N a0).bind fun r1 => (F82 N r1 a1).bind fun r2 => some (leB 0 r2)

def F57 (N : Nat) (a0 : vtConfig) (a1 : vtBook) (a2 : vtI6) : Option (Int) :=
  (F39 N a0 a1).bind fun r1 => cond (!r1) (some (1 : Int)) ((F143 N a2).bind fun r2 => cond (!r2) (some (1 : Int)) ((F139 N a1.2.1 a2.2.1).bind fun r3 => cond (!r3.2) (some (3 : Int)) ((F104 N a1.1 r3.1.2.1).bind fun r4 => cond (!eqB r4 1) (some (7 : Int)) (cond (leB (List.length a0.1 : Int) a2.2.2.1) (some (3 : Int)) ((F73 N a1.2.2.2.1 a2.2.1).bind fun r5 => (F103 N a1.2.2.2.2.2.1 a2.2.1).bind fun r6 => (F144 N r6 a2).bind fun r7 => (F145 N a0 r5 r7 a2.2.2.1).bind fun r8 => (F25 N r3.1.2.2.2.1).bind fun r9 => (F82 N r8.1 r9).bind fun r10 => cond (ltB 0 r10) (some (9 : Int)) ((F102 N a0 r5 r7).bind fun r11 => cond (inb a2.2.2.1 (List.length a1.2.2.2.2.1)) ((F56 N a2 (List.getD a1.2.2.2.2.1 a2.2.2.1.toNat (0 : Int))).bind fun r12 => (F74 N r11.1 r12.1).bind fun r13 => (F141 N a1.2.2.1 (5 : Int) a2.2.1).bind fun r14 => (F140 N r14 r13.1).bind fun r15 => cond (!r15) (some (10 : Int)) (some (0 : Int))) (none)))))))

abbrev F96.t_l2 := vtI5 → (List (Int)) → Int → Option (Bool)
def F96.l2b (N : Nat) (k_l2 : F96.t_l2) (x1 : vtI5) (x9 : List (Int)) (x10 : Int) : Option (Bool) :=
  cond (ltB x10 2) (cond (inb x10 2) (cond (ltB (List.getD x9 x10.toNat (0 : Int)) (0 : Int)) (some false) (cond (ltB 24 (List.getD x9 x10.toNat (0 : Int))) (some false) (k_l2 x1 x9 (W .i64 (x10 + 1))))) (none)) (cond (!eqB x1.1 x1.2.1) (cond (leB 0 x1.2.2.1) (cond (ltB x1.2.2.1 6) (cond (leB 1 x1.2.2.2.1) (cond (leB x1.2.2.2.1 1000000000) ((F100 N x1.2.2.2.2.1).bind fun r4 => some r4) (some false)) (some false)) (some false)) (some false)) (some false))
def F96.l2 (N : Nat) : Nat → F96.t_l2
  | 0, _, _, _ => none
  | n + 1, x1, x9, x10 => F96.l2b N (F96.l2 N n) x1 x9 x10
def F96.b (N : Nat) (s_l2 : F96.t_l2) (a0 : vtI5) : Option (Bool) :=
  s_l2 a0 (List.set (List.set (List.replicate 2 (0 : Int)) 0 a0.1) 1 a0.2.1) (0 : Int)
def F96 (N : Nat) (a0 : vtI5) : Option (Bool) := F96.b N (F96.l2 N N) a0

def F95 (N : Nat) (a0 : vtI5) : Option (Bool) :=
  (F96 N a0).bind fun r1 => some (!r1)

abbrev F177.t_l2 := wtI5 → Unit → Int → Int → Option (Int)
def F177.l2b (N : Nat) (k_l2 : F177.t_l2) (x0 : wtI5) (x1 : Unit) (x7 : Int) (x8 : Int) : Option (Int) :=
  cond (ltB x8 x7) (cond (inb x8 (List.length x0)) ((F95 N (List.getD x0 x8.toNat zz5)).bind fun r2 => cond (r2) (some x8) (k_l2 x0 () x7 (W .i64 (x8 + 1)))) (none)) (some (-1 : Int))
def F177.l2 (N : Nat) : Nat → F177.t_l2
  | 0, _, _, _, _ => none
  | n + 1, x0, x1, x7, x8 => F177.l2b N (F177.l2 N n) x0 x1 x7 x8
def F177.b (N : Nat) (s_l2 : F177.t_l2) (a0 : wtI5) (a1 : Unit) : Option (Int) :=
  s_l2 a0 () (List.length a0 : Int) (0 : Int)
def F177 (N : Nat) (a0 : wtI5) (a1 : Unit) : Option (Int) := F177.b N (F177.l2 N N) a0 a1

def F94 (N : Nat) (a0 : wtI5) (a1 : Unit) : Option (Bool) :=
  (F177 N a0 ()).bind fun r1 => some (leB 0 r1)

def F178 (N : Nat) (a0 : Int) (a1 : vtWide) : Option vtEntry :=
  cond (eqB a0 0) (some ((2 : Int), ((0 : Int), (a1, ())))) (some ((5 : Int), (a0, (a1, ()))))

def F98 (N : Nat) (a0 : vtI5) (a1 : Int) : Option (wtEntry × (Int)) :=
  (F96 N a0).bind fun r1 => cond (!r1) (some ([], (1 : Int))) ((F100 N a1).bind fun r2 => cond (!r2) (some ([], (1 : Int))) (cond (eqB a1 a0.2.2.2.2.1) (some ([], (0 : Int))) ((F83 N a0.2.2.2.1 (W .i64 (a1 - a0.2.2.2.2.1))).bind fun r4 => (F178 N a0.1 r4).bind fun r5 => (F83 N a0.2.2.2.1 (W .i64 (a0.2.2.2.2.1 - a1))).bind fun r7 => (F178 N a0.2.1 r7).bind fun r8 => some ([r5, r8], (0 : Int)))))

def F105 (N : Nat) (a0 : vtBook) : Option vtBook :=
  (cloneL N a0.1).bind fun r1 => (cloneL N a0.2.1).bind fun r2 => (cloneL N a0.2.2.1).bind fun r3 => (cloneL N a0.2.2.2.1).bind fun r4 => (cloneL N a0.2.2.2.2.1).bind fun r5 => (cloneL N a0.2.2.2.2.2.1).bind fun r6 => some (r1, (r2, (r3, (r4, (r5, (r6, ()))))))

abbrev F229.t_l6 := wtI3 → Int → wtWide → Int → wtI3 → Int → Int → Option (Bool)
abbrev F229.t_l2 := wtI3 → Int → Option (Bool)
def F229.l6b (N : Nat) (k_l2 : F229.t_l2) (k_l6 : F229.t_l6) (x0 : wtI3) (x3 : Int) (x4 : wtWide) (x9 : Int) (x12 : wtI3) (x13 : Int) (x14 : Int) : Option (Bool) :=
  cond (ltB x14 x13) (cond (inb x14 (List.length x12)) (cond (eqB (((List.getD x12 x14.toNat zz3).2).1) x3) ((F25 N ((((List.getD x12 x14.toNat zz3).2).2).1)).bind fun r3 => cond (small (List.length x4 + List.length ([r3]))) (k_l6 x0 x3 (x4 ++ ([r3])) x9 x12 x13 (W .i64 (x14 + 1))) (none)) (k_l6 x0 x3 x4 x9 x12 x13 (W .i64 (x14 + 1)))) (none)) ((F183 N x4).bind fun r7 => cond (!r7.2) (some false) ((F81 N r7.1).bind fun r8 => cond (!eqB r8 0) (some false) (k_l2 x0 (W .i64 (x9 + 1)))))
def F229.l6 (N : Nat) (k_l2 : F229.t_l2) : Nat → F229.t_l6
  | 0, _, _, _, _, _, _, _ => none
  | n + 1, x0, x3, x4, x9, x12, x13, x14 => F229.l6b N k_l2 (F229.l6 N k_l2 n) x0 x3 x4 x9 x12 x13 x14
def F229.l2b (N : Nat) (s_l6 : F229.t_l6) (k_l2 : F229.t_l2) (x0 : wtI3) (x9 : Int) : Option (Bool) :=
  cond (ltB x9 6) (s_l6 x0 x9 ([]) x9 x0 (List.length x0 : Int) (0 : Int)) (some true)
def F229.l2 (N : Nat) : Nat → F229.t_l2
  | 0, _, _ => none
  | n + 1, x0, x9 => F229.l2b N (F229.l6 N (F229.l2 N n) N) (F229.l2 N n) x0 x9
def F229.b (N : Nat) (s_l2 : F229.t_l2) (a0 : wtI3) : Option (Bool) :=
  s_l2 a0 (0 : Int)
def F229 (N : Nat) (a0 : wtI3) : Option (Bool) := F229.b N (F229.l2 N N) a0

def F231 (N : Nat) (a0 : wtI3) : Option wtI3 :=
  cond (okCut 0 (List.length a0 : Int) (List.length a0 : Int) (List.length a0 : Int)) (some (List.drop (0 : Int).toNat (List.take (List.length a0 : Int).toNat a0))) (none)

abbrev F179.t_j18 := wtI3 → wtI3 → vtI3 → Int → wtI3 → Int → Int → Option (wtI3 × (Int))
abbrev F179.t_l16 := wtI3 → wtI3 → vtI3 → Int → wtI3 → Int → Int → Option (wtI3 × (Int))
abbrev F179.t_l27 := wtI3 → wtI3 → vtI3 → wtWide → wtI3 → Int → Int → wtI3 → Int → Int → Option (wtI3 × (Int))
abbrev F179.t_l23 := wtI3 → wtI3 → wtI3 → Int → Int → Option (wtI3 × (Int))
abbrev F179.t_l13 := wtI3 → wtI3 → wtI3 → Int → Int → Option (wtI3 × (Int))
abbrev F179.t_l4 := wtI3 → wtI3 → wtI3 → Int → Int → Option (wtI3 × (Int))
def F179.j18b (N : Nat) (k_l13 : F179.t_l13) (x1 : wtI3) (x8 : wtI3) (x10 : vtI3) (x11 : Int) (x54 : wtI3) (x55 : Int) (x56 : Int) : Option (wtI3 × (Int)) :=
  cond (eqB x11 (List.length x8 : Int)) ((insertL N x8 x11 ([(x10.1, (x10.2.1, ((0 : Int), ())))])).bind fun r13 => k_l13 x1 r13 x54 x55 (W .i64 (x56 + 1))) (cond (inb x11 (List.length x8)) ((F219 N x10.1 x10.2.1 (List.getD x8 x11.toNat zz3)).bind fun r15 => cond (!eqB r15 0) ((insertL N x8 x11 ([(x10.1, (x10.2.1, ((0 : Int), ())))])).bind fun r16 => k_l13 x1 r16 x54 x55 (W .i64 (x56 + 1))) (k_l13 x1 x8 x54 x55 (W .i64 (x56 + 1)))) (none))
def F179.j18 (N : Nat) (k_l13 : F179.t_l13) (x1 : wtI3) (x8 : wtI3) (x10 : vtI3) (x11 : Int) (x54 : wtI3) (x55 : Int) (x56 : Int) : Option (wtI3 × (Int)) := F179.j18b N k_l13 x1 x8 x10 x11 x54 x55 x56
def F179.l16b (N : Nat) (s_j18 : F179.t_j18) (k_l13 : F179.t_l13) (k_l16 : F179.t_l16) (x1 : wtI3) (x8 : wtI3) (x10 : vtI3) (x11 : Int) (x54 : wtI3) (x55 : Int) (x56 : Int) : Option (wtI3 × (Int)) :=
  cond (ltB x11 (List.length x8 : Int)) (cond (inb x11 (List.length x8)) ((F219 N x10.1 x10.2.1 (List.getD x8 x11.toNat zz3)).bind fun r10 => cond (ltB 0 r10) (k_l16 x1 x8 x10 (W .i64 (x11 + 1)) x54 x55 x56) (s_j18 x1 x8 x10 x11 x54 x55 x56)) (none)) (s_j18 x1 x8 x10 x11 x54 x55 x56)
def F179.l16 (N : Nat) (k_l13 : F179.t_l13) : Nat → F179.t_l16
  | 0, _, _, _, _, _, _, _ => none
  | n + 1, x1, x8, x10, x11, x54, x55, x56 => F179.l16b N (F179.j18 N k_l13) k_l13 (F179.l16 N k_l13 n) x1 x8 x10 x11 x54 x55 x56
def F179.l27b (N : Nat) (k_l23 : F179.t_l23) (k_l27 : F179.t_l27) (x1 : wtI3) (x12 : wtI3) (x14 : vtI3) (x15 : wtWide) (x107 : wtI3) (x108 : Int) (x109 : Int) (x117 : wtI3) (x118 : Int) (x119 : Int) : Option (wtI3 × (Int)) :=
  cond (ltB x119 x118) (cond (inb x119 (List.length x117)) (cond (eqB ((List.getD x117 x119.toNat zz3).1) x14.1) (cond (eqB (((List.getD x117 x119.toNat zz3).2).1) x14.2.1) ((F25 N ((((List.getD x117 x119.toNat zz3).2).2).1)).bind fun r23 => cond (small (List.length x15 + List.length ([r23]))) (k_l27 x1 x12 x14 (x15 ++ ([r23])) x107 x108 x109 x117 x118 (W .i64 (x119 + 1))) (none)) (k_l27 x1 x12 x14 x15 x107 x108 x109 x117 x118 (W .i64 (x119 + 1)))) (k_l27 x1 x12 x14 x15 x107 x108 x109 x117 x118 (W .i64 (x119 + 1)))) (none)) ((F183 N x15).bind fun r28 => (F79 N r28.1).bind fun r29 => cond (!r29.2) (some (ee3, (2 : Int))) ((F166 N r29.1).bind fun r30 => cond (!r30) (some (ee3, (2 : Int))) (cond (!eqB r29.1 0) (cond (small (List.length x12 + List.length ([(x14.1, (x14.2.1, (r29.1, ())))]))) (k_l23 x1 (x12 ++ ([(x14.1, (x14.2.1, (r29.1, ())))])) x107 x108 (W .i64 (x109 + 1))) (none)) (k_l23 x1 x12 x107 x108 (W .i64 (x109 + 1))))))
def F179.l27 (N : Nat) (k_l23 : F179.t_l23) : Nat → F179.t_l27
  | 0, _, _, _, _, _, _, _, _, _, _ => none
  | n + 1, x1, x12, x14, x15, x107, x108, x109, x117, x118, x119 => F179.l27b N k_l23 (F179.l27 N k_l23 n) x1 x12 x14 x15 x107 x108 x109 x117 x118 x119
def F179.l23b (N : Nat) (s_l27 : F179.t_l27) (k_l23 : F179.t_l23) (x1 : wtI3) (x12 : wtI3) (x107 : wtI3) (x108 : Int) (x109 : Int) : Option (wtI3 × (Int)) :=
  cond (ltB x109 x108) (cond (inb x109 (List.length x107)) ((F25 N ((((List.getD x107 x109.toNat zz3).2).2).1)).bind fun r21 => s_l27 x1 x12 (List.getD x107 x109.toNat zz3) ([r21]) x107 x108 x109 x1 (List.length x1 : Int) (0 : Int)) (none)) ((F231 N x12).bind fun r34 => some (r34, (0 : Int)))
def F179.l23 (N : Nat) : Nat → F179.t_l23
  | 0, _, _, _, _, _ => none
  | n + 1, x1, x12, x107, x108, x109 => F179.l23b N (F179.l27 N (F179.l23 N n) N) (F179.l23 N n) x1 x12 x107 x108 x109
def F179.l13b (N : Nat) (s_l16 : F179.t_l16) (s_l23 : F179.t_l23) (k_l13 : F179.t_l13) (x1 : wtI3) (x8 : wtI3) (x54 : wtI3) (x55 : Int) (x56 : Int) : Option (wtI3 × (Int)) :=
  cond (ltB x56 x55) (cond (inb x56 (List.length x54)) (s_l16 x1 x8 (List.getD x54 x56.toNat zz3) (0 : Int) x54 x55 x56) (none)) (cond (okMake 0 (List.length x8 : Int)) (s_l23 x1 (List.replicate (0 : Int).toNat zz3) x8 (List.length x8 : Int) (0 : Int)) (none))
def F179.l13 (N : Nat) : Nat → F179.t_l13
  | 0, _, _, _, _, _ => none
  | n + 1, x1, x8, x54, x55, x56 => F179.l13b N (F179.l16 N (F179.l13 N n) N) (F179.l23 N N) (F179.l13 N n) x1 x8 x54 x55 x56
def F179.l4b (N : Nat) (s_l13 : F179.t_l13) (k_l4 : F179.t_l4) (x0 : wtI3) (x1 : wtI3) (x30 : wtI3) (x31 : Int) (x32 : Int) : Option (wtI3 × (Int)) :=
  cond (ltB x32 x31) (cond (inb x32 (List.length x30)) ((F218 N ((List.getD x30 x32.toNat zz3).1) (((List.getD x30 x32.toNat zz3).2).1)).bind fun r3 => cond (!r3) (some (ee3, (1 : Int))) ((F166 N ((((List.getD x30 x32.toNat zz3).2).2).1)).bind fun r4 => cond (!r4) (some (ee3, (1 : Int))) (k_l4 x0 x1 x30 x31 (W .i64 (x32 + 1))))) (none)) ((F229 N x1).bind fun r6 => cond (!r6) (some (ee3, (1 : Int))) ((cloneL N x0).bind fun r7 => s_l13 x1 r7 x1 (List.length x1 : Int) (0 : Int)))
def F179.l4 (N : Nat) : Nat → F179.t_l4
  | 0, _, _, _, _, _ => none
  | n + 1, x0, x1, x30, x31, x32 => F179.l4b N (F179.l13 N N) (F179.l4 N n) x0 x1 x30 x31 x32
def F179.b (N : Nat) (s_l4 : F179.t_l4) (a0 : wtI3) (a1 : wtI3) : Option (wtI3 × (Int)) :=
  (F159 N a0).bind fun r1 => cond (!r1) (some (ee3, (1 : Int))) (cond (ltB 400 (List.length a1 : Int)) (some (ee3, (1 : Int))) (s_l4 a0 a1 a1 (List.length a1 : Int) (0 : Int)))
def F179 (N : Nat) (a0 : wtI3) (a1 : wtI3) : Option (wtI3 × (Int)) := F179.b N (F179.l4 N N) a0 a1

def F233 (N : Nat) (a0 : wtI3) : Option wtI3 :=
  cond (okCut 0 (List.length a0 : Int) (List.length a0 : Int) (List.length a0 : Int)) (some (List.drop (0 : Int).toNat (List.take (List.length a0 : Int).toNat a0))) (none)

abbrev F180.t_j21 := wtEntry → wtI3 → vtEntry → Int → wtEntry → Int → Int → Option (wtI3 × (Int))
abbrev F180.t_l19 := wtEntry → wtI3 → vtEntry → Int → wtEntry → Int → Int → Option (wtI3 × (Int))
abbrev F180.t_l30 := wtEntry → wtI3 → vtI3 → wtWide → wtI3 → Int → Int → wtEntry → Int → Int → Option (wtI3 × (Int))
abbrev F180.t_l26 := wtEntry → wtI3 → wtI3 → Int → Int → Option (wtI3 × (Int))
abbrev F180.t_l16 := wtEntry → wtI3 → wtEntry → Int → Int → Option (wtI3 × (Int))
abbrev F180.t_l5 := wtI3 → wtEntry → wtWide → wtEntry → Int → Int → Option (wtI3 × (Int))
def F180.j21b (N : Nat) (k_l16 : F180.t_l16) (x1 : wtEntry) (x11 : wtI3) (x13 : vtEntry) (x14 : Int) (x68 : wtEntry) (x69 : Int) (x70 : Int) : Option (wtI3 × (Int)) :=
  cond (eqB x14 (List.length x11 : Int)) ((insertL N x11 x14 ([(x13.1, (x13.2.1, ((0 : Int), ())))])).bind fun r15 => k_l16 x1 r15 x68 x69 (W .i64 (x70 + 1))) (cond (inb x14 (List.length x11)) ((F197 N x13.1 x13.2.1 (List.getD x11 x14.toNat zz3)).bind fun r17 => cond (!eqB r17 0) ((insertL N x11 x14 ([(x13.1, (x13.2.1, ((0 : Int), ())))])).bind fun r18 => k_l16 x1 r18 x68 x69 (W .i64 (x70 + 1))) (k_l16 x1 x11 x68 x69 (W .i64 (x70 + 1)))) (none))
def F180.j21 (N : Nat) (k_l16 : F180.t_l16) (x1 : wtEntry) (x11 : wtI3) (x13 : vtEntry) (x14 : Int) (x68 : wtEntry) (x69 : Int) (x70 : Int) : Option (wtI3 × (Int)) := F180.j21b N k_l16 x1 x11 x13 x14 x68 x69 x70
def F180.l19b (N : Nat) (s_j21 : F180.t_j21) (k_l16 : F180.t_l16) (k_l19 : F180.t_l19) (x1 : wtEntry) (x11 : wtI3) (x13 : vtEntry) (x14 : Int) (x68 : wtEntry) (x69 : Int) (x70 : Int) : Option (wtI3 × (Int)) :=
  cond (ltB x14 (List.length x11 : Int)) (cond (inb x14 (List.length x11)) ((F197 N x13.1 x13.2.1 (List.getD x11 x14.toNat zz3)).bind fun r12 => cond (ltB 0 r12) (k_l19 x1 x11 x13 (W .i64 (x14 + 1)) x68 x69 x70) (s_j21 x1 x11 x13 x14 x68 x69 x70)) (none)) (s_j21 x1 x11 x13 x14 x68 x69 x70)
def F180.l19 (N : Nat) (k_l16 : F180.t_l16) : Nat → F180.t_l19
  | 0, _, _, _, _, _, _, _ => none
  | n + 1, x1, x11, x13, x14, x68, x69, x70 => F180.l19b N (F180.j21 N k_l16) k_l16 (F180.l19 N k_l16 n) x1 x11 x13 x14 x68 x69 x70
def F180.l30b (N : Nat) (k_l26 : F180.t_l26) (k_l30 : F180.t_l30) (x1 : wtEntry) (x15 : wtI3) (x17 : vtI3) (x18 : wtWide) (x121 : wtI3) (x122 : Int) (x123 : Int) (x131 : wtEntry) (x132 : Int) (x133 : Int) : Option (wtI3 × (Int)) :=
  cond (ltB x133 x132) (cond (inb x133 (List.length x131)) (cond (eqB ((List.getD x131 x133.toNat ((0 : Int), ((0 : Int), (zz2, ())))).1) x17.1) (cond (eqB (((List.getD x131 x133.toNat ((0 : Int), ((0 : Int), (zz2, ())))).2).1) x17.2.1) (cond (small (List.length x18 + List.length ([(((List.getD x131 x133.toNat ((0 : Int), ((0 : Int), (zz2, ())))).2).2).1]))) (k_l30 x1 x15 x17 (x18 ++ ([(((List.getD x131 x133.toNat ((0 : Int), ((0 : Int), (zz2, ())))).2).2).1])) x121 x122 x123 x131 x132 (W .i64 (x133 + 1))) (none)) (k_l30 x1 x15 x17 x18 x121 x122 x123 x131 x132 (W .i64 (x133 + 1)))) (k_l30 x1 x15 x17 x18 x121 x122 x123 x131 x132 (W .i64 (x133 + 1)))) (none)) ((F183 N x18).bind fun r29 => (F79 N r29.1).bind fun r30 => cond (!r29.2) (some (ee3, (2 : Int))) (cond (!r30.2) (some (ee3, (2 : Int))) (cond (!eqB r30.1 0) (cond (small (List.length x15 + List.length ([(x17.1, (x17.2.1, (r30.1, ())))]))) (k_l26 x1 (x15 ++ ([(x17.1, (x17.2.1, (r30.1, ())))])) x121 x122 (W .i64 (x123 + 1))) (none)) (k_l26 x1 x15 x121 x122 (W .i64 (x123 + 1))))))
def F180.l30 (N : Nat) (k_l26 : F180.t_l26) : Nat → F180.t_l30
  | 0, _, _, _, _, _, _, _, _, _, _ => none
  | n + 1, x1, x15, x17, x18, x121, x122, x123, x131, x132, x133 => F180.l30b N k_l26 (F180.l30 N k_l26 n) x1 x15 x17 x18 x121 x122 x123 x131 x132 x133
def F180.l26b (N : Nat) (s_l30 : F180.t_l30) (k_l26 : F180.t_l26) (x1 : wtEntry) (x15 : wtI3) (x121 : wtI3) (x122 : Int) (x123 : Int) : Option (wtI3 × (Int)) :=
  cond (ltB x123 x122) (cond (inb x123 (List.length x121)) ((F25 N ((((List.getD x121 x123.toNat zz3).2).2).1)).bind fun r23 => s_l30 x1 x15 (List.getD x121 x123.toNat zz3) ([r23]) x121 x122 x123 x1 (List.length x1 : Int) (0 : Int)) (none)) ((F233 N x15).bind fun r34 => some (r34, (0 : Int)))
def F180.l26 (N : Nat) : Nat → F180.t_l26
  | 0, _, _, _, _, _ => none
  | n + 1, x1, x15, x121, x122, x123 => F180.l26b N (F180.l30 N (F180.l26 N n) N) (F180.l26 N n) x1 x15 x121 x122 x123
def F180.l16b (N : Nat) (s_l19 : F180.t_l19) (s_l26 : F180.t_l26) (k_l16 : F180.t_l16) (x1 : wtEntry) (x11 : wtI3) (x68 : wtEntry) (x69 : Int) (x70 : Int) : Option (wtI3 × (Int)) :=
  cond (ltB x70 x69) (cond (inb x70 (List.length x68)) (s_l19 x1 x11 (List.getD x68 x70.toNat ((0 : Int), ((0 : Int), (zz2, ())))) (0 : Int) x68 x69 x70) (none)) (cond (okMake 0 (List.length x11 : Int)) (s_l26 x1 (List.replicate (0 : Int).toNat zz3) x11 (List.length x11 : Int) (0 : Int)) (none))
def F180.l16 (N : Nat) : Nat → F180.t_l16
  | 0, _, _, _, _, _ => none
  | n + 1, x1, x11, x68, x69, x70 => F180.l16b N (F180.l19 N (F180.l16 N n) N) (F180.l26 N N) (F180.l16 N n) x1 x11 x68 x69 x70
def F180.l5b (N : Nat) (s_l16 : F180.t_l16) (k_l5 : F180.t_l5) (x0 : wtI3) (x1 : wtEntry) (x6 : wtWide) (x36 : wtEntry) (x37 : Int) (x38 : Int) : Option (wtI3 × (Int)) :=
  cond (ltB x38 x37) (cond (inb x38 (List.length x36)) ((F196 N ((List.getD x36 x38.toNat ((0 : Int), ((0 : Int), (zz2, ())))).1) (((List.getD x36 x38.toNat ((0 : Int), ((0 : Int), (zz2, ())))).2).1)).bind fun r4 => cond (!r4) (some (ee3, (1 : Int))) (cond (small (List.length x6 + List.length ([(((List.getD x36 x38.toNat ((0 : Int), ((0 : Int), (zz2, ())))).2).2).1]))) (k_l5 x0 x1 (x6 ++ ([(((List.getD x36 x38.toNat ((0 : Int), ((0 : Int), (zz2, ())))).2).2).1])) x36 x37 (W .i64 (x38 + 1))) (none))) (none)) ((F183 N x6).bind fun r7 => cond (!r7.2) (some (ee3, (1 : Int))) ((F81 N r7.1).bind fun r8 => cond (!eqB r8 0) (some (ee3, (1 : Int))) ((cloneL N x0).bind fun r9 => s_l16 x1 r9 x1 (List.length x1 : Int) (0 : Int))))
def F180.l5 (N : Nat) : Nat → F180.t_l5
  | 0, _, _, _, _, _, _ => none
  | n + 1, x0, x1, x6, x36, x37, x38 => F180.l5b N (F180.l16 N N) (F180.l5 N n) x0 x1 x6 x36 x37 x38
def F180.b (N : Nat) (s_l5 : F180.t_l5) (a0 : wtI3) (a1 : wtEntry) : Option (wtI3 × (Int)) :=
  (F111 N a0).bind fun r1 => cond (!r1) (some (ee3, (1 : Int))) (cond (ltB 400 (List.length a1 : Int)) (some (ee3, (1 : Int))) (cond (okMake 0 (List.length a1 : Int)) (s_l5 a0 a1 (List.replicate (0 : Int).toNat zz2) a1 (List.length a1 : Int) (0 : Int)) (none)))
def F180 (N : Nat) (a0 : wtI3) (a1 : wtEntry) : Option (wtI3 × (Int)) := F180.b N (F180.l5 N N) a0 a1

def F99 (N : Nat) (a0 : vtBook) (a1 : wtI3) (a2 : wtEntry) : Option (vtBook × (Int)) :=
  (F105 N a0).bind fun r1 => (F179 N a0.2.2.2.1 a1).bind fun r2 => cond (!eqB r2.2 0) (some ((ee2, (ee4, (ee3, (ee3, (eeI, (ee6, ())))))), r2.2)) ((F180 N a0.2.2.1 a2).bind fun r3 => cond (!eqB r3.2 0) (some ((ee2, (ee4, (ee3, (ee3, (eeI, (ee6, ())))))), r3.2)) (some ((r1.1, (r1.2.1, (r3.1, (r2.1, r1.2.2.2.2)))), (0 : Int))))

abbrev F31.t_l12 := vtBook → vtBook → wtI3 → wtEntry → wtI5 → Int → Int → Option (vtBook × (Int))
abbrev F31.t_l4 := wtI5 → vtConfig → vtBook → vtBook → wtI5 → Int → Int → Option (vtBook × (Int))
def F31.l12b (N : Nat) (k_l12 : F31.t_l12) (x4 : vtBook) (x6 : vtBook) (x10 : wtI3) (x11 : wtEntry) (x68 : wtI5) (x69 : Int) (x70 : Int) : Option (vtBook × (Int)) :=
  cond (ltB x70 x69) (cond (inb x70 (List.length x68)) (let v12 : Int := W .i64 (0 - (((((List.getD x68 x70.toNat zz5).2).2).2).1)); cond (small (List.length x10 + List.length ([((List.getD x68 x70.toNat zz5).1, ((((List.getD x68 x70.toNat zz5).2).2).1, (((((List.getD x68 x70.toNat zz5).2).2).2).1, ()))), (((List.getD x68 x70.toNat zz5).2).1, ((((List.getD x68 x70.toNat zz5).2).2).1, (v12, ())))]))) (cond (inb ((((List.getD x68 x70.toNat zz5).2).2).1) (List.length x4.2.2.2.2.1)) ((F98 N (List.getD x68 x70.toNat zz5) (List.getD x4.2.2.2.2.1 ((((List.getD x68 x70.toNat zz5).2).2).1).toNat (0 : Int))).bind fun r14 => cond (small (List.length x11 + List.length r14.1)) (k_l12 x4 x6 (x10 ++ ([((List.getD x68 x70.toNat zz5).1, ((((List.getD x68 x70.toNat zz5).2).2).1, (((((List.getD x68 x70.toNat zz5).2).2).2).1, ()))), (((List.getD x68 x70.toNat zz5).2).1, ((((List.getD x68 x70.toNat zz5).2).2).1, (v12, ())))])) (x11 ++ r14.1) x68 x69 (W .i64 (x70 + 1))) (none)) (none)) (none)) (none)) ((F99 N x4 x10 x11).bind fun r17 => some (r17.1, r17.2))
def F31.l12 (N : Nat) : Nat → F31.t_l12
  | 0, _, _, _, _, _, _, _ => none
  | n + 1, x4, x6, x10, x11, x68, x69, x70 => F31.l12b N (F31.l12 N n) x4 x6 x10 x11 x68 x69 x70
def F31.l4b (N : Nat) (s_l12 : F31.t_l12) (k_l4 : F31.t_l4) (x2 : wtI5) (x3 : vtConfig) (x4 : vtBook) (x6 : vtBook) (x30 : wtI5) (x31 : Int) (x32 : Int) : Option (vtBook × (Int)) :=
  cond (ltB x32 x31) (cond (inb x32 (List.length x30)) (cond (!eqB ((List.getD x30 x32.toNat zz5).1) (0 : Int)) ((F97 N x4 ((List.getD x30 x32.toNat zz5).1)).bind fun r4 => cond (!r4) (some ((ee2, (ee4, (ee3, (ee3, (eeI, (ee6, ())))))), (3 : Int))) (cond (!eqB (((List.getD x30 x32.toNat zz5).2).1) (0 : Int)) ((F97 N x4 (((List.getD x30 x32.toNat zz5).2).1)).bind fun r5 => cond (!r5) (some ((ee2, (ee4, (ee3, (ee3, (eeI, (ee6, ())))))), (3 : Int))) (cond (leB (List.length x3.1 : Int) ((((List.getD x30 x32.toNat zz5).2).2).1)) (some ((ee2, (ee4, (ee3, (ee3, (eeI, (ee6, ())))))), (3 : Int))) (k_l4 x2 x3 x4 x6 x30 x31 (W .i64 (x32 + 1))))) (cond (leB (List.length x3.1 : Int) ((((List.getD x30 x32.toNat zz5).2).2).1)) (some ((ee2, (ee4, (ee3, (ee3, (eeI, (ee6, ())))))), (3 : Int))) (k_l4 x2 x3 x4 x6 x30 x31 (W .i64 (x32 + 1)))))) (cond (!eqB (((List.getD x30 x32.toNat zz5).2).1) (0 : Int)) ((F97 N x4 (((List.getD x30 x32.toNat zz5).2).1)).bind fun r8 => cond (!r8) (some ((ee2, (ee4, (ee3, (ee3, (eeI, (ee6, ())))))), (3 : Int))) (cond (leB (List.length x3.1 : Int) ((((List.getD x30 x32.toNat zz5).2).2).1)) (some ((ee2, (ee4, (ee3, (ee3, (eeI, (ee6, ())))))), (3 : Int))) (k_l4 x2 x3 x4 x6 x30 x31 (W .i64 (x32 + 1))))) (cond (leB (List.length x3.1 : Int) ((((List.getD x30 x32.toNat zz5).2).2).1)) (some ((ee2, (ee4, (ee3, (ee3, (eeI, (ee6, ())))))), (3 : Int))) (k_l4 x2 x3 x4 x6 x30 x31 (W .i64 (x32 + 1)))))) (none)) (s_l12 x4 x6 ([]) ([]) x2 (List.length x2 : Int) (0 : Int))
def F31.l4 (N : Nat) : Nat → F31.t_l4
  | 0, _, _, _, _, _, _, _ => none
  | n + 1, x2, x3, x4, x6, x30, x31, x32 => F31.l4b N (F31.l12 N N) (F31.l4 N n) x2 x3 x4 x6 x30 x31 x32
def F31.b (N : Nat) (s_l4 : F31.t_l4) (a0 : vtConfig) (a1 : vtBook) (a2 : wtI5) : Option (vtBook × (Int)) :=
  (F39 N a0 a1).bind fun r1 => cond (!r1) (some ((ee2, (ee4, (ee3, (ee3, (eeI, (ee6, ())))))), (1 : Int))) (cond (ltB 200 (List.length a2 : Int)) (some ((ee2, (ee4, (ee3, (ee3, (eeI, (ee6, ())))))), (1 : Int))) ((F94 N a2 ()).bind fun r2 => cond (r2) (some ((ee2, (ee4, (ee3, (ee3, (eeI, (ee6, ())))))), (1 : Int))) (s_l4 a2 a0 a1 (ee2, (ee4, (ee3, (ee3, (eeI, (ee6, ())))))) a2 (List.length a2 : Int) (0 : Int))))
def F31 (N : Nat) (a0 : vtConfig) (a1 : vtBook) (a2 : wtI5) : Option (vtBook × (Int)) := F31.b N (F31.l4 N N) a0 a1 a2

abbrev F66.t_j12 := Int → vtConfig → vtBook → vtI4 → vtBook → vtI4 → vtI5 → Option (vtBook × vtI4 × (Int))
def F66.j12b (N : Nat) (x4 : Int) (x6 : vtConfig) (x7 : vtBook) (x8 : vtI4) (x12 : vtBook) (x13 : vtI4) (x17 : vtI5) : Option (vtBook × vtI4 × (Int)) :=
  (F31 N x6 x7 ([x17])).bind fun r8 => cond (!eqB r8.2 0) (some ((ee2, (ee4, (ee3, (ee3, (eeI, (ee6, ())))))), zz4, r8.2)) (some (r8.1, (x8.1, (x8.2.1, (x8.2.2.1, ((W .i64 (x8.2.2.2.1 - x4)), x8.2.2.2.2)))), (0 : Int)))
def F66.j12 (N : Nat) (x4 : Int) (x6 : vtConfig) (x7 : vtBook) (x8 : vtI4) (x12 : vtBook) (x13 : vtI4) (x17 : vtI5) : Option (vtBook × vtI4 × (Int)) := F66.j12b N x4 x6 x7 x8 x12 x13 x17
def F66.b (N : Nat) (s_j12 : F66.t_j12) (a0 : vtConfig) (a1 : vtBook) (a2 : vtI4) (a3 : Int) (a4 : Int) (a5 : Int) : Option (vtBook × vtI4 × (Int)) :=
  (F39 N a0 a1).bind fun r1 => cond (!r1) (some ((ee2, (ee4, (ee3, (ee3, (eeI, (ee6, ())))))), zz4, (1 : Int))) ((F67 N a2).bind fun r2 => cond (!r2) (some ((ee2, (ee4, (ee3, (ee3, (eeI, (ee6, ())))))), zz4, (1 : Int))) ((F156 N a4).bind fun r3 => cond (!r3) (some ((ee2, (ee4, (ee3, (ee3, (eeI, (ee6, ())))))), zz4, (1 : Int))) ((F100 N a5).bind fun r4 => cond (!r4) (some ((ee2, (ee4, (ee3, (ee3, (eeI, (ee6, ())))))), zz4, (1 : Int))) (cond (ltB a2.2.2.2.1 a4) (some ((ee2, (ee4, (ee3, (ee3, (eeI, (ee6, ())))))), zz4, (9 : Int))) ((F57 N a0 a1 (a2.1, (a3, (a2.2.1, ((W .i64 ((3 : Int) - a2.2.2.1)), (a4, (a5, ()))))))).bind fun r6 => cond (!eqB r6 0) (some ((ee2, (ee4, (ee3, (ee3, (eeI, (ee6, ())))))), zz4, r6)) (cond (eqB a2.2.2.1 1) (s_j12 a4 a0 a1 a2 (ee2, (ee4, (ee3, (ee3, (eeI, (ee6, ())))))) zz4 ((0 : Int), (a3, (a2.2.1, (a4, (a5, ())))))) (s_j12 a4 a0 a1 a2 (ee2, (ee4, (ee3, (ee3, (eeI, (ee6, ())))))) zz4 (a3, ((0 : Int), (a2.2.1, (a4, (a5, ()))))))))))))
def F66 (N : Nat) (a0 : vtConfig) (a1 : vtBook) (a2 : vtI4) (a3 : Int) (a4 : Int) (a5 : Int) : Option (vtBook × vtI4 × (Int)) := F66.b N (F66.j12 N) a0 a1 a2 a3 a4 a5

abbrev F108.t_l2 := wtI3 → Int → Option (Bool)
def F108.l2b (N : Nat) (k_l2 : F108.t_l2) (x0 : wtI3) (x3 : Int) : Option (Bool) :=
  cond (ltB x3 (List.length x0 : Int)) (cond (inb x3 (List.length x0)) (cond (ltB ((List.getD x0 x3.toNat zz3).1) (0 : Int)) (some false) (cond (ltB 24 ((List.getD x0 x3.toNat zz3).1)) (some false) (cond (ltB (((List.getD x0 x3.toNat zz3).2).1) (0 : Int)) (some false) (cond (leB 6 (((List.getD x0 x3.toNat zz3).2).1)) (some false) (cond (eqB ((((List.getD x0 x3.toNat zz3).2).2).1) (0 : Int)) (some false) (cond (eqB ((((List.getD x0 x3.toNat zz3).2).2).1) (-9223372036854775808 : Int)) (some false) (cond (ltB 0 x3) (let v2 : Int := W .i64 (x3 - 1); cond (inb v2 (List.length x0)) (cond (ltB ((List.getD x0 x3.toNat zz3).1) ((List.getD x0 v2.toNat zz3).1)) (some false) (let v3 : Int := W .i64 (x3 - 1); cond (inb v3 (List.length x0)) (cond (eqB ((List.getD x0 x3.toNat zz3).1) ((List.getD x0 v3.toNat zz3).1)) (let v4 : Int := W .i64 (x3 - 1); cond (inb v4 (List.length x0)) (cond (leB (((List.getD x0 x3.toNat zz3).2).1) (((List.getD x0 v4.toNat zz3).2).1)) (some false) (k_l2 x0 (W .i64 (x3 + 1)))) (none)) (k_l2 x0 (W .i64 (x3 + 1)))) (none))) (none)) (k_l2 x0 (W .i64 (x3 + 1)))))))))) (none)) (some true)
def F108.l2 (N : Nat) : Nat → F108.t_l2
  | 0, _, _ => none
  | n + 1, x0, x3 => F108.l2b N (F108.l2 N n) x0 x3
def F108.b (N : Nat) (s_l2 : F108.t_l2) (a0 : wtI3) : Option (Bool) :=
  s_l2 a0 (0 : Int)
def F108 (N : Nat) (a0 : wtI3) : Option (Bool) := F108.b N (F108.l2 N N) a0

abbrev F37.t_l4 := wtI3 → Int → Int → Int → Option (Int)
def F37.l4b (N : Nat) (k_l4 : F37.t_l4) (x0 : wtI3) (x1 : Int) (x2 : Int) (x7 : Int) : Option (Int) :=
  cond (ltB x7 (List.length x0 : Int)) (cond (inb x7 (List.length x0)) (cond (eqB ((List.getD x0 x7.toNat zz3).1) x1) (cond (inb x7 (List.length x0)) (cond (eqB (((List.getD x0 x7.toNat zz3).2).1) x2) (cond (inb x7 (List.length x0)) (some ((((List.getD x0 x7.toNat zz3).2).2).1)) (none)) (k_l4 x0 x1 x2 (W .i64 (x7 + 1)))) (none)) (k_l4 x0 x1 x2 (W .i64 (x7 + 1)))) (none)) (some (0 : Int))
def F37.l4 (N : Nat) : Nat → F37.t_l4
  | 0, _, _, _, _ => none
  | n + 1, x0, x1, x2, x7 => F37.l4b N (F37.l4 N n) x0 x1 x2 x7
def F37.b (N : Nat) (s_l4 : F37.t_l4) (a0 : wtI3) (a1 : Int) (a2 : Int) : Option (Int) :=
  (F108 N a0).bind fun r1 => cond (!r1) (some (0 : Int)) (s_l4 a0 a1 a2 (0 : Int))
def F37 (N : Nat) (a0 : wtI3) (a1 : Int) (a2 : Int) : Option (Int) := F37.b N (F37.l4 N N) a0 a1 a2

def F195 (N : Nat) (a0 : Int) (a1 : Int) : Option (Bool) :=
  cond (eqB a0 1) (some (eqB a1 0)) (cond (eqB a0 2) (some (eqB a1 0)) (cond (eqB a0 3) (some (eqB a1 0)) (cond (eqB a0 4) (some (eqB a1 0)) (cond (eqB a0 5) (cond (leB 1 a1) (some (leB a1 24)) (some false)) (cond (eqB a0 6) (cond (leB 1 a1) (some (leB a1 12)) (some false)) (cond (eqB a0 7) (cond (leB 1 a1) (some (leB a1 12)) (some false)) (some false)))))))

abbrev F109.t_l2 := wtI3 → Int → Option (Bool)
def F109.l2b (N : Nat) (k_l2 : F109.t_l2) (x0 : wtI3) (x3 : Int) : Option (Bool) :=
  cond (ltB x3 (List.length x0 : Int)) (cond (inb x3 (List.length x0)) (cond (inb x3 (List.length x0)) ((F195 N ((List.getD x0 x3.toNat zz3).1) (((List.getD x0 x3.toNat zz3).2).1)).bind fun r2 => cond (!r2) (some false) (cond (inb x3 (List.length x0)) (cond (eqB ((((List.getD x0 x3.toNat zz3).2).2).1) (0 : Int)) (some false) (cond (ltB 0 x3) (cond (inb x3 (List.length x0)) (let v3 : Int := W .i64 (x3 - 1); cond (inb v3 (List.length x0)) (cond (ltB ((List.getD x0 x3.toNat zz3).1) ((List.getD x0 v3.toNat zz3).1)) (some false) (cond (inb x3 (List.length x0)) (let v4 : Int := W .i64 (x3 - 1); cond (inb v4 (List.length x0)) (cond (eqB ((List.getD x0 x3.toNat zz3).1) ((List.getD x0 v4.toNat zz3).1)) (cond (inb x3 (List.length x0)) (let v5 : Int := W .i64 (x3 - 1); cond (inb v5 (List.length x0)) (cond (leB (((List.getD x0 x3.toNat zz3).2).1) (((List.getD x0 v5.toNat zz3).2).1)) (some false) (k_l2 x0 (W .i64 (x3 + 1)))) (none)) (none)) (k_l2 x0 (W .i64 (x3 + 1)))) (none)) (none))) (none)) (none)) (k_l2 x0 (W .i64 (x3 + 1))))) (none))) (none)) (none)) (some true)
def F109.l2 (N : Nat) : Nat → F109.t_l2
  | 0, _, _ => none
  | n + 1, x0, x3 => F109.l2b N (F109.l2 N n) x0 x3
def F109.b (N : Nat) (s_l2 : F109.t_l2) (a0 : wtI3) : Option (Bool) :=
  s_l2 a0 (0 : Int)
def F109 (N : Nat) (a0 : wtI3) : Option (Bool) := F109.b N (F109.l2 N N) a0

abbrev F38.t_l4 := wtI3 → Int → Int → Int → Option (Int)
def F38.l4b (N : Nat) (k_l4 : F38.t_l4) (x0 : wtI3) (x1 : Int) (x2 : Int) (x7 : Int) : Option (Int) :=
  cond (ltB x7 (List.length x0 : Int)) (cond (inb x7 (List.length x0)) (cond (eqB ((List.getD x0 x7.toNat zz3).1) x1) (cond (inb x7 (List.length x0)) (cond (eqB (((List.getD x0 x7.toNat zz3).2).1) x2) (cond (inb x7 (List.length x0)) (some ((((List.getD x0 x7.toNat zz3).2).2).1)) (none)) (k_l4 x0 x1 x2 (W .i64 (x7 + 1)))) (none)) (k_l4 x0 x1 x2 (W .i64 (x7 + 1)))) (none)) (some (0 : Int))
def F38.l4 (N : Nat) : Nat → F38.t_l4
  | 0, _, _, _, _ => none
  | n + 1, x0, x1, x2, x7 => F38.l4b N (F38.l4 N n) x0 x1 x2 x7
def F38.b (N : Nat) (s_l4 : F38.t_l4) (a0 : wtI3) (a1 : Int) (a2 : Int) : Option (Int) :=
  (F109 N a0).bind fun r1 => cond (!r1) (some (0 : Int)) (s_l4 a0 a1 a2 (0 : Int))
def F38 (N : Nat) (a0 : wtI3) (a1 : Int) (a2 : Int) : Option (Int) := F38.b N (F38.l4 N N) a0 a1 a2

def F17 (N : Nat) : Option (Bool) :=
  (F63 N ).bind fun r1 => (F64 N r1.1 r1.2).bind fun r2 => (F65 N r1.1 r1.2 (4 : Int)).bind fun r3 => cond (!eqB r2.2 0) (some false) (cond (!eqB r3.2 0) (some false) (cond (!eqB (List.length r2.1 : Int) 4) (some false) (cond (!eqB (List.length r3.1 : Int) 1) (some false) (cond (inb 0 (List.length r3.1)) ((F66 N r1.1 r1.2 (List.getD r3.1 (0 : Int).toNat zz4) (1 : Int) (2 : Int) (99 : Int)).bind fun r4 => cond (inb 0 (List.length r3.1)) ((F66 N r1.1 r1.2 (List.getD r3.1 (0 : Int).toNat zz4) (1 : Int) (7 : Int) (99 : Int)).bind fun r5 => cond (inb 0 (List.length r2.1)) (cond (eqB (((List.getD r2.1 (0 : Int).toNat zz2).2).1) (640 : Int)) (cond (inb 0 (List.length r3.1)) (cond (teq (.pair (.int .i64) (.pair (.int .i64) (.pair (.int .i64) (.pair (.int .i64) .unit)))) (List.getD r3.1 (0 : Int).toNat zz4) ((4 : Int), ((0 : Int), ((2 : Int), ((6 : Int), ()))))) (cond (eqB r4.2.2 0) (cond (eqB r4.2.1.2.2.2.1 4) ((F37 N r4.1.2.2.2.1 (0 : Int) (0 : Int)).bind fun r6 => cond (eqB r6 3) ((F38 N r4.1.2.2.1 (2 : Int) (0 : Int)).bind fun r7 => cond (eqB r7 (-2)) (cond (eqB r5.2.2 9) (cond (inb 0 (List.length r3.1)) ((F67 N (List.getD r3.1 (0 : Int).toNat zz4)).bind fun r8 => some r8) (none)) (some false)) (some false)) (some false)) (some false)) (some false)) (some false)) (none)) (some false)) (none)) (none)) (none)))))

def F118 (N : Nat) (a0 : Int) (a1 : Int) (a2 : Int) : Option (Bool) :=
  cond (leB a1 a0) (some (leB a0 a2)) (some false)

abbrev F41.t_l4 := vtConfig → Int → Option (Bool)
def F41.l4b (N : Nat) (k_l4 : F41.t_l4) (x1 : vtConfig) (x3 : Int) : Option (Bool) :=
  cond (ltB x3 (List.length x1.1 : Int)) (cond (inb x3 (List.length x1.1)) ((F118 N ((List.getD x1.1 x3.toNat zz4).1) (0 : Int) (3 : Int)).bind fun r2 => cond (!r2) (some false) ((F118 N (((List.getD x1.1 x3.toNat zz4).2).1) (1 : Int) (1000000000000 : Int)).bind fun r3 => cond (!r3) (some false) ((F118 N ((((List.getD x1.1 x3.toNat zz4).2).2).1) (0 : Int) (1000000000 : Int)).bind fun r4 => cond (!r4) (some false) ((F118 N (((((List.getD x1.1 x3.toNat zz4).2).2).2).1) (0 : Int) (1000000000 : Int)).bind fun r5 => cond (!r5) (some false) (k_l4 x1 (W .i64 (x3 + 1))))))) (none)) (cond (leB 0 x1.2.1) ((F118 N x1.2.2.1 (0 : Int) (4 : Int)).bind fun r7 => cond (r7) ((F118 N x1.2.2.2.1 (0 : Int) (1000000 : Int)).bind fun r8 => cond (r8) ((F118 N x1.2.2.2.2.1 (0 : Int) (1000000 : Int)).bind fun r9 => cond (r9) ((F118 N x1.2.2.2.2.2.1 (1 : Int) (4611686018427387904 : Int)).bind fun r10 => cond (r10) (some (leB 0 x1.2.2.2.2.2.2.1)) (some false)) (some false)) (some false)) (some false)) (some false))
def F41.l4 (N : Nat) : Nat → F41.t_l4
  | 0, _, _ => none
  | n + 1, x1, x3 => F41.l4b N (F41.l4 N n) x1 x3
def F41.b (N : Nat) (s_l4 : F41.t_l4) (a0 : vtConfig) : Option (Bool) :=
  cond (ltB (List.length a0.1 : Int) 1) (some false) (cond (ltB 6 (List.length a0.1 : Int)) (some false) (s_l4 a0 (0 : Int)))
def F41 (N : Nat) (a0 : vtConfig) : Option (Bool) := F41.b N (F41.l4 N N) a0

abbrev F206.t_l2 := wtI2 → Int → Option (Bool)
def F206.l2b (N : Nat) (k_l2 : F206.t_l2) (x0 : wtI2) (x3 : Int) : Option (Bool) :=
  cond (ltB x3 (List.length x0 : Int)) (cond (inb x3 (List.length x0)) (cond (ltB ((List.getD x0 x3.toNat zz2).1) (1 : Int)) (some false) (cond (inb x3 (List.length x0)) (cond (ltB 12 ((List.getD x0 x3.toNat zz2).1)) (some false) (cond (inb x3 (List.length x0)) (cond (ltB (((List.getD x0 x3.toNat zz2).2).1) (1 : Int)) (some false) (cond (inb x3 (List.length x0)) (cond (ltB 4 (((List.getD x0 x3.toNat zz2).2).1)) (some false) (cond (ltB 0 x3) (cond (inb x3 (List.length x0)) (let v2 : Int := W .i64 (x3 - 1); cond (inb v2 (List.length x0)) (cond (leB ((List.getD x0 x3.toNat zz2).1) ((List.getD x0 v2.toNat zz2).1)) (some false) (k_l2 x0 (W .i64 (x3 + 1)))) (none)) (none)) (k_l2 x0 (W .i64 (x3 + 1))))) (none))) (none))) (none))) (none)) (some true)
def F206.l2 (N : Nat) : Nat → F206.t_l2
  | 0, _, _ => none
  | n + 1, x0, x3 => F206.l2b N (F206.l2 N n) x0 x3
def F206.b (N : Nat) (s_l2 : F206.t_l2) (a0 : wtI2) : Option (Bool) :=
  s_l2 a0 (0 : Int)
def F206 (N : Nat) (a0 : wtI2) : Option (Bool) := F206.b N (F206.l2 N N) a0

abbrev F203.t_l8 := wtI4 → Int → vtI4 → Int → Option (Bool)
abbrev F203.t_j7 := wtI4 → Int → vtI4 → Option (Bool)
abbrev F203.t_l2 := wtI4 → Int → Option (Bool)
def F203.l8b (N : Nat) (k_l2 : F203.t_l2) (k_l8 : F203.t_l8) (x0 : wtI4) (x3 : Int) (x4 : vtI4) (x5 : Int) : Option (Bool) :=
  cond (ltB x5 x3) (cond (eqB x4.2.2.1 1) (cond (inb x5 (List.length x0)) (cond (eqB ((((List.getD x0 x5.toNat zz4).2).2).1) (1 : Int)) (cond (inb x5 (List.length x0)) (cond (eqB (((List.getD x0 x5.toNat zz4).2).1) x4.2.1) (some false) (k_l8 x0 x3 x4 (W .i64 (x5 + 1)))) (none)) (k_l8 x0 x3 x4 (W .i64 (x5 + 1)))) (none)) (k_l8 x0 x3 x4 (W .i64 (x5 + 1)))) (k_l2 x0 (W .i64 (x3 + 1)))
def F203.l8 (N : Nat) (k_l2 : F203.t_l2) : Nat → F203.t_l8
  | 0, _, _, _, _ => none
  | n + 1, x0, x3, x4, x5 => F203.l8b N k_l2 (F203.l8 N k_l2 n) x0 x3 x4 x5
def F203.j7b (N : Nat) (s_l8 : F203.t_l8) (k_l2 : F203.t_l2) (x0 : wtI4) (x3 : Int) (x4 : vtI4) : Option (Bool) :=
  s_l8 x0 x3 x4 (0 : Int)
def F203.j7 (N : Nat) (k_l2 : F203.t_l2) (x0 : wtI4) (x3 : Int) (x4 : vtI4) : Option (Bool) := F203.j7b N (F203.l8 N k_l2 N) k_l2 x0 x3 x4
def F203.l2b (N : Nat) (s_j7 : F203.t_j7) (k_l2 : F203.t_l2) (x0 : wtI4) (x3 : Int) : Option (Bool) :=
  cond (ltB x3 (List.length x0 : Int)) (cond (inb x3 (List.length x0)) (cond (ltB ((List.getD x0 x3.toNat zz4).1) (1 : Int)) (some false) (cond (ltB 24 ((List.getD x0 x3.toNat zz4).1)) (some false) (cond (ltB (((List.getD x0 x3.toNat zz4).2).1) (1 : Int)) (some false) (cond (ltB 12 (((List.getD x0 x3.toNat zz4).2).1)) (some false) (cond (!eqB ((((List.getD x0 x3.toNat zz4).2).2).1) (1 : Int)) (cond (!eqB ((((List.getD x0 x3.toNat zz4).2).2).1) (2 : Int)) (some false) (cond (ltB (((((List.getD x0 x3.toNat zz4).2).2).2).1) (0 : Int)) (some false) (cond (ltB 1000000000000 (((((List.getD x0 x3.toNat zz4).2).2).2).1)) (some false) (cond (ltB 0 x3) (let v2 : Int := W .i64 (x3 - 1); cond (inb v2 (List.length x0)) (cond (leB ((List.getD x0 x3.toNat zz4).1) ((List.getD x0 v2.toNat zz4).1)) (some false) (s_j7 x0 x3 (List.getD x0 x3.toNat zz4))) (none)) (s_j7 x0 x3 (List.getD x0 x3.toNat zz4)))))) (cond (ltB (((((List.getD x0 x3.toNat zz4).2).2).2).1) (0 : Int)) (some false) (cond (ltB 1000000000000 (((((List.getD x0 x3.toNat zz4).2).2).2).1)) (some false) (cond (ltB 0 x3) (let v9 : Int := W .i64 (x3 - 1); cond (inb v9 (List.length x0)) (cond (leB ((List.getD x0 x3.toNat zz4).1) ((List.getD x0 v9.toNat zz4).1)) (some false) (s_j7 x0 x3 (List.getD x0 x3.toNat zz4))) (none)) (s_j7 x0 x3 (List.getD x0 x3.toNat zz4)))))))))) (none)) (some true)
def F203.l2 (N : Nat) : Nat → F203.t_l2
  | 0, _, _ => none
  | n + 1, x0, x3 => F203.l2b N (F203.j7 N (F203.l2 N n)) (F203.l2 N n) x0 x3
def F203.b (N : Nat) (s_l2 : F203.t_l2) (a0 : wtI4) : Option (Bool) :=
  s_l2 a0 (0 : Int)
def F203 (N : Nat) (a0 : wtI4) : Option (Bool) := F203.b N (F203.l2 N N) a0

abbrev F207.t_l2 := wtI2 → Int → Int → Option (Int)
def F207.l2b (N : Nat) (k_l2 : F207.t_l2) (x0 : wtI2) (x1 : Int) (x5 : Int) : Option (Int) :=
  cond (ltB x5 (List.length x0 : Int)) (cond (inb x5 (List.length x0)) (cond (eqB ((List.getD x0 x5.toNat zz2).1) x1) (cond (inb x5 (List.length x0)) (some (((List.getD x0 x5.toNat zz2).2).1)) (none)) (k_l2 x0 x1 (W .i64 (x5 + 1)))) (none)) (some (0 : Int))
def F207.l2 (N : Nat) : Nat → F207.t_l2
  | 0, _, _, _ => none
  | n + 1, x0, x1, x5 => F207.l2b N (F207.l2 N n) x0 x1 x5
def F207.b (N : Nat) (s_l2 : F207.t_l2) (a0 : wtI2) (a1 : Int) : Option (Int) :=
  s_l2 a0 a1 (0 : Int)
def F207 (N : Nat) (a0 : wtI2) (a1 : Int) : Option (Int) := F207.b N (F207.l2 N N) a0 a1

abbrev F132.t_l4 := wtI2 → wtI4 → Int → Option (Bool)
def F132.l4b (N : Nat) (k_l4 : F132.t_l4) (x0 : wtI2) (x1 : wtI4) (x5 : Int) : Option (Bool) :=
  cond (ltB x5 (List.length x1 : Int)) (cond (inb x5 (List.length x1)) ((F207 N x0 (((List.getD x1 x5.toNat zz4).2).1)).bind fun r4 => cond (eqB r4 0) (some false) (k_l4 x0 x1 (W .i64 (x5 + 1)))) (none)) (some true)
def F132.l4 (N : Nat) : Nat → F132.t_l4
  | 0, _, _, _ => none
  | n + 1, x0, x1, x5 => F132.l4b N (F132.l4 N n) x0 x1 x5
def F132.b (N : Nat) (s_l4 : F132.t_l4) (a0 : wtI2) (a1 : wtI4) : Option (Bool) :=
  (F206 N a0).bind fun r1 => cond (!r1) (some false) ((F203 N a1).bind fun r2 => cond (!r2) (some false) (s_l4 a0 a1 (0 : Int)))
def F132 (N : Nat) (a0 : wtI2) (a1 : wtI4) : Option (Bool) := F132.b N (F132.l4 N N) a0 a1

abbrev F225.t_l2 := (List (Int)) → Int → Option (List (Int))
def F225.l2b (N : Nat) (k_l2 : F225.t_l2) (x0 : List (Int)) (x3 : Int) : Option (List (Int)) :=
  cond (ltB 0 x3) (let v2 : Int := W .i64 (x3 - 1); cond (inb v2 (List.length x0)) (cond (eqB (List.getD x0 v2.toNat (0 : Int)) (0 : Int)) (k_l2 x0 (W .i64 (x3 - 1))) (cond (okCut 0 x3 x3 (List.length x0 : Int)) (some (List.drop (0 : Int).toNat (List.take x3.toNat x0))) (none))) (none)) (cond (okCut 0 x3 x3 (List.length x0 : Int)) (some (List.drop (0 : Int).toNat (List.take x3.toNat x0))) (none))
def F225.l2 (N : Nat) : Nat → F225.t_l2
  | 0, _, _ => none
  | n + 1, x0, x3 => F225.l2b N (F225.l2 N n) x0 x3
def F225.b (N : Nat) (s_l2 : F225.t_l2) (a0 : List (Int)) : Option (List (Int)) :=
  s_l2 a0 (List.length a0 : Int)
def F225 (N : Nat) (a0 : List (Int)) : Option (List (Int)) := F225.b N (F225.l2 N N) a0

def F173 (N : Nat) (a0 : Int) : Option (List (Int)) :=
  cond (ltB 32 0) (none) ((F225 N ([(bitw .and .u64 a0 4294967295), (shr .u64 a0 32)])).bind fun r3 => some r3)

def F169 (N : Nat) (a0 : Bool) (a1 : List (Int)) : Option vtBig :=
  (F225 N a1).bind fun r1 => cond (a0) (some (ltB 0 (List.length r1 : Int), (r1, ()))) (some (false, (r1, ())))

def F87 (N : Nat) (a0 : Int) : Option vtBig :=
  let v1 : Int := W .u64 a0; cond (ltB a0 0) ((F173 N (W .u64 (0 - v1))).bind fun r3 => (F169 N (ltB a0 0) r3).bind fun r4 => some r4) ((F173 N v1).bind fun r5 => (F169 N (ltB a0 0) r5).bind fun r6 => some r6)

def F176 (N : Nat) (a0 : List (Int)) (a1 : Int) : Option (Int) :=
  cond (ltB a1 (List.length a0 : Int)) (cond (inb a1 (List.length a0)) (some (List.getD a0 a1.toNat (0 : Int))) (none)) (some (0 : Int))

abbrev F170.t_j6 := (List (Int)) → (List (Int)) → (List (Int)) → Int → Int → Option (List (Int))
abbrev F170.t_l4 := (List (Int)) → (List (Int)) → (List (Int)) → Int → Int → Option (List (Int))
def F170.j6b (N : Nat) (k_l4 : F170.t_l4) (x0 : List (Int)) (x1 : List (Int)) (x5 : List (Int)) (x6 : Int) (x7 : Int) : Option (List (Int)) :=
  (F176 N x0 x7).bind fun r3 => (F176 N x1 x7).bind fun r4 => let v6 : Int := W .u64 (x6 + (W .u64 (r3 + r4))); let v7 : Int := bitw .and .u64 v6 4294967295; cond (small (List.length x5 + List.length ([v7]))) (cond (ltB 32 0) (none) (k_l4 x0 x1 (x5 ++ ([v7])) (shr .u64 v6 32) (W .i64 (x7 + 1)))) (none)
def F170.j6 (N : Nat) (k_l4 : F170.t_l4) (x0 : List (Int)) (x1 : List (Int)) (x5 : List (Int)) (x6 : Int) (x7 : Int) : Option (List (Int)) := F170.j6b N k_l4 x0 x1 x5 x6 x7
def F170.l4b (N : Nat) (s_j6 : F170.t_j6) (k_l4 : F170.t_l4) (x0 : List (Int)) (x1 : List (Int)) (x5 : List (Int)) (x6 : Int) (x7 : Int) : Option (List (Int)) :=
  cond (ltB x7 (List.length x0 : Int)) (s_j6 x0 x1 x5 x6 x7) (cond (ltB x7 (List.length x1 : Int)) (s_j6 x0 x1 x5 x6 x7) (cond (ltB 0 x6) (s_j6 x0 x1 x5 x6 x7) (some x5)))
def F170.l4 (N : Nat) : Nat → F170.t_l4
  | 0, _, _, _, _, _ => none
  | n + 1, x0, x1, x5, x6, x7 => F170.l4b N (F170.j6 N (F170.l4 N n)) (F170.l4 N n) x0 x1 x5 x6 x7
def F170.b (N : Nat) (s_l4 : F170.t_l4) (a0 : List (Int)) (a1 : List (Int)) : Option (List (Int)) :=
  s_l4 a0 a1 ([]) (0 : Int) (0 : Int)
def F170 (N : Nat) (a0 : List (Int)) (a1 : List (Int)) : Option (List (Int)) := F170.b N (F170.l4 N N) a0 a1

abbrev F171.t_l6 := (List (Int)) → (List (Int)) → Int → Option (Int)
def F171.l6b (N : Nat) (k_l6 : F171.t_l6) (x0 : List (Int)) (x1 : List (Int)) (x5 : Int) : Option (Int) :=
  cond (leB 0 x5) (cond (inb x5 (List.length x0)) (cond (inb x5 (List.length x1)) (cond (ltB (List.getD x0 x5.toNat (0 : Int)) (List.getD x1 x5.toNat (0 : Int))) (some (-1 : Int)) (cond (inb x5 (List.length x0)) (cond (inb x5 (List.length x1)) (cond (ltB (List.getD x1 x5.toNat (0 : Int)) (List.getD x0 x5.toNat (0 : Int))) (some (1 : Int)) (k_l6 x0 x1 (W .i64 (x5 - 1)))) (none)) (none))) (none)) (none)) (some (0 : Int))
def F171.l6 (N : Nat) : Nat → F171.t_l6
  | 0, _, _, _ => none
  | n + 1, x0, x1, x5 => F171.l6b N (F171.l6 N n) x0 x1 x5
def F171.b (N : Nat) (s_l6 : F171.t_l6) (a0 : List (Int)) (a1 : List (Int)) : Option (Int) :=
  cond (!eqB (List.length a0 : Int) (List.length a1 : Int)) (cond (ltB (List.length a0 : Int) (List.length a1 : Int)) (some (-1 : Int)) (some (1 : Int))) (s_l6 a0 a1 (W .i64 ((List.length a0 : Int) - 1)))
def F171 (N : Nat) (a0 : List (Int)) (a1 : List (Int)) : Option (Int) := F171.b N (F171.l6 N N) a0 a1

abbrev F172.t_l4 := (List (Int)) → (List (Int)) → (List (Int)) → Int → Int → Option (List (Int))
def F172.l4b (N : Nat) (k_l4 : F172.t_l4) (x0 : List (Int)) (x1 : List (Int)) (x5 : List (Int)) (x6 : Int) (x7 : Int) : Option (List (Int)) :=
  cond (ltB x7 (List.length x0 : Int)) (cond (inb x7 (List.length x0)) ((F176 N x1 x7).bind fun r2 => let v3 : Int := W .u64 (r2 + x6); cond (ltB (List.getD x0 x7.toNat (0 : Int)) v3) (let v5 : Int := W .u64 ((W .u64 ((List.getD x0 x7.toNat (0 : Int)) + 4294967296)) - v3); cond (small (List.length x5 + List.length ([v5]))) (k_l4 x0 x1 (x5 ++ ([v5])) (1 : Int) (W .i64 (x7 + 1))) (none)) (let v8 : Int := W .u64 ((List.getD x0 x7.toNat (0 : Int)) - v3); cond (small (List.length x5 + List.length ([v8]))) (k_l4 x0 x1 (x5 ++ ([v8])) (0 : Int) (W .i64 (x7 + 1))) (none))) (none)) (some x5)
def F172.l4 (N : Nat) : Nat → F172.t_l4
  | 0, _, _, _, _, _ => none
  | n + 1, x0, x1, x5, x6, x7 => F172.l4b N (F172.l4 N n) x0 x1 x5 x6 x7
def F172.b (N : Nat) (s_l4 : F172.t_l4) (a0 : List (Int)) (a1 : List (Int)) : Option (List (Int)) :=
  s_l4 a0 a1 ([]) (0 : Int) (0 : Int)
def F172 (N : Nat) (a0 : List (Int)) (a1 : List (Int)) : Option (List (Int)) := F172.b N (F172.l4 N N) a0 a1

def F85 (N : Nat) (a0 : vtBig) (a1 : vtBig) : Option vtBig :=
  cond (teq .bool a0.1 a1.1) ((F170 N a0.2.1 a1.2.1).bind fun r1 => (F169 N a0.1 r1).bind fun r2 => some r2) ((F171 N a0.2.1 a1.2.1).bind fun r3 => cond (leB 0 r3) ((F172 N a0.2.1 a1.2.1).bind fun r4 => (F169 N a0.1 r4).bind fun r5 => some r5) ((F172 N a1.2.1 a0.2.1).bind fun r6 => (F169 N a1.1 r6).bind fun r7 => some r7))

abbrev F208.t_l5 := wtI3 → Int → vtBig → vtBig → Int → Option vtBig
def F208.l5b (N : Nat) (k_l5 : F208.t_l5) (x0 : wtI3) (x1 : Int) (x4 : vtBig) (x5 : vtBig) (x6 : Int) : Option vtBig :=
  cond (ltB x6 (List.length x0 : Int)) (cond (inb x6 (List.length x0)) (cond (eqB (((List.getD x0 x6.toNat zz3).2).1) x1) (cond (inb x6 (List.length x0)) ((F87 N ((((List.getD x0 x6.toNat zz3).2).2).1)).bind fun r3 => (F85 N x5 r3).bind fun r4 => k_l5 x0 x1 x4 r4 (W .i64 (x6 + 1))) (none)) (k_l5 x0 x1 x4 x5 (W .i64 (x6 + 1)))) (none)) (some x5)
def F208.l5 (N : Nat) : Nat → F208.t_l5
  | 0, _, _, _, _, _ => none
  | n + 1, x0, x1, x4, x5, x6 => F208.l5b N (F208.l5 N n) x0 x1 x4 x5 x6
def F208.b (N : Nat) (s_l5 : F208.t_l5) (a0 : wtI3) (a1 : Int) : Option vtBig :=
  (F108 N a0).bind fun r1 => cond (!r1) (some (false, zzB)) (s_l5 a0 a1 (false, zzB) (false, zzB) (0 : Int))
def F208 (N : Nat) (a0 : wtI3) (a1 : Int) : Option vtBig := F208.b N (F208.l5 N N) a0 a1

def F135 (N : Nat) (a0 : vtBig) : Option (Int) :=
  cond (eqB (List.length a0.2.1 : Int) 0) (some (0 : Int)) (cond (a0.1) (some (-1 : Int)) (some (1 : Int)))

abbrev F133.t_l2 := wtI3 → Int → Option (Bool)
def F133.l2b (N : Nat) (k_l2 : F133.t_l2) (x0 : wtI3) (x3 : Int) : Option (Bool) :=
  cond (ltB x3 6) ((F208 N x0 x3).bind fun r2 => (F135 N r2).bind fun r3 => cond (!eqB r3 0) (some false) (k_l2 x0 (W .i64 (x3 + 1)))) ((F108 N x0).bind fun r5 => some r5)
def F133.l2 (N : Nat) : Nat → F133.t_l2
  | 0, _, _ => none
  | n + 1, x0, x3 => F133.l2b N (F133.l2 N n) x0 x3
def F133.b (N : Nat) (s_l2 : F133.t_l2) (a0 : wtI3) : Option (Bool) :=
  s_l2 a0 (0 : Int)
def F133 (N : Nat) (a0 : wtI3) : Option (Bool) := F133.b N (F133.l2 N N) a0

def F123 (N : Nat) (a0 : Int) : Option (Bool) :=
  cond (leB 1 a0) (some (leB a0 1000000000000)) (some false)

def F149 (N : Nat) (a0 : vtI6) : Option (Bool) :=
  cond (leB 1 a0.1) (cond (leB a0.1 1099511627776) (cond (leB 1 a0.2.1) (cond (leB a0.2.1 24) (cond (leB 0 a0.2.2.1) (cond (ltB a0.2.2.1 6) (cond (eqB a0.2.2.2.1 1) (cond (leB 1 a0.2.2.2.2.1) (cond (leB a0.2.2.2.2.1 1000000000) ((F123 N a0.2.2.2.2.2.1).bind fun r1 => some r1) (some false)) (some false)) (cond (eqB a0.2.2.2.1 2) (cond (leB 1 a0.2.2.2.2.1) (cond (leB a0.2.2.2.2.1 1000000000) ((F123 N a0.2.2.2.2.2.1).bind fun r2 => some r2) (some false)) (some false)) (some false))) (some false)) (some false)) (some false)) (some false)) (some false)) (some false)

abbrev F134.t_l4 := wtI6 → Int → Option (Bool)
def F134.l4b (N : Nat) (k_l4 : F134.t_l4) (x0 : wtI6) (x3 : Int) : Option (Bool) :=
  cond (ltB x3 (List.length x0 : Int)) (cond (inb x3 (List.length x0)) ((F149 N (List.getD x0 x3.toNat zz6)).bind fun r2 => cond (!r2) (some false) (cond (ltB 0 x3) (cond (inb x3 (List.length x0)) (let v3 : Int := W .i64 (x3 - 1); cond (inb v3 (List.length x0)) (cond (leB ((List.getD x0 x3.toNat zz6).1) ((List.getD x0 v3.toNat zz6).1)) (some false) (k_l4 x0 (W .i64 (x3 + 1)))) (none)) (none)) (k_l4 x0 (W .i64 (x3 + 1))))) (none)) (some true)
def F134.l4 (N : Nat) : Nat → F134.t_l4
  | 0, _, _ => none
  | n + 1, x0, x3 => F134.l4b N (F134.l4 N n) x0 x3
def F134.b (N : Nat) (s_l4 : F134.t_l4) (a0 : wtI6) : Option (Bool) :=
  cond (ltB 32 (List.length a0 : Int)) (some false) (s_l4 a0 (0 : Int))
def F134 (N : Nat) (a0 : wtI6) : Option (Bool) := F134.b N (F134.l4 N N) a0

abbrev F136.t_l5 := wtI3 → vtBig → vtBig → Int → Option vtBig
def F136.l5b (N : Nat) (k_l5 : F136.t_l5) (x0 : wtI3) (x2 : vtBig) (x3 : vtBig) (x4 : Int) : Option vtBig :=
  cond (ltB x4 (List.length x0 : Int)) (cond (inb x4 (List.length x0)) ((F87 N ((((List.getD x0 x4.toNat zz3).2).2).1)).bind fun r3 => (F85 N x3 r3).bind fun r4 => k_l5 x0 x2 r4 (W .i64 (x4 + 1))) (none)) (some x3)
def F136.l5 (N : Nat) : Nat → F136.t_l5
  | 0, _, _, _, _ => none
  | n + 1, x0, x2, x3, x4 => F136.l5b N (F136.l5 N n) x0 x2 x3 x4
def F136.b (N : Nat) (s_l5 : F136.t_l5) (a0 : wtI3) : Option vtBig :=
  (F109 N a0).bind fun r1 => cond (!r1) (some (false, zzB)) (s_l5 a0 (false, zzB) (false, zzB) (0 : Int))
def F136 (N : Nat) (a0 : wtI3) : Option vtBig := F136.b N (F136.l5 N N) a0

abbrev F204.t_l2 := wtI4 → Int → vtI4 → Int → Option (vtI4 × (Bool))
def F204.l2b (N : Nat) (k_l2 : F204.t_l2) (x0 : wtI4) (x1 : Int) (x4 : vtI4) (x6 : Int) : Option (vtI4 × (Bool)) :=
  cond (ltB x6 (List.length x0 : Int)) (cond (inb x6 (List.length x0)) (cond (eqB ((List.getD x0 x6.toNat zz4).1) x1) (cond (inb x6 (List.length x0)) (some (List.getD x0 x6.toNat zz4, true)) (none)) (k_l2 x0 x1 x4 (W .i64 (x6 + 1)))) (none)) (some (zz4, false))
def F204.l2 (N : Nat) : Nat → F204.t_l2
  | 0, _, _, _, _ => none
  | n + 1, x0, x1, x4, x6 => F204.l2b N (F204.l2 N n) x0 x1 x4 x6
def F204.b (N : Nat) (s_l2 : F204.t_l2) (a0 : wtI4) (a1 : Int) : Option (vtI4 × (Bool)) :=
  s_l2 a0 a1 zz4 (0 : Int)
def F204 (N : Nat) (a0 : wtI4) (a1 : Int) : Option (vtI4 × (Bool)) := F204.b N (F204.l2 N N) a0 a1

def F125 (N : Nat) (a0 : wtI4) (a1 : Int) : Option (vtI4 × (Bool)) :=
  (F203 N a0).bind fun r1 => cond (!r1) (some (zz4, false)) ((F204 N a0 a1).bind fun r2 => some (r2.1, r2.2))

def F120 (N : Nat) (a0 : vtBook) (a1 : Int) : Option (Bool) :=
  (F125 N a0.2.1 a1).bind fun r1 => cond (r1.2) (some true) (some (eqB a1 0))

def F127 (N : Nat) (a0 : wtI2) (a1 : Int) : Option (Int) :=
  (F206 N a0).bind fun r1 => cond (!r1) (some (0 : Int)) ((F207 N a0 a1).bind fun r2 => some r2)

abbrev F52.t_l22 := vtConfig → vtBook → Int → Option (Bool)
abbrev F52.t_l17 := vtConfig → vtBook → Int → Option (Bool)
abbrev F52.t_l12 := vtConfig → vtBook → Int → Option (Bool)
abbrev F52.t_l6 := vtConfig → vtBook → Int → Option (Bool)
def F52.l22b (N : Nat) (k_l22 : F52.t_l22) (x2 : vtConfig) (x3 : vtBook) (x9 : Int) : Option (Bool) :=
  cond (ltB x9 (List.length x3.2.2.2.2.2.1 : Int)) (cond (inb x9 (List.length x3.2.2.2.2.2.1)) ((F120 N x3 (((List.getD x3.2.2.2.2.2.1 x9.toNat zz6).2).1)).bind fun r27 => cond (!r27) (some false) (cond (inb x9 (List.length x3.2.2.2.2.2.1)) (cond (leB (List.length x2.1 : Int) ((((List.getD x3.2.2.2.2.2.1 x9.toNat zz6).2).2).1)) (some false) (k_l22 x2 x3 (W .i64 (x9 + 1)))) (none))) (none)) (some true)
def F52.l22 (N : Nat) : Nat → F52.t_l22
  | 0, _, _, _ => none
  | n + 1, x2, x3, x9 => F52.l22b N (F52.l22 N n) x2 x3 x9
def F52.l17b (N : Nat) (s_l22 : F52.t_l22) (k_l17 : F52.t_l17) (x2 : vtConfig) (x3 : vtBook) (x8 : Int) : Option (Bool) :=
  cond (ltB x8 (List.length x3.2.2.2.2.1 : Int)) (cond (inb x8 (List.length x3.2.2.2.2.1)) ((F123 N (List.getD x3.2.2.2.2.1 x8.toNat (0 : Int))).bind fun r24 => cond (!r24) (some false) (k_l17 x2 x3 (W .i64 (x8 + 1)))) (none)) (s_l22 x2 x3 (0 : Int))
def F52.l17 (N : Nat) : Nat → F52.t_l17
  | 0, _, _, _ => none
  | n + 1, x2, x3, x8 => F52.l17b N (F52.l22 N N) (F52.l17 N n) x2 x3 x8
def F52.l12b (N : Nat) (s_l17 : F52.t_l17) (k_l12 : F52.t_l12) (x2 : vtConfig) (x3 : vtBook) (x7 : Int) : Option (Bool) :=
  cond (ltB x7 (List.length x3.2.2.2.1 : Int)) (cond (inb x7 (List.length x3.2.2.2.1)) ((F120 N x3 ((List.getD x3.2.2.2.1 x7.toNat zz3).1)).bind fun r21 => cond (!r21) (some false) (cond (inb x7 (List.length x3.2.2.2.1)) (cond (leB (List.length x2.1 : Int) (((List.getD x3.2.2.2.1 x7.toNat zz3).2).1)) (some false) (k_l12 x2 x3 (W .i64 (x7 + 1)))) (none))) (none)) (s_l17 x2 x3 (0 : Int))
def F52.l12 (N : Nat) : Nat → F52.t_l12
  | 0, _, _, _ => none
  | n + 1, x2, x3, x7 => F52.l12b N (F52.l17 N N) (F52.l12 N n) x2 x3 x7
def F52.l6b (N : Nat) (s_l12 : F52.t_l12) (k_l6 : F52.t_l6) (x2 : vtConfig) (x3 : vtBook) (x5 : Int) : Option (Bool) :=
  cond (ltB x5 (List.length x3.2.2.1 : Int)) (cond (inb x5 (List.length x3.2.2.1)) (cond (eqB ((List.getD x3.2.2.1 x5.toNat zz3).1) (5 : Int)) ((F120 N x3 (((List.getD x3.2.2.1 x5.toNat zz3).2).1)).bind fun r9 => cond (!r9) (some false) (cond (eqB ((List.getD x3.2.2.1 x5.toNat zz3).1) (6 : Int)) ((F127 N x3.1 (((List.getD x3.2.2.1 x5.toNat zz3).2).1)).bind fun r10 => cond (eqB r10 0) (some false) (k_l6 x2 x3 (W .i64 (x5 + 1)))) (cond (eqB ((List.getD x3.2.2.1 x5.toNat zz3).1) (7 : Int)) ((F127 N x3.1 (((List.getD x3.2.2.1 x5.toNat zz3).2).1)).bind fun r12 => cond (eqB r12 0) (some false) (k_l6 x2 x3 (W .i64 (x5 + 1)))) (k_l6 x2 x3 (W .i64 (x5 + 1)))))) (cond (eqB ((List.getD x3.2.2.1 x5.toNat zz3).1) (6 : Int)) ((F127 N x3.1 (((List.getD x3.2.2.1 x5.toNat zz3).2).1)).bind fun r15 => cond (eqB r15 0) (some false) (k_l6 x2 x3 (W .i64 (x5 + 1)))) (cond (eqB ((List.getD x3.2.2.1 x5.toNat zz3).1) (7 : Int)) ((F127 N x3.1 (((List.getD x3.2.2.1 x5.toNat zz3).2).1)).bind fun r17 => cond (eqB r17 0) (some false) (k_l6 x2 x3 (W .i64 (x5 + 1)))) (k_l6 x2 x3 (W .i64 (x5 + 1)))))) (none)) (s_l12 x2 x3 (0 : Int))
def F52.l6 (N : Nat) : Nat → F52.t_l6
  | 0, _, _, _ => none
  | n + 1, x2, x3, x5 => F52.l6b N (F52.l12 N N) (F52.l6 N n) x2 x3 x5
def F52.b (N : Nat) (s_l6 : F52.t_l6) (a0 : vtConfig) (a1 : vtBook) : Option (Bool) :=
  (F41 N a0).bind fun r1 => cond (!r1) (some false) ((F132 N a1.1 a1.2.1).bind fun r2 => cond (!r2) (some false) ((F109 N a1.2.2.1).bind fun r3 => cond (!r3) (some false) ((F133 N a1.2.2.2.1).bind fun r4 => cond (!r4) (some false) ((F134 N a1.2.2.2.2.2.1).bind fun r5 => cond (!r5) (some false) (cond (!eqB (List.length a1.2.2.2.2.1 : Int) (List.length a0.1 : Int)) (some false) ((F136 N a1.2.2.1).bind fun r6 => (F135 N r6).bind fun r7 => cond (!eqB r7 0) (some false) (s_l6 a0 a1 (0 : Int))))))))
def F52 (N : Nat) (a0 : vtConfig) (a1 : vtBook) : Option (Bool) := F52.b N (F52.l6 N N) a0 a1

abbrev F150.t_j9 := vtBig → vtBig → vtBig → (List (Int)) → Int → Int → Int → Option vtBig
abbrev F150.t_l7 := vtBig → vtBig → vtBig → (List (Int)) → Int → Int → Int → Option vtBig
abbrev F150.t_l3 := vtBig → vtBig → vtBig → (List (Int)) → Int → Option vtBig
def F150.j9b (N : Nat) (k_l3 : F150.t_l3) (k_l7 : F150.t_l7) (x2 : vtBig) (x3 : vtBig) (x4 : vtBig) (x5 : List (Int)) (x6 : Int) (x7 : Int) (x8 : Int) : Option vtBig :=
  let v7 : Int := W .i64 (x6 + x8); cond (inb v7 (List.length x5)) (cond (inb x6 (List.length x2.2.1)) ((F176 N x3.2.1 x8).bind fun r8 => let v11 : Int := W .u64 (x7 + (W .u64 ((List.getD x5 v7.toNat (0 : Int)) + (W .u64 ((List.getD x2.2.1 x6.toNat (0 : Int)) * r8))))); let v12 : Int := W .i64 (x6 + x8); cond (inb v12 (List.length x5)) (cond (ltB 32 0) (none) (k_l7 x2 x3 x4 (List.set x5 v12.toNat (bitw .and .u64 v11 4294967295)) x6 (shr .u64 v11 32) (W .i64 (x8 + 1)))) (none)) (none)) (none)
def F150.j9 (N : Nat) (k_l3 : F150.t_l3) (k_l7 : F150.t_l7) (x2 : vtBig) (x3 : vtBig) (x4 : vtBig) (x5 : List (Int)) (x6 : Int) (x7 : Int) (x8 : Int) : Option vtBig := F150.j9b N k_l3 k_l7 x2 x3 x4 x5 x6 x7 x8
def F150.l7b (N : Nat) (s_j9 : F150.t_j9) (k_l3 : F150.t_l3) (k_l7 : F150.t_l7) (x2 : vtBig) (x3 : vtBig) (x4 : vtBig) (x5 : List (Int)) (x6 : Int) (x7 : Int) (x8 : Int) : Option vtBig :=
  cond (ltB x8 (List.length x3.2.1 : Int)) (s_j9 x2 x3 x4 x5 x6 x7 x8) (cond (ltB 0 x7) (s_j9 x2 x3 x4 x5 x6 x7 x8) (k_l3 x2 x3 x4 x5 (W .i64 (x6 + 1))))
def F150.l7 (N : Nat) (k_l3 : F150.t_l3) : Nat → F150.t_l7
  | 0, _, _, _, _, _, _, _ => none
  | n + 1, x2, x3, x4, x5, x6, x7, x8 => F150.l7b N (F150.j9 N k_l3 (F150.l7 N k_l3 n)) k_l3 (F150.l7 N k_l3 n) x2 x3 x4 x5 x6 x7 x8
def F150.l3b (N : Nat) (s_l7 : F150.t_l7) (k_l3 : F150.t_l3) (x2 : vtBig) (x3 : vtBig) (x4 : vtBig) (x5 : List (Int)) (x6 : Int) : Option vtBig :=
  cond (ltB x6 (List.length x2.2.1 : Int)) (s_l7 x2 x3 x4 x5 x6 (0 : Int) (0 : Int)) ((F169 N (!(teq .bool x2.1 x3.1)) x5).bind fun r18 => some r18)
def F150.l3 (N : Nat) : Nat → F150.t_l3
  | 0, _, _, _, _, _ => none
  | n + 1, x2, x3, x4, x5, x6 => F150.l3b N (F150.l7 N (F150.l3 N n) N) (F150.l3 N n) x2 x3 x4 x5 x6
def F150.b (N : Nat) (s_l3 : F150.t_l3) (a0 : vtBig) (a1 : vtBig) : Option vtBig :=
  let v2 : Int := W .i64 ((W .i64 ((List.length a0.2.1 : Int) + (List.length a1.2.1 : Int))) + 1); cond (okMake v2 v2) (s_l3 a0 a1 (false, zzB) (List.replicate v2.toNat (0 : Int)) (0 : Int)) (none)
def F150 (N : Nat) (a0 : vtBig) (a1 : vtBig) : Option vtBig := F150.b N (F150.l3 N N) a0 a1

abbrev F68.t_l5 := vtConfig → vtBook → wtBig → Int → Option (wtBig × (Int))
def F68.l5b (N : Nat) (k_l5 : F68.t_l5) (x2 : vtConfig) (x3 : vtBook) (x6 : wtBig) (x7 : Int) : Option (wtBig × (Int)) :=
  cond (ltB x7 (List.length x2.1 : Int)) (cond (inb x7 (List.length x2.1)) (cond (inb ((List.getD x2.1 x7.toNat zz4).1) (List.length x6)) ((F37 N x3.2.2.2.1 (0 : Int) x7).bind fun r4 => (F87 N r4).bind fun r5 => cond (inb x7 (List.length x3.2.2.2.2.1)) ((F87 N (List.getD x3.2.2.2.2.1 x7.toNat (0 : Int))).bind fun r6 => (F150 N r5 r6).bind fun r7 => (F85 N (List.getD x6 ((List.getD x2.1 x7.toNat zz4).1).toNat (false, zzB)) r7).bind fun r8 => cond (inb ((List.getD x2.1 x7.toNat zz4).1) (List.length x6)) (k_l5 x2 x3 (List.set x6 ((List.getD x2.1 x7.toNat zz4).1).toNat r8) (W .i64 (x7 + 1))) (none)) (none)) (none)) (none)) (some (x6, (0 : Int)))
def F68.l5 (N : Nat) : Nat → F68.t_l5
  | 0, _, _, _, _ => none
  | n + 1, x2, x3, x6, x7 => F68.l5b N (F68.l5 N n) x2 x3 x6 x7
def F68.b (N : Nat) (s_l5 : F68.t_l5) (a0 : vtConfig) (a1 : vtBook) : Option (wtBig × (Int)) :=
  (F52 N a0 a1).bind fun r1 => cond (!r1) (some ([], (1 : Int))) (cond (okMake 4 4) (s_l5 a0 a1 (List.replicate (4 : Int).toNat (false, zzB)) (0 : Int)) (none))
def F68 (N : Nat) (a0 : vtConfig) (a1 : vtBook) : Option (wtBig × (Int)) := F68.b N (F68.l5 N N) a0 a1

abbrev F157.t_l5 := Int → vtConfig → (List (Int)) → Int → Option (List (Int))
def F157.l5b (N : Nat) (k_l5 : F157.t_l5) (x1 : Int) (x2 : vtConfig) (x5 : List (Int)) (x6 : Int) : Option (List (Int)) :=
  cond (ltB x6 (List.length x2.1 : Int)) (cond (inb x6 (List.length x2.1)) (cond (eqB ((List.getD x2.1 x6.toNat zz4).1) x1) (cond (small (List.length x5 + List.length ([x6]))) (k_l5 x1 x2 (x5 ++ ([x6])) (W .i64 (x6 + 1))) (none)) (k_l5 x1 x2 x5 (W .i64 (x6 + 1)))) (none)) (some x5)
def F157.l5 (N : Nat) : Nat → F157.t_l5
  | 0, _, _, _, _ => none
  | n + 1, x1, x2, x5, x6 => F157.l5b N (F157.l5 N n) x1 x2 x5 x6
def F157.b (N : Nat) (s_l5 : F157.t_l5) (a0 : vtConfig) (a1 : Int) : Option (List (Int)) :=
  (F41 N a0).bind fun r1 => cond (!r1) (some ([])) (s_l5 a1 a0 ([]) (0 : Int))
def F157 (N : Nat) (a0 : vtConfig) (a1 : Int) : Option (List (Int)) := F157.b N (F157.l5 N N) a0 a1

def F86 (N : Nat) (a0 : vtBig) : Option vtBig :=
  (F169 N false a0.2.1).bind fun r1 => some r1

def F92 (N : Nat) (a0 : vtBig) : Option vtBig :=
  (F169 N (!a0.1) a0.2.1).bind fun r1 => some r1

def F147 (N : Nat) (a0 : vtBig) (a1 : vtBig) : Option vtBig :=
  (F92 N a1).bind fun r1 => (F85 N a0 r1).bind fun r2 => some r2

def F130 (N : Nat) (a0 : vtBig) (a1 : vtBig) : Option (Int) :=
  (F147 N a0 a1).bind fun r1 => (F135 N r1).bind fun r2 => some r2

abbrev F217.t_l4 := (List (Int)) → (List (Int)) → Int → Int → Option ((List (Int)) × (Int))
def F217.l4b (N : Nat) (k_l4 : F217.t_l4) (x0 : List (Int)) (x4 : List (Int)) (x5 : Int) (x6 : Int) : Option ((List (Int)) × (Int)) :=
  cond (leB 0 x6) (cond (ltB 32 0) (none) (cond (inb x6 (List.length x0)) (let v5 : Int := bitw .or .u64 (W .u64 (shl .u64 x5 32)) (List.getD x0 x6.toNat (0 : Int)); cond (ltB 1 0) (none) (cond (inb x6 (List.length x4)) (k_l4 x0 (List.set x4 x6.toNat (shr .u64 v5 1)) (bitw .and .u64 v5 1) (W .i64 (x6 - 1))) (none))) (none))) ((F225 N x4).bind fun r10 => some (r10, x5))
def F217.l4 (N : Nat) : Nat → F217.t_l4
  | 0, _, _, _, _ => none
  | n + 1, x0, x4, x5, x6 => F217.l4b N (F217.l4 N n) x0 x4 x5 x6
def F217.b (N : Nat) (s_l4 : F217.t_l4) (a0 : List (Int)) : Option ((List (Int)) × (Int)) :=
  cond (okMake (List.length a0 : Int) (List.length a0 : Int)) (s_l4 a0 (List.replicate (List.length a0 : Int).toNat (0 : Int)) (0 : Int) (W .i64 ((List.length a0 : Int) - 1))) (none)
def F217 (N : Nat) (a0 : List (Int)) : Option ((List (Int)) × (Int)) := F217.b N (F217.l4 N N) a0

abbrev F158.t_l9 := vtBig → vtBig → vtBig → vtBig → (List (Int)) → vtBig → vtBig → Int → Option (vtBig × vtBig)
abbrev F158.t_l3 := vtBig → vtBig → vtBig → vtBig → (List (Int)) → (List (Int)) → Option (vtBig × vtBig)
def F158.l9b (N : Nat) (k_l9 : F158.t_l9) (x2 : vtBig) (x3 : vtBig) (x4 : vtBig) (x5 : vtBig) (x6 : List (Int)) (x10 : vtBig) (x11 : vtBig) (x12 : Int) : Option (vtBig × vtBig) :=
  cond (leB 0 x12) ((F85 N x10 x10).bind fun r6 => (F85 N x11 x11).bind fun r7 => cond (inb x12 (List.length x6)) (cond (eqB (List.getD x6 x12.toNat (0 : Int)) (1 : Int)) ((F87 N (1 : Int)).bind fun r8 => (F85 N r7 r8).bind fun r9 => (F130 N r9 x3).bind fun r10 => cond (leB 0 r10) ((F147 N r9 x3).bind fun r11 => (F87 N (1 : Int)).bind fun r12 => (F85 N r6 r12).bind fun r13 => k_l9 x2 x3 x4 x5 x6 r13 r11 (W .i64 (x12 - 1))) (k_l9 x2 x3 x4 x5 x6 r6 r9 (W .i64 (x12 - 1)))) ((F130 N r7 x3).bind fun r16 => cond (leB 0 r16) ((F147 N r7 x3).bind fun r17 => (F87 N (1 : Int)).bind fun r18 => (F85 N r6 r18).bind fun r19 => k_l9 x2 x3 x4 x5 x6 r19 r17 (W .i64 (x12 - 1))) (k_l9 x2 x3 x4 x5 x6 r6 r7 (W .i64 (x12 - 1))))) (none)) (cond (!x2.1) (some (x10, x11)) ((F135 N x11).bind fun r22 => cond (eqB r22 0) ((F92 N x10).bind fun r23 => some (r23, x11)) ((F92 N x10).bind fun r24 => (F87 N (1 : Int)).bind fun r25 => (F147 N r24 r25).bind fun r26 => (F147 N x3 x11).bind fun r27 => some (r26, r27))))
def F158.l9 (N : Nat) : Nat → F158.t_l9
  | 0, _, _, _, _, _, _, _, _ => none
  | n + 1, x2, x3, x4, x5, x6, x10, x11, x12 => F158.l9b N (F158.l9 N n) x2 x3 x4 x5 x6 x10 x11 x12
def F158.l3b (N : Nat) (s_l9 : F158.t_l9) (k_l3 : F158.t_l3) (x2 : vtBig) (x3 : vtBig) (x4 : vtBig) (x5 : vtBig) (x6 : List (Int)) (x7 : List (Int)) : Option (vtBig × vtBig) :=
  cond (ltB 0 (List.length x7 : Int)) ((F217 N x7).bind fun r2 => cond (small (List.length x6 + List.length ([r2.2]))) (k_l3 x2 x3 x4 x5 (x6 ++ ([r2.2])) r2.1) (none)) (s_l9 x2 x3 x4 x5 x6 (false, zzB) (false, zzB) (W .i64 ((List.length x6 : Int) - 1)))
def F158.l3 (N : Nat) : Nat → F158.t_l3
  | 0, _, _, _, _, _, _ => none
  | n + 1, x2, x3, x4, x5, x6, x7 => F158.l3b N (F158.l9 N N) (F158.l3 N n) x2 x3 x4 x5 x6 x7
def F158.b (N : Nat) (s_l3 : F158.t_l3) (a0 : vtBig) (a1 : vtBig) : Option (vtBig × vtBig) :=
  s_l3 a0 a1 (false, zzB) (false, zzB) ([]) a0.2.1
def F158 (N : Nat) (a0 : vtBig) (a1 : vtBig) : Option (vtBig × vtBig) := F158.b N (F158.l3 N N) a0 a1

def F91 (N : Nat) (a0 : vtBig) : Option ((Int) × (Bool)) :=
  cond (ltB 2 (List.length a0.2.1 : Int)) (some ((0 : Int), false)) ((F176 N a0.2.1 (0 : Int)).bind fun r1 => (F176 N a0.2.1 (1 : Int)).bind fun r2 => cond (ltB 32 0) (none) (let v4 : Int := bitw .or .u64 r1 (W .u64 (shl .u64 r2 32)); cond (a0.1) (cond (ltB 9223372036854775808 v4) (some ((0 : Int), false)) (some ((W .i64 (W .u64 (0 - v4))), true))) (cond (ltB 9223372036854775807 v4) (some ((0 : Int), false)) (some ((W .i64 v4), true)))))

abbrev F69.t_j15 := Int → vtConfig → vtBook → wtBig → wtI4 → Int → (List (Int)) → Int → Option (wtI4 × (Int))
abbrev F69.t_l6 := Int → vtConfig → vtBook → wtBig → wtI4 → Int → Option (wtI4 × (Int))
def F69.j15b (N : Nat) (k_l6 : F69.t_l6) (x2 : Int) (x3 : vtConfig) (x4 : vtBook) (x8 : wtBig) (x10 : wtI4) (x11 : Int) (x12 : List (Int)) (x16 : Int) : Option (wtI4 × (Int)) :=
  cond (eqB x16 0) (k_l6 x2 x3 x4 x8 x10 (W .i64 (x11 + 1))) (cond (inb 0 (List.length x12)) (cond (inb x11 (List.length x8)) ((F135 N (List.getD x8 x11.toNat (false, zzB))).bind fun r14 => cond (ltB 0 r14) (cond (small (List.length x10 + List.length ([(x2, (List.getD x12 (0 : Int).toNat (0 : Int), ((2 : Int), (x16, ()))))]))) (k_l6 (W .i64 (x2 + 1)) x3 x4 x8 (x10 ++ ([(x2, (List.getD x12 (0 : Int).toNat (0 : Int), ((2 : Int), (x16, ()))))])) (W .i64 (x11 + 1))) (none)) (cond (small (List.length x10 + List.length ([(x2, (List.getD x12 (0 : Int).toNat (0 : Int), ((1 : Int), (x16, ()))))]))) (k_l6 (W .i64 (x2 + 1)) x3 x4 x8 (x10 ++ ([(x2, (List.getD x12 (0 : Int).toNat (0 : Int), ((1 : Int), (x16, ()))))])) (W .i64 (x11 + 1))) (none))) (none)) (none))
def F69.j15 (N : Nat) (k_l6 : F69.t_l6) (x2 : Int) (x3 : vtConfig) (x4 : vtBook) (x8 : wtBig) (x10 : wtI4) (x11 : Int) (x12 : List (Int)) (x16 : Int) : Option (wtI4 × (Int)) := F69.j15b N k_l6 x2 x3 x4 x8 x10 x11 x12 x16
def F69.l6b (N : Nat) (s_j15 : F69.t_j15) (k_l6 : F69.t_l6) (x2 : Int) (x3 : vtConfig) (x4 : vtBook) (x8 : wtBig) (x10 : wtI4) (x11 : Int) : Option (wtI4 × (Int)) :=
  cond (ltB x11 4) ((F157 N x3 x11).bind fun r3 => cond (inb x11 (List.length x8)) ((F86 N (List.getD x8 x11.toNat (false, zzB))).bind fun r4 => cond (eqB (List.length r3 : Int) 0) (k_l6 x2 x3 x4 x8 x10 (W .i64 (x11 + 1))) ((F87 N x3.2.2.2.2.2.2.1).bind fun r6 => (F130 N r4 r6).bind fun r7 => cond (leB r7 0) (k_l6 x2 x3 x4 x8 x10 (W .i64 (x11 + 1))) (cond (inb 0 (List.length r3)) (cond (inb (List.getD r3 (0 : Int).toNat (0 : Int)) (List.length x4.2.2.2.2.1)) ((F87 N (List.getD x4.2.2.2.2.1 (List.getD r3 (0 : Int).toNat (0 : Int)).toNat (0 : Int))).bind fun r9 => (F158 N r4 r9).bind fun r10 => (F91 N r10.1).bind fun r11 => cond (!r11.2) (s_j15 x2 x3 x4 x8 x10 x11 r3 (1000000000 : Int)) (cond (ltB 1000000000 r11.1) (s_j15 x2 x3 x4 x8 x10 x11 r3 (1000000000 : Int)) (s_j15 x2 x3 x4 x8 x10 x11 r3 r11.1))) (none)) (none)))) (none)) (some (x10, (0 : Int)))
def F69.l6 (N : Nat) : Nat → F69.t_l6
  | 0, _, _, _, _, _, _ => none
  | n + 1, x2, x3, x4, x8, x10, x11 => F69.l6b N (F69.j15 N (F69.l6 N n)) (F69.l6 N n) x2 x3 x4 x8 x10 x11
def F69.b (N : Nat) (s_l6 : F69.t_l6) (a0 : vtConfig) (a1 : vtBook) (a2 : Int) : Option (wtI4 × (Int)) :=
  (F68 N a0 a1).bind fun r1 => cond (!eqB r1.2 0) (some ([], (1 : Int))) (cond (ltB a2 1) (some ([], (1 : Int))) (cond (ltB 1099511627772 a2) (some ([], (1 : Int))) (s_l6 a2 a0 a1 r1.1 ([]) (0 : Int))))
def F69 (N : Nat) (a0 : vtConfig) (a1 : vtBook) (a2 : Int) : Option (wtI4 × (Int)) := F69.b N (F69.l6 N N) a0 a1 a2

def F72 (N : Nat) (a0 : vtI4) : Option (Bool) :=
  cond (leB 1 a0.1) (cond (leB a0.1 1099511627776) (cond (leB 0 a0.2.1) (cond (ltB a0.2.1 6) (cond (eqB a0.2.2.1 1) (cond (leB 1 a0.2.2.2.1) (some (leB a0.2.2.2.1 1000000000)) (some false)) (cond (eqB a0.2.2.1 2) (cond (leB 1 a0.2.2.2.1) (some (leB a0.2.2.2.1 1000000000)) (some false)) (some false))) (some false)) (some false)) (some false)) (some false)

abbrev F84.t_l5 := wtI3 → Int → wtI2 → Int → Option wtI2
def F84.l5b (N : Nat) (k_l5 : F84.t_l5) (x0 : wtI3) (x1 : Int) (x5 : wtI2) (x6 : Int) : Option wtI2 :=
  cond (ltB x6 (List.length x0 : Int)) (cond (inb x6 (List.length x0)) (cond (eqB ((List.getD x0 x6.toNat zz3).1) x1) (cond (inb x6 (List.length x0)) (cond (inb x6 (List.length x0)) (cond (small (List.length x5 + List.length ([(((List.getD x0 x6.toNat zz3).2).1, ((((List.getD x0 x6.toNat zz3).2).2).1, ()))]))) (k_l5 x0 x1 (x5 ++ ([(((List.getD x0 x6.toNat zz3).2).1, ((((List.getD x0 x6.toNat zz3).2).2).1, ()))])) (W .i64 (x6 + 1))) (none)) (none)) (none)) (k_l5 x0 x1 x5 (W .i64 (x6 + 1)))) (none)) (some x5)
def F84.l5 (N : Nat) : Nat → F84.t_l5
  | 0, _, _, _, _ => none
  | n + 1, x0, x1, x5, x6 => F84.l5b N (F84.l5 N n) x0 x1 x5 x6
def F84.b (N : Nat) (s_l5 : F84.t_l5) (a0 : wtI3) (a1 : Int) : Option wtI2 :=
  (F108 N a0).bind fun r1 => cond (!r1) (some ([])) (s_l5 a0 a1 ([]) (0 : Int))
def F84 (N : Nat) (a0 : wtI3) (a1 : Int) : Option wtI2 := F84.b N (F84.l5 N N) a0 a1

abbrev F152.t_l7 := wtI6 → Int → wtI3 → Int → vtI3 → Int → Option wtI3
abbrev F152.t_l3 := wtI6 → Int → wtI3 → Int → Option wtI3
def F152.l7b (N : Nat) (k_l3 : F152.t_l3) (k_l7 : F152.t_l7) (x0 : wtI6) (x1 : Int) (x5 : wtI3) (x6 : Int) (x7 : vtI3) (x8 : Int) : Option wtI3 :=
  cond (ltB x8 (List.length x0 : Int)) (cond (inb x8 (List.length x0)) (cond (!eqB (((List.getD x0 x8.toNat zz6).2).1) x1) (k_l7 x0 x1 x5 x6 x7 (W .i64 (x8 + 1))) (cond (inb x8 (List.length x0)) (cond (!eqB ((((List.getD x0 x8.toNat zz6).2).2).1) x6) (k_l7 x0 x1 x5 x6 x7 (W .i64 (x8 + 1))) (cond (inb x8 (List.length x0)) (cond (eqB (((((List.getD x0 x8.toNat zz6).2).2).2).1) (1 : Int)) (cond (inb x8 (List.length x0)) (k_l7 x0 x1 x5 x6 (x7.1, ((W .i64 (x7.2.1 + ((((((List.getD x0 x8.toNat zz6).2).2).2).2).1))), x7.2.2)) (W .i64 (x8 + 1))) (none)) (cond (inb x8 (List.length x0)) (k_l7 x0 x1 x5 x6 (x7.1, (x7.2.1, ((W .i64 (x7.2.2.1 + ((((((List.getD x0 x8.toNat zz6).2).2).2).2).1))), x7.2.2.2))) (W .i64 (x8 + 1))) (none))) (none))) (none))) (none)) (cond (ltB 0 x7.2.1) (cond (small (List.length x5 + List.length ([x7]))) (k_l3 x0 x1 (x5 ++ ([x7])) (W .i64 (x6 + 1))) (none)) (cond (ltB 0 x7.2.2.1) (cond (small (List.length x5 + List.length ([x7]))) (k_l3 x0 x1 (x5 ++ ([x7])) (W .i64 (x6 + 1))) (none)) (k_l3 x0 x1 x5 (W .i64 (x6 + 1)))))
def F152.l7 (N : Nat) (k_l3 : F152.t_l3) : Nat → F152.t_l7
  | 0, _, _, _, _, _, _ => none
  | n + 1, x0, x1, x5, x6, x7, x8 => F152.l7b N k_l3 (F152.l7 N k_l3 n) x0 x1 x5 x6 x7 x8
def F152.l3b (N : Nat) (s_l7 : F152.t_l7) (k_l3 : F152.t_l3) (x0 : wtI6) (x1 : Int) (x5 : wtI3) (x6 : Int) : Option wtI3 :=
  cond (ltB x6 6) (s_l7 x0 x1 x5 x6 (x6, zz2) (0 : Int)) (some x5)
def F152.l3 (N : Nat) : Nat → F152.t_l3
  | 0, _, _, _, _ => none
  | n + 1, x0, x1, x5, x6 => F152.l3b N (F152.l7 N (F152.l3 N n) N) (F152.l3 N n) x0 x1 x5 x6
def F152.b (N : Nat) (s_l3 : F152.t_l3) (a0 : wtI6) (a1 : Int) : Option wtI3 :=
  s_l3 a0 a1 ([]) (0 : Int)
def F152 (N : Nat) (a0 : wtI6) (a1 : Int) : Option wtI3 := F152.b N (F152.l3 N N) a0 a1

abbrev F93.t_l4 := wtI2 → vtConfig → Int → Option (Bool)
def F93.l4b (N : Nat) (k_l4 : F93.t_l4) (x1 : wtI2) (x2 : vtConfig) (x5 : Int) : Option (Bool) :=
  cond (ltB x5 (List.length x1 : Int)) (cond (inb x5 (List.length x1)) (cond (ltB ((List.getD x1 x5.toNat zz2).1) (0 : Int)) (some false) (cond (inb x5 (List.length x1)) (cond (leB (List.length x2.1 : Int) ((List.getD x1 x5.toNat zz2).1)) (some false) (cond (inb x5 (List.length x1)) (cond (eqB (((List.getD x1 x5.toNat zz2).2).1) (0 : Int)) (some false) (cond (inb x5 (List.length x1)) (cond (eqB (((List.getD x1 x5.toNat zz2).2).1) (-9223372036854775808 : Int)) (some false) (cond (ltB 0 x5) (cond (inb x5 (List.length x1)) (let v3 : Int := W .i64 (x5 - 1); cond (inb v3 (List.length x1)) (cond (leB ((List.getD x1 x5.toNat zz2).1) ((List.getD x1 v3.toNat zz2).1)) (some false) (k_l4 x1 x2 (W .i64 (x5 + 1)))) (none)) (none)) (k_l4 x1 x2 (W .i64 (x5 + 1))))) (none))) (none))) (none))) (none)) (some true)
def F93.l4 (N : Nat) : Nat → F93.t_l4
  | 0, _, _, _ => none
  | n + 1, x1, x2, x5 => F93.l4b N (F93.l4 N n) x1 x2 x5
def F93.b (N : Nat) (s_l4 : F93.t_l4) (a0 : vtConfig) (a1 : wtI2) : Option (Bool) :=
  (F41 N a0).bind fun r1 => cond (!r1) (some false) (s_l4 a1 a0 (0 : Int))
def F93 (N : Nat) (a0 : vtConfig) (a1 : wtI2) : Option (Bool) := F93.b N (F93.l4 N N) a0 a1

abbrev F214.t_l5 := wtI3 → vtConfig → Int → Int → Option (Bool)
def F214.l5b (N : Nat) (k_l5 : F214.t_l5) (x1 : wtI3) (x2 : vtConfig) (x5 : Int) (x6 : Int) : Option (Bool) :=
  cond (ltB x6 (List.length x1 : Int)) (cond (inb x6 (List.length x1)) (cond (ltB ((List.getD x1 x6.toNat zz3).1) (0 : Int)) (some false) (cond (leB (List.length x2.1 : Int) ((List.getD x1 x6.toNat zz3).1)) (some false) (cond (ltB (((List.getD x1 x6.toNat zz3).2).1) (0 : Int)) (some false) (cond (ltB x5 (((List.getD x1 x6.toNat zz3).2).1)) (some false) (cond (ltB ((((List.getD x1 x6.toNat zz3).2).2).1) (0 : Int)) (some false) (cond (ltB x5 ((((List.getD x1 x6.toNat zz3).2).2).1)) (some false) (cond (eqB (((List.getD x1 x6.toNat zz3).2).1) (0 : Int)) (cond (eqB ((((List.getD x1 x6.toNat zz3).2).2).1) (0 : Int)) (some false) (cond (ltB 0 x6) (let v3 : Int := W .i64 (x6 - 1); cond (inb v3 (List.length x1)) (cond (leB ((List.getD x1 x6.toNat zz3).1) ((List.getD x1 v3.toNat zz3).1)) (some false) (k_l5 x1 x2 x5 (W .i64 (x6 + 1)))) (none)) (k_l5 x1 x2 x5 (W .i64 (x6 + 1))))) (cond (ltB 0 x6) (let v6 : Int := W .i64 (x6 - 1); cond (inb v6 (List.length x1)) (cond (leB ((List.getD x1 x6.toNat zz3).1) ((List.getD x1 v6.toNat zz3).1)) (some false) (k_l5 x1 x2 x5 (W .i64 (x6 + 1)))) (none)) (k_l5 x1 x2 x5 (W .i64 (x6 + 1))))))))))) (none)) (some true)
def F214.l5 (N : Nat) : Nat → F214.t_l5
  | 0, _, _, _, _ => none
  | n + 1, x1, x2, x5, x6 => F214.l5b N (F214.l5 N n) x1 x2 x5 x6
def F214.b (N : Nat) (s_l5 : F214.t_l5) (a0 : vtConfig) (a1 : wtI3) : Option (Bool) :=
  (F41 N a0).bind fun r1 => cond (!r1) (some false) (s_l5 a1 a0 (33000000000 : Int) (0 : Int))
def F214 (N : Nat) (a0 : vtConfig) (a1 : wtI3) : Option (Bool) := F214.b N (F214.l5 N N) a0 a1

abbrev F151.t_l12 := wtI3 → Int → vtBig → vtBig → vtBig → vtBig → Int → Option (vtBig × (Int))
abbrev F151.t_l7 := wtI2 → wtI3 → Int → vtBig → vtBig → vtBig → vtBig → Int → Option (vtBig × (Int))
def F151.l12b (N : Nat) (k_l12 : F151.t_l12) (x2 : wtI3) (x3 : Int) (x8 : vtBig) (x10 : vtBig) (x11 : vtBig) (x12 : vtBig) (x14 : Int) : Option (vtBig × (Int)) :=
  cond (ltB x14 (List.length x2 : Int)) (cond (inb x14 (List.length x2)) (cond (eqB ((List.getD x2 x14.toNat zz3).1) x3) (cond (inb x14 (List.length x2)) ((F87 N (((List.getD x2 x14.toNat zz3).2).1)).bind fun r8 => cond (inb x14 (List.length x2)) ((F87 N ((((List.getD x2 x14.toNat zz3).2).2).1)).bind fun r9 => k_l12 x2 x3 x8 x10 r8 r9 (W .i64 (x14 + 1))) (none)) (none)) (k_l12 x2 x3 x8 x10 x11 x12 (W .i64 (x14 + 1)))) (none)) ((F85 N x10 x11).bind fun r12 => (F86 N r12).bind fun r13 => (F147 N x10 x12).bind fun r14 => (F86 N r14).bind fun r15 => (F130 N r15 r13).bind fun r16 => cond (ltB 0 r16) (some (r15, (0 : Int))) (some (r13, (0 : Int))))
def F151.l12 (N : Nat) : Nat → F151.t_l12
  | 0, _, _, _, _, _, _, _ => none
  | n + 1, x2, x3, x8, x10, x11, x12, x14 => F151.l12b N (F151.l12 N n) x2 x3 x8 x10 x11 x12 x14
def F151.l7b (N : Nat) (s_l12 : F151.t_l12) (k_l7 : F151.t_l7) (x1 : wtI2) (x2 : wtI3) (x3 : Int) (x8 : vtBig) (x10 : vtBig) (x11 : vtBig) (x12 : vtBig) (x13 : Int) : Option (vtBig × (Int)) :=
  cond (ltB x13 (List.length x1 : Int)) (cond (inb x13 (List.length x1)) (cond (eqB ((List.getD x1 x13.toNat zz2).1) x3) (cond (inb x13 (List.length x1)) ((F87 N (((List.getD x1 x13.toNat zz2).2).1)).bind fun r4 => k_l7 x1 x2 x3 x8 r4 x11 x12 (W .i64 (x13 + 1))) (none)) (k_l7 x1 x2 x3 x8 x10 x11 x12 (W .i64 (x13 + 1)))) (none)) (s_l12 x2 x3 x8 x10 x11 x12 (0 : Int))
def F151.l7 (N : Nat) : Nat → F151.t_l7
  | 0, _, _, _, _, _, _, _, _ => none
  | n + 1, x1, x2, x3, x8, x10, x11, x12, x13 => F151.l7b N (F151.l12 N N) (F151.l7 N n) x1 x2 x3 x8 x10 x11 x12 x13
def F151.b (N : Nat) (s_l7 : F151.t_l7) (a0 : vtConfig) (a1 : wtI2) (a2 : wtI3) (a3 : Int) : Option (vtBig × (Int)) :=
  (F93 N a0 a1).bind fun r1 => cond (!r1) (some ((false, zzB), (1 : Int))) ((F214 N a0 a2).bind fun r2 => cond (!r2) (some ((false, zzB), (1 : Int))) (cond (ltB a3 0) (some ((false, zzB), (3 : Int))) (cond (leB (List.length a0.1 : Int) a3) (some ((false, zzB), (3 : Int))) (s_l7 a1 a2 a3 (false, zzB) (false, zzB) (false, zzB) (false, zzB) (0 : Int)))))
def F151 (N : Nat) (a0 : vtConfig) (a1 : wtI2) (a2 : wtI3) (a3 : Int) : Option (vtBig × (Int)) := F151.b N (F151.l7 N N) a0 a1 a2 a3

def F60 (N : Nat) (a0 : vtI6) (a1 : Int) : Option (vtBig × (Int)) :=
  (F149 N a0).bind fun r1 => cond (!r1) (some ((false, zzB), (1 : Int))) ((F123 N a1).bind fun r2 => cond (!r2) (some ((false, zzB), (1 : Int))) (let v3 : Int := W .i64 (a0.2.2.2.2.2.1 - a1); cond (eqB a0.2.2.2.1 2) (let v4 : Int := W .i64 (a1 - a0.2.2.2.2.2.1); cond (ltB v4 0) (some ((false, zzB), (0 : Int))) ((F87 N a0.2.2.2.2.1).bind fun r5 => (F87 N v4).bind fun r6 => (F150 N r5 r6).bind fun r7 => some (r7, (0 : Int)))) (cond (ltB v3 0) (some ((false, zzB), (0 : Int))) ((F87 N a0.2.2.2.2.1).bind fun r8 => (F87 N v3).bind fun r9 => (F150 N r8 r9).bind fun r10 => some (r10, (0 : Int))))))

abbrev F205.t_l5 := wtI2 → wtI3 → vtConfig → vtBig → vtBig → Int → Option (vtBig × (Int))
def F205.l5b (N : Nat) (k_l5 : F205.t_l5) (x1 : wtI2) (x2 : wtI3) (x3 : vtConfig) (x6 : vtBig) (x8 : vtBig) (x9 : Int) : Option (vtBig × (Int)) :=
  cond (ltB x9 (List.length x3.1 : Int)) ((F151 N x3 x1 x2 x9).bind fun r4 => cond (inb x9 (List.length x3.1)) ((F87 N ((((List.getD x3.1 x9.toNat zz4).2).2).1)).bind fun r5 => (F150 N r4.1 r5).bind fun r6 => (F85 N x8 r6).bind fun r7 => k_l5 x1 x2 x3 x6 r7 (W .i64 (x9 + 1))) (none)) (some (x8, (0 : Int)))
def F205.l5 (N : Nat) : Nat → F205.t_l5
  | 0, _, _, _, _, _, _ => none
  | n + 1, x1, x2, x3, x6, x8, x9 => F205.l5b N (F205.l5 N n) x1 x2 x3 x6 x8 x9
def F205.b (N : Nat) (s_l5 : F205.t_l5) (a0 : vtConfig) (a1 : wtI2) (a2 : wtI3) : Option (vtBig × (Int)) :=
  (F93 N a0 a1).bind fun r1 => cond (!r1) (some ((false, zzB), (1 : Int))) ((F214 N a0 a2).bind fun r2 => cond (!r2) (some ((false, zzB), (1 : Int))) (s_l5 a1 a2 a0 (false, zzB) (false, zzB) (0 : Int)))
def F205 (N : Nat) (a0 : vtConfig) (a1 : wtI2) (a2 : wtI3) : Option (vtBig × (Int)) := F205.b N (F205.l5 N N) a0 a1 a2

def F126 (N : Nat) (a0 : vtConfig) (a1 : vtBook) (a2 : Int) (a3 : wtI6) : Option vtBig :=
  cond (small (List.length ee6 + List.length a1.2.2.2.2.2.1)) (let v1 : List ((Int) × ((Int) × ((Int) × ((Int) × ((Int) × ((Int) × (Unit))))))) := ee6 ++ a1.2.2.2.2.2.1; cond (small (List.length v1 + List.length a3)) ((F84 N a1.2.2.2.1 a2).bind fun r3 => (F152 N (v1 ++ a3) a2).bind fun r4 => (F205 N a0 r3 r4).bind fun r5 => some r5.1) (none)) (none)

def F62 (N : Nat) (a0 : vtConfig) (a1 : vtBook) (a2 : vtI6) : Option (Int) :=
  (F52 N a0 a1).bind fun r1 => cond (!r1) (some (1 : Int)) ((F149 N a2).bind fun r2 => cond (!r2) (some (1 : Int)) ((F125 N a1.2.1 a2.2.1).bind fun r3 => cond (!r3.2) (some (3 : Int)) ((F127 N a1.1 r3.1.2.1).bind fun r4 => cond (!eqB r4 1) (some (7 : Int)) (cond (leB (List.length a0.1 : Int) a2.2.2.1) (some (3 : Int)) (cond (small (List.length ee6 + List.length a1.2.2.2.2.2.1)) (let v5 : List ((Int) × ((Int) × ((Int) × ((Int) × ((Int) × ((Int) × (Unit))))))) := ee6 ++ a1.2.2.2.2.2.1; cond (small (List.length v5 + List.length ([a2]))) ((F84 N a1.2.2.2.1 a2.2.1).bind fun r7 => (F152 N (v5 ++ ([a2])) a2.2.1).bind fun r8 => (F151 N a0 r7 r8 a2.2.2.1).bind fun r9 => (F87 N r3.1.2.2.2.1).bind fun r10 => (F130 N r9.1 r10).bind fun r11 => cond (ltB 0 r11) (some (9 : Int)) (cond (inb a2.2.2.1 (List.length a1.2.2.2.2.1)) ((F60 N a2 (List.getD a1.2.2.2.2.1 a2.2.2.1.toNat (0 : Int))).bind fun r12 => (F38 N a1.2.2.1 (5 : Int) a2.2.1).bind fun r13 => (F87 N r13).bind fun r14 => (F147 N r14 r12.1).bind fun r15 => (F126 N a0 a1 a2.2.1 ([a2])).bind fun r16 => (F130 N r15 r16).bind fun r17 => cond (ltB r17 0) (some (10 : Int)) (some (0 : Int))) (none))) (none)) (none))))))

def F119 (N : Nat) (a0 : vtI5) : Option (Bool) :=
  cond (leB 0 a0.1) (cond (leB a0.1 24) (cond (leB 0 a0.2.1) (cond (leB a0.2.1 24) (cond (!eqB a0.1 a0.2.1) (cond (leB 0 a0.2.2.1) (cond (ltB a0.2.2.1 6) (cond (leB 1 a0.2.2.2.1) (cond (leB a0.2.2.2.1 1000000000) ((F123 N a0.2.2.2.2.1).bind fun r1 => some r1) (some false)) (some false)) (some false)) (some false)) (some false)) (some false)) (some false)) (some false)) (some false)

def F200 (N : Nat) (a0 : Int) : Option ((Int) × (Int)) :=
  cond (eqB a0 0) (some ((2 : Int), (0 : Int))) (some ((5 : Int), a0))

def F121 (N : Nat) (a0 : vtI5) (a1 : Int) : Option (wtPart × (Int)) :=
  (F119 N a0).bind fun r1 => cond (!r1) (some ([], (1 : Int))) ((F123 N a1).bind fun r2 => cond (!r2) (some ([], (1 : Int))) ((F87 N (W .i64 (a1 - a0.2.2.2.2.1))).bind fun r4 => (F87 N a0.2.2.2.1).bind fun r5 => (F150 N r4 r5).bind fun r6 => (F135 N r6).bind fun r7 => cond (eqB r7 0) (some ([], (0 : Int))) ((F200 N a0.1).bind fun r8 => (F200 N a0.2.1).bind fun r9 => (F92 N r6).bind fun r10 => some ([(r8.1, (r8.2, (r6, ()))), (r9.1, (r9.2, (r10, ())))], (0 : Int)))))

def F236 (N : Nat) (a0 : vtBig) : Option ((Int) × (Bool)) :=
  (F91 N a0).bind fun r1 => cond (!r1.2) (some ((0 : Int), false)) (cond (eqB r1.1 (-9223372036854775808)) (some ((0 : Int), false)) (some (r1.1, true)))

abbrev F201.t_l15 := wtI3 → wtI3 → wtI3 → Int → Int → Int → Int → Bool → vtBig → Int → Option (wtI3 × (Bool))
abbrev F201.t_j13 := wtI3 → wtI3 → wtI3 → Int → Int → Int → Int → Bool → Option (wtI3 × (Bool))
abbrev F201.t_l7 := wtI3 → wtI3 → wtI3 → Int → Int → Int → Option (wtI3 × (Bool))
abbrev F201.t_l4 := wtI3 → wtI3 → wtI3 → Int → Int → Option (wtI3 × (Bool))
def F201.l15b (N : Nat) (k_l4 : F201.t_l4) (k_l7 : F201.t_l7) (k_l15 : F201.t_l15) (x0 : wtI3) (x1 : wtI3) (x6 : wtI3) (x7 : Int) (x8 : Int) (x9 : Int) (x10 : Int) (x11 : Bool) (x12 : vtBig) (x13 : Int) : Option (wtI3 × (Bool)) :=
  cond (ltB x13 (List.length x1 : Int)) (cond (inb x13 (List.length x1)) (cond (eqB ((List.getD x1 x13.toNat zz3).1) x8) (cond (inb x13 (List.length x1)) (cond (eqB (((List.getD x1 x13.toNat zz3).2).1) x9) (cond (inb x13 (List.length x1)) ((F87 N ((((List.getD x1 x13.toNat zz3).2).2).1)).bind fun r6 => (F85 N x12 r6).bind fun r7 => k_l15 x0 x1 x6 x7 x8 x9 x10 true r7 (W .i64 (x13 + 1))) (none)) (k_l15 x0 x1 x6 x7 x8 x9 x10 x11 x12 (W .i64 (x13 + 1)))) (none)) (k_l15 x0 x1 x6 x7 x8 x9 x10 x11 x12 (W .i64 (x13 + 1)))) (none)) (cond (x11) ((F87 N x10).bind fun r11 => (F85 N x12 r11).bind fun r12 => (F236 N r12).bind fun r13 => cond (!r13.2) (some ([], false)) (cond (!eqB r13.1 0) (cond (small (List.length x6 + List.length ([(x8, (x9, (r13.1, ())))]))) (k_l7 x0 x1 (x6 ++ ([(x8, (x9, (r13.1, ())))])) x7 x8 (W .i64 (x9 + 1))) (none)) (k_l7 x0 x1 x6 x7 x8 (W .i64 (x9 + 1))))) (cond (!eqB x10 0) (cond (small (List.length x6 + List.length ([(x8, (x9, (x10, ())))]))) (k_l7 x0 x1 (x6 ++ ([(x8, (x9, (x10, ())))])) x7 x8 (W .i64 (x9 + 1))) (none)) (k_l7 x0 x1 x6 x7 x8 (W .i64 (x9 + 1)))))
def F201.l15 (N : Nat) (k_l4 : F201.t_l4) (k_l7 : F201.t_l7) : Nat → F201.t_l15
  | 0, _, _, _, _, _, _, _, _, _, _ => none
  | n + 1, x0, x1, x6, x7, x8, x9, x10, x11, x12, x13 => F201.l15b N k_l4 k_l7 (F201.l15 N k_l4 k_l7 n) x0 x1 x6 x7 x8 x9 x10 x11 x12 x13
def F201.j13b (N : Nat) (s_l15 : F201.t_l15) (k_l4 : F201.t_l4) (k_l7 : F201.t_l7) (x0 : wtI3) (x1 : wtI3) (x6 : wtI3) (x7 : Int) (x8 : Int) (x9 : Int) (x10 : Int) (x11 : Bool) : Option (wtI3 × (Bool)) :=
  s_l15 x0 x1 x6 x7 x8 x9 x10 x11 (false, zzB) (0 : Int)
def F201.j13 (N : Nat) (k_l4 : F201.t_l4) (k_l7 : F201.t_l7) (x0 : wtI3) (x1 : wtI3) (x6 : wtI3) (x7 : Int) (x8 : Int) (x9 : Int) (x10 : Int) (x11 : Bool) : Option (wtI3 × (Bool)) := F201.j13b N (F201.l15 N k_l4 k_l7 N) k_l4 k_l7 x0 x1 x6 x7 x8 x9 x10 x11
def F201.l7b (N : Nat) (s_j13 : F201.t_j13) (k_l4 : F201.t_l4) (k_l7 : F201.t_l7) (x0 : wtI3) (x1 : wtI3) (x6 : wtI3) (x7 : Int) (x8 : Int) (x9 : Int) : Option (wtI3 × (Bool)) :=
  cond (ltB x9 6) (cond (ltB x7 (List.length x0 : Int)) (cond (inb x7 (List.length x0)) (cond (eqB ((List.getD x0 x7.toNat zz3).1) x8) (cond (inb x7 (List.length x0)) (cond (eqB (((List.getD x0 x7.toNat zz3).2).1) x9) (cond (inb x7 (List.length x0)) (s_j13 x0 x1 x6 (W .i64 (x7 + 1)) x8 x9 ((((List.getD x0 x7.toNat zz3).2).2).1) false) (none)) (s_j13 x0 x1 x6 x7 x8 x9 (0 : Int) false)) (none)) (s_j13 x0 x1 x6 x7 x8 x9 (0 : Int) false)) (none)) (s_j13 x0 x1 x6 x7 x8 x9 (0 : Int) false)) (k_l4 x0 x1 x6 x7 (W .i64 (x8 + 1)))
def F201.l7 (N : Nat) (k_l4 : F201.t_l4) : Nat → F201.t_l7
  | 0, _, _, _, _, _, _ => none
  | n + 1, x0, x1, x6, x7, x8, x9 => F201.l7b N (F201.j13 N k_l4 (F201.l7 N k_l4 n)) k_l4 (F201.l7 N k_l4 n) x0 x1 x6 x7 x8 x9
def F201.l4b (N : Nat) (s_l7 : F201.t_l7) (k_l4 : F201.t_l4) (x0 : wtI3) (x1 : wtI3) (x6 : wtI3) (x7 : Int) (x8 : Int) : Option (wtI3 × (Bool)) :=
  cond (leB x8 24) (s_l7 x0 x1 x6 x7 x8 (0 : Int)) (some (x6, true))
def F201.l4 (N : Nat) : Nat → F201.t_l4
  | 0, _, _, _, _, _ => none
  | n + 1, x0, x1, x6, x7, x8 => F201.l4b N (F201.l7 N (F201.l4 N n) N) (F201.l4 N n) x0 x1 x6 x7 x8
def F201.b (N : Nat) (s_l4 : F201.t_l4) (a0 : wtI3) (a1 : wtI3) : Option (wtI3 × (Bool)) :=
  s_l4 a0 a1 ([]) (0 : Int) (0 : Int)
def F201 (N : Nat) (a0 : wtI3) (a1 : wtI3) : Option (wtI3 × (Bool)) := F201.b N (F201.l4 N N) a0 a1

abbrev F237.t_l3 := Int → Int → Int → wtPart → vtBig → Bool → Int → Option ((Int) × (Bool))
def F237.l3b (N : Nat) (k_l3 : F237.t_l3) (x0 : Int) (x1 : Int) (x2 : Int) (x3 : wtPart) (x10 : vtBig) (x11 : Bool) (x12 : Int) : Option ((Int) × (Bool)) :=
  cond (ltB x12 (List.length x3 : Int)) (cond (inb x12 (List.length x3)) (cond (eqB ((List.getD x3 x12.toNat ((0 : Int), ((0 : Int), ((false, zzB), ())))).1) x1) (cond (inb x12 (List.length x3)) (cond (eqB (((List.getD x3 x12.toNat ((0 : Int), ((0 : Int), ((false, zzB), ())))).2).1) x2) (cond (inb x12 (List.length x3)) ((F85 N x10 ((((List.getD x3 x12.toNat ((0 : Int), ((0 : Int), ((false, zzB), ())))).2).2).1)).bind fun r2 => k_l3 x0 x1 x2 x3 r2 true (W .i64 (x12 + 1))) (none)) (k_l3 x0 x1 x2 x3 x10 x11 (W .i64 (x12 + 1)))) (none)) (k_l3 x0 x1 x2 x3 x10 x11 (W .i64 (x12 + 1)))) (none)) (cond (!x11) (some (x0, true)) ((F87 N x0).bind fun r6 => (F85 N x10 r6).bind fun r7 => (F91 N r7).bind fun r8 => some (r8.1, r8.2)))
def F237.l3 (N : Nat) : Nat → F237.t_l3
  | 0, _, _, _, _, _, _, _ => none
  | n + 1, x0, x1, x2, x3, x10, x11, x12 => F237.l3b N (F237.l3 N n) x0 x1 x2 x3 x10 x11 x12
def F237.b (N : Nat) (s_l3 : F237.t_l3) (a0 : Int) (a1 : Int) (a2 : Int) (a3 : wtPart) : Option ((Int) × (Bool)) :=
  s_l3 a0 a1 a2 a3 (false, zzB) false (0 : Int)
def F237 (N : Nat) (a0 : Int) (a1 : Int) (a2 : Int) (a3 : wtPart) : Option ((Int) × (Bool)) := F237.b N (F237.l3 N N) a0 a1 a2 a3

abbrev F202.t_j13 := wtI3 → wtPart → wtI3 → Int → Int → Int → Int → Option (wtI3 × (Bool))
abbrev F202.t_l7 := wtI3 → wtPart → wtI3 → Int → Int → Int → Option (wtI3 × (Bool))
abbrev F202.t_l4 := wtI3 → wtPart → wtI3 → Int → Int → Option (wtI3 × (Bool))
def F202.j13b (N : Nat) (k_l4 : F202.t_l4) (k_l7 : F202.t_l7) (x0 : wtI3) (x1 : wtPart) (x6 : wtI3) (x7 : Int) (x8 : Int) (x9 : Int) (x10 : Int) : Option (wtI3 × (Bool)) :=
  (F237 N x10 x8 x9 x1).bind fun r5 => cond (!r5.2) (some ([], false)) (cond (!eqB r5.1 0) (cond (small (List.length x6 + List.length ([(x8, (x9, (r5.1, ())))]))) (k_l7 x0 x1 (x6 ++ ([(x8, (x9, (r5.1, ())))])) x7 x8 (W .i64 (x9 + 1))) (none)) (k_l7 x0 x1 x6 x7 x8 (W .i64 (x9 + 1))))
def F202.j13 (N : Nat) (k_l4 : F202.t_l4) (k_l7 : F202.t_l7) (x0 : wtI3) (x1 : wtPart) (x6 : wtI3) (x7 : Int) (x8 : Int) (x9 : Int) (x10 : Int) : Option (wtI3 × (Bool)) := F202.j13b N k_l4 k_l7 x0 x1 x6 x7 x8 x9 x10
def F202.l7b (N : Nat) (s_j13 : F202.t_j13) (k_l4 : F202.t_l4) (k_l7 : F202.t_l7) (x0 : wtI3) (x1 : wtPart) (x6 : wtI3) (x7 : Int) (x8 : Int) (x9 : Int) : Option (wtI3 × (Bool)) :=
  cond (leB x9 24) (cond (ltB x7 (List.length x0 : Int)) (cond (inb x7 (List.length x0)) (cond (eqB ((List.getD x0 x7.toNat zz3).1) x8) (cond (inb x7 (List.length x0)) (cond (eqB (((List.getD x0 x7.toNat zz3).2).1) x9) (cond (inb x7 (List.length x0)) (s_j13 x0 x1 x6 (W .i64 (x7 + 1)) x8 x9 ((((List.getD x0 x7.toNat zz3).2).2).1)) (none)) (s_j13 x0 x1 x6 x7 x8 x9 (0 : Int))) (none)) (s_j13 x0 x1 x6 x7 x8 x9 (0 : Int))) (none)) (s_j13 x0 x1 x6 x7 x8 x9 (0 : Int))) (k_l4 x0 x1 x6 x7 (W .i64 (x8 + 1)))
def F202.l7 (N : Nat) (k_l4 : F202.t_l4) : Nat → F202.t_l7
  | 0, _, _, _, _, _, _ => none
  | n + 1, x0, x1, x6, x7, x8, x9 => F202.l7b N (F202.j13 N k_l4 (F202.l7 N k_l4 n)) k_l4 (F202.l7 N k_l4 n) x0 x1 x6 x7 x8 x9
def F202.l4b (N : Nat) (s_l7 : F202.t_l7) (k_l4 : F202.t_l4) (x0 : wtI3) (x1 : wtPart) (x6 : wtI3) (x7 : Int) (x8 : Int) : Option (wtI3 × (Bool)) :=
  cond (leB x8 7) (s_l7 x0 x1 x6 x7 x8 (0 : Int)) (some (x6, true))
def F202.l4 (N : Nat) : Nat → F202.t_l4
  | 0, _, _, _, _, _ => none
  | n + 1, x0, x1, x6, x7, x8 => F202.l4b N (F202.l7 N (F202.l4 N n) N) (F202.l4 N n) x0 x1 x6 x7 x8
def F202.b (N : Nat) (s_l4 : F202.t_l4) (a0 : wtI3) (a1 : wtPart) : Option (wtI3 × (Bool)) :=
  s_l4 a0 a1 ([]) (0 : Int) (1 : Int)
def F202 (N : Nat) (a0 : wtI3) (a1 : wtPart) : Option (wtI3 × (Bool)) := F202.b N (F202.l4 N N) a0 a1

def F122 (N : Nat) (a0 : vtBook) (a1 : wtI3) (a2 : wtPart) : Option (vtBook × (Int)) :=
  (F201 N a0.2.2.2.1 a1).bind fun r1 => cond (!r1.2) (some ((ee2, (ee4, (ee3, (ee3, (eeI, (ee6, ())))))), (2 : Int))) ((F202 N a0.2.2.1 a2).bind fun r2 => cond (!r2.2) (some ((ee2, (ee4, (ee3, (ee3, (eeI, (ee6, ())))))), (2 : Int))) (some ((a0.1, (a0.2.1, (r2.1, (r1.1, a0.2.2.2.2)))), (0 : Int))))

abbrev F46.t_l11 := wtI5 → vtConfig → vtBook → vtBook → wtI3 → wtPart → Int → Option (vtBook × (Int))
abbrev F46.t_l4 := wtI5 → vtConfig → vtBook → vtBook → Int → Option (vtBook × (Int))
def F46.l11b (N : Nat) (k_l11 : F46.t_l11) (x2 : wtI5) (x3 : vtConfig) (x4 : vtBook) (x6 : vtBook) (x9 : wtI3) (x10 : wtPart) (x11 : Int) : Option (vtBook × (Int)) :=
  cond (ltB x11 (List.length x2 : Int)) (cond (inb x11 (List.length x2)) ((F120 N x4 ((List.getD x2 x11.toNat zz5).1)).bind fun r6 => cond (!r6) (some ((ee2, (ee4, (ee3, (ee3, (eeI, (ee6, ())))))), (3 : Int))) ((F120 N x4 (((List.getD x2 x11.toNat zz5).2).1)).bind fun r7 => cond (!r7) (some ((ee2, (ee4, (ee3, (ee3, (eeI, (ee6, ())))))), (3 : Int))) (cond (leB (List.length x3.1 : Int) ((((List.getD x2 x11.toNat zz5).2).2).1)) (some ((ee2, (ee4, (ee3, (ee3, (eeI, (ee6, ())))))), (3 : Int))) (let v8 : Int := W .i64 (0 - (((((List.getD x2 x11.toNat zz5).2).2).2).1)); cond (small (List.length x9 + List.length ([((List.getD x2 x11.toNat zz5).1, ((((List.getD x2 x11.toNat zz5).2).2).1, (((((List.getD x2 x11.toNat zz5).2).2).2).1, ()))), (((List.getD x2 x11.toNat zz5).2).1, ((((List.getD x2 x11.toNat zz5).2).2).1, (v8, ())))]))) (cond (inb ((((List.getD x2 x11.toNat zz5).2).2).1) (List.length x4.2.2.2.2.1)) ((F121 N (List.getD x2 x11.toNat zz5) (List.getD x4.2.2.2.2.1 ((((List.getD x2 x11.toNat zz5).2).2).1).toNat (0 : Int))).bind fun r10 => cond (small (List.length x10 + List.length r10.1)) (k_l11 x2 x3 x4 x6 (x9 ++ ([((List.getD x2 x11.toNat zz5).1, ((((List.getD x2 x11.toNat zz5).2).2).1, (((((List.getD x2 x11.toNat zz5).2).2).2).1, ()))), (((List.getD x2 x11.toNat zz5).2).1, ((((List.getD x2 x11.toNat zz5).2).2).1, (v8, ())))])) (x10 ++ r10.1) (W .i64 (x11 + 1))) (none)) (none)) (none))))) (none)) ((F122 N x4 x9 x10).bind fun r13 => some (r13.1, r13.2))
def F46.l11 (N : Nat) : Nat → F46.t_l11
  | 0, _, _, _, _, _, _, _ => none
  | n + 1, x2, x3, x4, x6, x9, x10, x11 => F46.l11b N (F46.l11 N n) x2 x3 x4 x6 x9 x10 x11
def F46.l4b (N : Nat) (s_l11 : F46.t_l11) (k_l4 : F46.t_l4) (x2 : wtI5) (x3 : vtConfig) (x4 : vtBook) (x6 : vtBook) (x8 : Int) : Option (vtBook × (Int)) :=
  cond (ltB x8 (List.length x2 : Int)) (cond (inb x8 (List.length x2)) ((F119 N (List.getD x2 x8.toNat zz5)).bind fun r3 => cond (!r3) (some ((ee2, (ee4, (ee3, (ee3, (eeI, (ee6, ())))))), (1 : Int))) (k_l4 x2 x3 x4 x6 (W .i64 (x8 + 1)))) (none)) (s_l11 x2 x3 x4 x6 ([]) ([]) (0 : Int))
def F46.l4 (N : Nat) : Nat → F46.t_l4
  | 0, _, _, _, _, _ => none
  | n + 1, x2, x3, x4, x6, x8 => F46.l4b N (F46.l11 N N) (F46.l4 N n) x2 x3 x4 x6 x8
def F46.b (N : Nat) (s_l4 : F46.t_l4) (a0 : vtConfig) (a1 : vtBook) (a2 : wtI5) : Option (vtBook × (Int)) :=
  (F52 N a0 a1).bind fun r1 => cond (!r1) (some ((ee2, (ee4, (ee3, (ee3, (eeI, (ee6, ())))))), (1 : Int))) (cond (ltB 200 (List.length a2 : Int)) (some ((ee2, (ee4, (ee3, (ee3, (eeI, (ee6, ())))))), (1 : Int))) (s_l4 a2 a0 a1 (ee2, (ee4, (ee3, (ee3, (eeI, (ee6, ())))))) (0 : Int)))
def F46 (N : Nat) (a0 : vtConfig) (a1 : vtBook) (a2 : wtI5) : Option (vtBook × (Int)) := F46.b N (F46.l4 N N) a0 a1 a2

abbrev F70.t_j14 := Int → vtConfig → vtBook → vtI4 → vtBook → vtI4 → vtI5 → Option (vtBook × vtI4 × (Int))
def F70.j14b (N : Nat) (x4 : Int) (x6 : vtConfig) (x7 : vtBook) (x8 : vtI4) (x12 : vtBook) (x13 : vtI4) (x17 : vtI5) : Option (vtBook × vtI4 × (Int)) :=
  (F46 N x6 x7 ([x17])).bind fun r6 => cond (!eqB r6.2 0) (some ((ee2, (ee4, (ee3, (ee3, (eeI, (ee6, ())))))), zz4, r6.2)) (some (r6.1, (x8.1, (x8.2.1, (x8.2.2.1, ((W .i64 (x8.2.2.2.1 - x4)), x8.2.2.2.2)))), (0 : Int)))
def F70.j14 (N : Nat) (x4 : Int) (x6 : vtConfig) (x7 : vtBook) (x8 : vtI4) (x12 : vtBook) (x13 : vtI4) (x17 : vtI5) : Option (vtBook × vtI4 × (Int)) := F70.j14b N x4 x6 x7 x8 x12 x13 x17
def F70.b (N : Nat) (s_j14 : F70.t_j14) (a0 : vtConfig) (a1 : vtBook) (a2 : vtI4) (a3 : Int) (a4 : Int) (a5 : Int) : Option (vtBook × vtI4 × (Int)) :=
  (F52 N a0 a1).bind fun r1 => cond (!r1) (some ((ee2, (ee4, (ee3, (ee3, (eeI, (ee6, ())))))), zz4, (1 : Int))) ((F72 N a2).bind fun r2 => cond (!r2) (some ((ee2, (ee4, (ee3, (ee3, (eeI, (ee6, ())))))), zz4, (1 : Int))) (cond (ltB a4 1) (some ((ee2, (ee4, (ee3, (ee3, (eeI, (ee6, ())))))), zz4, (1 : Int))) (cond (ltB 1000000000 a4) (some ((ee2, (ee4, (ee3, (ee3, (eeI, (ee6, ())))))), zz4, (1 : Int))) (cond (ltB a5 1) (some ((ee2, (ee4, (ee3, (ee3, (eeI, (ee6, ())))))), zz4, (1 : Int))) (cond (ltB 1000000000000 a5) (some ((ee2, (ee4, (ee3, (ee3, (eeI, (ee6, ())))))), zz4, (1 : Int))) (cond (ltB a2.2.2.2.1 a4) (some ((ee2, (ee4, (ee3, (ee3, (eeI, (ee6, ())))))), zz4, (9 : Int))) (cond (ltB a3 1) (some ((ee2, (ee4, (ee3, (ee3, (eeI, (ee6, ())))))), zz4, (1 : Int))) (cond (ltB 24 a3) (some ((ee2, (ee4, (ee3, (ee3, (eeI, (ee6, ())))))), zz4, (1 : Int))) ((F62 N a0 a1 (a2.1, (a3, (a2.2.1, ((W .i64 ((3 : Int) - a2.2.2.1)), (a4, (a5, ()))))))).bind fun r4 => cond (!eqB r4 0) (some ((ee2, (ee4, (ee3, (ee3, (eeI, (ee6, ())))))), zz4, r4)) (cond (eqB a2.2.2.1 2) (s_j14 a4 a0 a1 a2 (ee2, (ee4, (ee3, (ee3, (eeI, (ee6, ())))))) zz4 (a3, ((0 : Int), (a2.2.1, (a4, (a5, ())))))) (s_j14 a4 a0 a1 a2 (ee2, (ee4, (ee3, (ee3, (eeI, (ee6, ())))))) zz4 ((0 : Int), (a3, (a2.2.1, (a4, (a5, ()))))))))))))))))
def F70 (N : Nat) (a0 : vtConfig) (a1 : vtBook) (a2 : vtI4) (a3 : Int) (a4 : Int) (a5 : Int) : Option (vtBook × vtI4 × (Int)) := F70.b N (F70.j14 N) a0 a1 a2 a3 a4 a5

abbrev F71.t_l4 := wtI4 → wtI4 → Int → Option (Bool)
def F71.l4b (N : Nat) (k_l4 : F71.t_l4) (x0 : wtI4) (x1 : wtI4) (x5 : Int) : Option (Bool) :=
  cond (ltB x5 (List.length x0 : Int)) (cond (inb x5 (List.length x0)) (cond (inb x5 (List.length x1)) (cond (!(teq (.pair (.int .i64) (.pair (.int .i64) (.pair (.int .i64) (.pair (.int .i64) .unit)))) (List.getD x0 x5.toNat zz4) (List.getD x1 x5.toNat zz4))) (some false) (k_l4 x0 x1 (W .i64 (x5 + 1)))) (none)) (none)) (some true)
def F71.l4 (N : Nat) : Nat → F71.t_l4
  | 0, _, _, _ => none
  | n + 1, x0, x1, x5 => F71.l4b N (F71.l4 N n) x0 x1 x5
def F71.b (N : Nat) (s_l4 : F71.t_l4) (a0 : wtI4) (a1 : wtI4) : Option (Bool) :=
  cond (!eqB (List.length a0 : Int) (List.length a1 : Int)) (some false) (s_l4 a0 a1 (0 : Int))
def F71 (N : Nat) (a0 : wtI4) (a1 : wtI4) : Option (Bool) := F71.b N (F71.l4 N N) a0 a1

def F131 (N : Nat) (a0 : vtWide) : Option vtBig :=
  (F87 N a0.1).bind fun r1 => (F169 N false ([(0 : Int), (0 : Int), (1 : Int)])).bind fun r2 => (F150 N r1 r2).bind fun r3 => (F173 N a0.2.1).bind fun r4 => (F169 N false r4).bind fun r5 => (F85 N r3 r5).bind fun r6 => some r6

def F51 (N : Nat) (a0 : vtWide) (a1 : vtBig) : Option (Bool) :=
  (F131 N a0).bind fun r1 => (F130 N r1 a1).bind fun r2 => some (eqB r2 0)

abbrev F42.t_l4 := wtI2 → wtI2 → Int → Option (Bool)
def F42.l4b (N : Nat) (k_l4 : F42.t_l4) (x0 : wtI2) (x1 : wtI2) (x5 : Int) : Option (Bool) :=
  cond (ltB x5 (List.length x0 : Int)) (cond (inb x5 (List.length x0)) (cond (inb x5 (List.length x1)) (cond (!(teq (.pair (.int .i64) (.pair (.int .i64) .unit)) (List.getD x0 x5.toNat zz2) (List.getD x1 x5.toNat zz2))) (some false) (k_l4 x0 x1 (W .i64 (x5 + 1)))) (none)) (none)) (some true)
def F42.l4 (N : Nat) : Nat → F42.t_l4
  | 0, _, _, _ => none
  | n + 1, x0, x1, x5 => F42.l4b N (F42.l4 N n) x0 x1 x5
def F42.b (N : Nat) (s_l4 : F42.t_l4) (a0 : wtI2) (a1 : wtI2) : Option (Bool) :=
  cond (!eqB (List.length a0 : Int) (List.length a1 : Int)) (some false) (s_l4 a0 a1 (0 : Int))
def F42 (N : Nat) (a0 : wtI2) (a1 : wtI2) : Option (Bool) := F42.b N (F42.l4 N N) a0 a1

abbrev F43.t_l4 := wtI4 → wtI4 → Int → Option (Bool)
def F43.l4b (N : Nat) (k_l4 : F43.t_l4) (x0 : wtI4) (x1 : wtI4) (x5 : Int) : Option (Bool) :=
  cond (ltB x5 (List.length x0 : Int)) (cond (inb x5 (List.length x0)) (cond (inb x5 (List.length x1)) (cond (!(teq (.pair (.int .i64) (.pair (.int .i64) (.pair (.int .i64) (.pair (.int .i64) .unit)))) (List.getD x0 x5.toNat zz4) (List.getD x1 x5.toNat zz4))) (some false) (k_l4 x0 x1 (W .i64 (x5 + 1)))) (none)) (none)) (some true)
def F43.l4 (N : Nat) : Nat → F43.t_l4
  | 0, _, _, _ => none
  | n + 1, x0, x1, x5 => F43.l4b N (F43.l4 N n) x0 x1 x5
def F43.b (N : Nat) (s_l4 : F43.t_l4) (a0 : wtI4) (a1 : wtI4) : Option (Bool) :=
  cond (!eqB (List.length a0 : Int) (List.length a1 : Int)) (some false) (s_l4 a0 a1 (0 : Int))
def F43 (N : Nat) (a0 : wtI4) (a1 : wtI4) : Option (Bool) := F43.b N (F43.l4 N N) a0 a1

abbrev F35.t_l4 := wtI3 → wtI3 → Int → Option (Bool)
def F35.l4b (N : Nat) (k_l4 : F35.t_l4) (x0 : wtI3) (x1 : wtI3) (x5 : Int) : Option (Bool) :=
  cond (ltB x5 (List.length x0 : Int)) (cond (inb x5 (List.length x0)) (cond (inb x5 (List.length x1)) (cond (!(teq (.pair (.int .i64) (.pair (.int .i64) (.pair (.int .i64) .unit))) (List.getD x0 x5.toNat zz3) (List.getD x1 x5.toNat zz3))) (some false) (k_l4 x0 x1 (W .i64 (x5 + 1)))) (none)) (none)) (some true)
def F35.l4 (N : Nat) : Nat → F35.t_l4
  | 0, _, _, _ => none
  | n + 1, x0, x1, x5 => F35.l4b N (F35.l4 N n) x0 x1 x5
def F35.b (N : Nat) (s_l4 : F35.t_l4) (a0 : wtI3) (a1 : wtI3) : Option (Bool) :=
  cond (!eqB (List.length a0 : Int) (List.length a1 : Int)) (some false) (s_l4 a0 a1 (0 : Int))
def F35 (N : Nat) (a0 : wtI3) (a1 : wtI3) : Option (Bool) := F35.b N (F35.l4 N N) a0 a1

abbrev F44.t_l4 := wtI3 → wtI3 → Int → Option (Bool)
def F44.l4b (N : Nat) (k_l4 : F44.t_l4) (x0 : wtI3) (x1 : wtI3) (x5 : Int) : Option (Bool) :=
  cond (ltB x5 (List.length x0 : Int)) (cond (inb x5 (List.length x0)) (cond (inb x5 (List.length x1)) (cond (!(teq (.pair (.int .i64) (.pair (.int .i64) (.pair (.int .i64) .unit))) (List.getD x0 x5.toNat zz3) (List.getD x1 x5.toNat zz3))) (some false) (k_l4 x0 x1 (W .i64 (x5 + 1)))) (none)) (none)) (some true)
def F44.l4 (N : Nat) : Nat → F44.t_l4
  | 0, _, _, _ => none
  | n + 1, x0, x1, x5 => F44.l4b N (F44.l4 N n) x0 x1 x5
def F44.b (N : Nat) (s_l4 : F44.t_l4) (a0 : wtI3) (a1 : wtI3) : Option (Bool) :=
  cond (!eqB (List.length a0 : Int) (List.length a1 : Int)) (some false) (s_l4 a0 a1 (0 : Int))
def F44 (N : Nat) (a0 : wtI3) (a1 : wtI3) : Option (Bool) := F44.b N (F44.l4 N N) a0 a1

abbrev F36.t_l4 := (List (Int)) → (List (Int)) → Int → Option (Bool)
def F36.l4b (N : Nat) (k_l4 : F36.t_l4) (x0 : List (Int)) (x1 : List (Int)) (x5 : Int) : Option (Bool) :=
  cond (ltB x5 (List.length x0 : Int)) (cond (inb x5 (List.length x0)) (cond (inb x5 (List.length x1)) (cond (!eqB (List.getD x0 x5.toNat (0 : Int)) (List.getD x1 x5.toNat (0 : Int))) (some false) (k_l4 x0 x1 (W .i64 (x5 + 1)))) (none)) (none)) (some true)
def F36.l4 (N : Nat) : Nat → F36.t_l4
  | 0, _, _, _ => none
  | n + 1, x0, x1, x5 => F36.l4b N (F36.l4 N n) x0 x1 x5
def F36.b (N : Nat) (s_l4 : F36.t_l4) (a0 : List (Int)) (a1 : List (Int)) : Option (Bool) :=
  cond (!eqB (List.length a0 : Int) (List.length a1 : Int)) (some false) (s_l4 a0 a1 (0 : Int))
def F36 (N : Nat) (a0 : List (Int)) (a1 : List (Int)) : Option (Bool) := F36.b N (F36.l4 N N) a0 a1

abbrev F45.t_l4 := wtI6 → wtI6 → Int → Option (Bool)
def F45.l4b (N : Nat) (k_l4 : F45.t_l4) (x0 : wtI6) (x1 : wtI6) (x5 : Int) : Option (Bool) :=
  cond (ltB x5 (List.length x0 : Int)) (cond (inb x5 (List.length x0)) (cond (inb x5 (List.length x1)) (cond (!(teq (.pair (.int .i64) (.pair (.int .i64) (.pair (.int .i64) (.pair (.int .i64) (.pair (.int .i64) (.pair (.int .i64) .unit)))))) (List.getD x0 x5.toNat zz6) (List.getD x1 x5.toNat zz6))) (some false) (k_l4 x0 x1 (W .i64 (x5 + 1)))) (none)) (none)) (some true)
def F45.l4 (N : Nat) : Nat → F45.t_l4
  | 0, _, _, _ => none
  | n + 1, x0, x1, x5 => F45.l4b N (F45.l4 N n) x0 x1 x5
def F45.b (N : Nat) (s_l4 : F45.t_l4) (a0 : wtI6) (a1 : wtI6) : Option (Bool) :=
  cond (!eqB (List.length a0 : Int) (List.length a1 : Int)) (some false) (s_l4 a0 a1 (0 : Int))
def F45 (N : Nat) (a0 : wtI6) (a1 : wtI6) : Option (Bool) := F45.b N (F45.l4 N N) a0 a1

def F13 (N : Nat) (a0 : vtBook) (a1 : vtBook) : Option (Bool) :=
  (F42 N a0.1 a1.1).bind fun r1 => cond (r1) ((F43 N a0.2.1 a1.2.1).bind fun r2 => cond (r2) ((F35 N a0.2.2.1 a1.2.2.1).bind fun r3 => cond (r3) ((F44 N a0.2.2.2.1 a1.2.2.2.1).bind fun r4 => cond (r4) ((F36 N a0.2.2.2.2.1 a1.2.2.2.2.1).bind fun r5 => cond (r5) ((F45 N a0.2.2.2.2.2.1 a1.2.2.2.2.2.1).bind fun r6 => some r6) (some false)) (some false)) (some false)) (some false)) (some false)

abbrev F18.t_l10 := vtI4 → wtWide → wtBig → vtBook → vtBook → Int → Option (Bool)
def F18.l10b (N : Nat) (k_l10 : F18.t_l10) (x9 : vtI4) (x15 : wtWide) (x17 : wtBig) (x23 : vtBook) (x26 : vtBook) (x29 : Int) : Option (Bool) :=
  cond (ltB x29 (List.length x15 : Int)) (cond (inb x29 (List.length x15)) (cond (inb x29 (List.length x17)) ((F51 N (List.getD x15 x29.toNat zz2) (List.getD x17 x29.toNat (false, zzB))).bind fun r9 => cond (!r9) (some false) (k_l10 x9 x15 x17 x23 x26 (W .i64 (x29 + 1)))) (none)) (none)) ((F13 N x23 x26).bind fun r11 => cond (r11) ((F67 N x9).bind fun r12 => (F72 N x9).bind fun r13 => some (teq .bool r12 r13)) (some false))
def F18.l10 (N : Nat) : Nat → F18.t_l10
  | 0, _, _, _, _, _, _ => none
  | n + 1, x9, x15, x17, x23, x26, x29 => F18.l10b N (F18.l10 N n) x9 x15 x17 x23 x26 x29
def F18.b (N : Nat) (s_l10 : F18.t_l10) (a0 : vtConfig) (a1 : vtBook) (a2 : vtI4) (a3 : Int) (a4 : Int) (a5 : Int) (a6 : Int) : Option (Bool) :=
  (F64 N a0 a1).bind fun r1 => (F68 N a0 a1).bind fun r2 => (F65 N a0 a1 a3).bind fun r3 => (F69 N a0 a1 a3).bind fun r4 => (F66 N a0 a1 a2 a4 a5 a6).bind fun r5 => (F70 N a0 a1 a2 a4 a5 a6).bind fun r6 => cond (!eqB r1.2 r2.2) (some false) (cond (!eqB r3.2 r4.2) (some false) (cond (!eqB r5.2.2 r6.2.2) (some false) (cond (!eqB (List.length r1.1 : Int) (List.length r2.1 : Int)) (some false) ((F71 N r3.1 r4.1).bind fun r7 => cond (!r7) (some false) (cond (!(teq (.pair (.int .i64) (.pair (.int .i64) (.pair (.int .i64) (.pair (.int .i64) .unit)))) r5.2.1 r6.2.1)) (some false) (s_l10 a2 r1.1 r2.1 r5.1 r6.1 (0 : Int)))))))
def F18 (N : Nat) (a0 : vtConfig) (a1 : vtBook) (a2 : vtI4) (a3 : Int) (a4 : Int) (a5 : Int) (a6 : Int) : Option (Bool) := F18.b N (F18.l10 N N) a0 a1 a2 a3 a4 a5 a6

def F6 (N : Nat) (a0 : vtConfig) (a1 : vtBook) (a2 : vtI4) (a3 : Int) (a4 : Int) (a5 : Int) (a6 : Int) : Option (Bool) :=
  (F17 N ).bind fun r1 => cond (!r1) (some false) (cond (ltB 10 (List.length a0.1 : Int)) (some true) (cond (ltB 16 (List.length a1.1 : Int)) (some true) (cond (ltB 30 (List.length a1.2.1 : Int)) (some true) (cond (ltB 60 (List.length a1.2.2.1 : Int)) (some true) (cond (ltB 60 (List.length a1.2.2.2.1 : Int)) (some true) (cond (ltB 10 (List.length a1.2.2.2.2.1 : Int)) (some true) (cond (ltB 40 (List.length a1.2.2.2.2.2.1 : Int)) (some true) ((F18 N a0 a1 a2 a3 a4 a5 a6).bind fun r2 => some r2))))))))

end
end VM.F
