/- A part of the proof of the six laws of layer 3: the functions as equations between values, printed by a program. -/
import Derived.Test.YtmapbngbgfdpfaaVm0
set_option linter.all false
namespace VM.F
open Go VM
set_option linter.unusedVariables false
set_option maxRecDepth 100000
abbrev terrorAddressString : Ty := (.pair .str (.pair (.int .u64) .unit))
abbrev tWide : Ty := (.pair (.int .i64) (.pair (.int .u64) .unit))
abbrev tBig : Ty := (.pair .bool (.pair (.slice (.int .u64)) .unit))
abbrev tboundsError : Ty := (.pair (.int .i64) (.pair (.int .i64) (.pair .bool (.pair (.int .u8) .unit))))

/-! ### math/bits.Mul64: function 53 -/
noncomputable def bits_Mul64 (N : Nat) (a0 : Int) (a1 : Int) : Option ((Int) × (Int)) :=
  let v1 : Int := bitw .and .u64 a0 (4294967295 : Int); cond (ltB (32 : Int) 0) (none) (let v2 : Int := shr .u64 a0 (32 : Int); let v3 : Int := bitw .and .u64 a1 (4294967295 : Int); cond (ltB (32 : Int) 0) (none) (let v4 : Int := shr .u64 a1 (32 : Int); cond (ltB (32 : Int) 0) (none) (let v8 : Int := W .u64 ((W .u64 (v2 * v3)) + (shr .u64 (W .u64 (v1 * v3)) (32 : Int))); cond (ltB (32 : Int) 0) (none) (cond (ltB (32 : Int) 0) (none) (some ((W .u64 ((W .u64 ((W .u64 (v2 * v4)) + (shr .u64 v8 (32 : Int)))) + (shr .u64 (W .u64 ((bitw .and .u64 v8 (4294967295 : Int)) + (W .u64 (v1 * v4)))) (32 : Int)))), (W .u64 (a0 * a1))))))))

/-! ### math/bits.Mul: function 56 -/
noncomputable def bits_Mul (N : Nat) (a0 : Int) (a1 : Int) : Option ((Int) × (Int)) :=
  (bits_Mul64 N a0 a1).bind fun r1 => some (r1.1, r1.2)

/-! ### novation/share.may$1: function 48 -/
noncomputable def share_may_1 (N : Nat) (a0 : Int) : Option ((Bool)) :=
  some (ltB a0 (0 : Int))

/-! ### slices.IndexFunc[[]int64,int64]: function 60 -/
noncomputable def slices_IndexFunc_int64_int64.l2b (N : Nat) (k_l2 : (List (Int)) → (Unit) → (Int) → (Int) → Option ((Int))) (x0 : List (Int)) (x1 : Unit) (x7 : Int) (x8 : Int) : Option ((Int)) :=
  cond (ltB x8 x7) (cond (inb x8 (List.length x0)) ((share_may_1 N (List.getD x0 x8.toNat (0 : Int))).bind fun r2 => cond (r2) (some x8) (k_l2 x0 () x7 (W .i64 (x8 + (1 : Int))))) (none)) (some (-1 : Int))
noncomputable def slices_IndexFunc_int64_int64.l2 (N : Nat) : Nat → (List (Int)) → (Unit) → (Int) → (Int) → Option ((Int))
  | 0, _, _, _, _ => none
  | n + 1, x0, x1, x7, x8 => slices_IndexFunc_int64_int64.l2b N (slices_IndexFunc_int64_int64.l2 N n) x0 x1 x7 x8
noncomputable def slices_IndexFunc_int64_int64.b (N : Nat) (s_l2 : (List (Int)) → (Unit) → (Int) → (Int) → Option ((Int))) (a0 : List (Int)) (a1 : Unit) : Option ((Int)) :=
  s_l2 a0 () (List.length a0 : Int) (0 : Int)
noncomputable def slices_IndexFunc_int64_int64 (N : Nat) (a0 : List (Int)) (a1 : Unit) : Option ((Int)) :=
  slices_IndexFunc_int64_int64.b N (slices_IndexFunc_int64_int64.l2 N N) a0 a1

/-! ### slices.ContainsFunc[[]int64,int64]: function 47 -/
noncomputable def slices_ContainsFunc_int64_int64 (N : Nat) (a0 : List (Int)) (a1 : Unit) : Option ((Bool)) :=
  (slices_IndexFunc_int64_int64 N a0 ()).bind fun r1 => some (leB (0 : Int) r1)

/-! ### novation/share.may: function 29 -/
noncomputable def share_may (N : Nat) (a0 : List (Int)) : Option ((Bool)) :=
  cond (leB (List.length a0 : Int) (64 : Int)) ((slices_ContainsFunc_int64_int64 N a0 ()).bind fun r1 => some (!r1)) (some false)

/-! ### novation/amount.Sum: function 30 -/
noncomputable def amount_Sum.l3b (N : Nat) (k_l3 : (Int) → (Int) → (List (Int)) → (Int) → (Int) → Option ((Int) × (Bool))) (x4 : Int) (x5 : Int) (x10 : List (Int)) (x11 : Int) (x12 : Int) : Option ((Int) × (Bool)) :=
  cond (ltB x12 x11) (cond (inb x12 (List.length x10)) ((add64 N x5 (W .u64 (List.getD x10 x12.toNat (0 : Int))) (0 : Int)).bind fun r3 => cond (ltB (63 : Int) 0) (none) (k_l3 (W .i64 ((W .i64 (x4 + (shr .i64 (List.getD x10 x12.toNat (0 : Int)) (63 : Int)))) + (W .i64 r3.2))) r3.1 x10 x11 (W .i64 (x12 + (1 : Int))))) (none)) (cond (ltB (63 : Int) 0) (none) (cond (!eqB x4 (shr .i64 (W .i64 x5) (63 : Int))) (some ((0 : Int), false)) (some ((W .i64 x5), true))))
noncomputable def amount_Sum.l3 (N : Nat) : Nat → (Int) → (Int) → (List (Int)) → (Int) → (Int) → Option ((Int) × (Bool))
  | 0, _, _, _, _, _ => none
  | n + 1, x4, x5, x10, x11, x12 => amount_Sum.l3b N (amount_Sum.l3 N n) x4 x5 x10 x11 x12
noncomputable def amount_Sum.b (N : Nat) (s_l3 : (Int) → (Int) → (List (Int)) → (Int) → (Int) → Option ((Int) × (Bool))) (a0 : List (Int)) : Option ((Int) × (Bool)) :=
  s_l3 (0 : Int) (0 : Int) a0 (List.length a0 : Int) (0 : Int)
noncomputable def amount_Sum (N : Nat) (a0 : List (Int)) : Option ((Int) × (Bool)) :=
  amount_Sum.b N (amount_Sum.l3 N N) a0

/-! ### novation/amount.Size: function 54 -/
noncomputable def amount_Size (N : Nat) (a0 : Int) : Option ((Int)) :=
  cond (ltB a0 (0 : Int)) (some (W .u64 (0 - (W .u64 a0)))) (some (W .u64 a0))

/-! ### novation/wide.signed: function 52 -/
noncomputable def wide_signed.j7b (N : Nat) (x1 : Int) (x2 : Int) (x6 : Ty.den tWide) : Option ((Ty.den tWide) × (Bool)) :=
  (sub64 N (0 : Int) x2 (0 : Int)).bind fun r3 => (sub64 N (0 : Int) x1 r3.2).bind fun r4 => some (((W .i64 r4.1), (r3.1, ())), true)
noncomputable def wide_signed.j7 (N : Nat) (x1 : Int) (x2 : Int) (x6 : Ty.den tWide) : Option ((Ty.den tWide) × (Bool)) :=
  wide_signed.j7b N x1 x2 x6
noncomputable def wide_signed.b (N : Nat) (s_j7 : (Int) → (Int) → (Ty.den tWide) → Option ((Ty.den tWide) × (Bool))) (a0 : Bool) (a1 : Int) (a2 : Int) : Option ((Ty.den tWide) × (Bool)) :=
  cond (!a0) (cond (leB (9223372036854775808 : Int) a1) (some (((0 : Int), ((0 : Int), ())), false)) (some (((W .i64 a1), (a2, ())), true))) (cond (ltB (9223372036854775808 : Int) a1) (some (((0 : Int), ((0 : Int), ())), false)) (cond (eqB a1 (9223372036854775808 : Int)) (cond (ltB (0 : Int) a2) (some (((0 : Int), ((0 : Int), ())), false)) (s_j7 a1 a2 ((0 : Int), ((0 : Int), ())))) (s_j7 a1 a2 ((0 : Int), ((0 : Int), ())))))
noncomputable def wide_signed (N : Nat) (a0 : Bool) (a1 : Int) (a2 : Int) : Option ((Ty.den tWide) × (Bool)) :=
  wide_signed.b N (wide_signed.j7 N) a0 a1 a2

/-! ### novation/wide.Mul: function 32 -/
noncomputable def wide_Mul (N : Nat) (a0 : Int) (a1 : Int) : Option ((Ty.den tWide)) :=
  (amount_Size N a0).bind fun r1 => (amount_Size N a1).bind fun r2 => (bits_Mul64 N r1 r2).bind fun r3 => (wide_signed N (!(teq .bool (ltB a0 (0 : Int)) (ltB a1 (0 : Int)))) r3.1 r3.2).bind fun r4 => some r4.1

/-! ### novation/wide.size: function 50 -/
noncomputable def wide_size (N : Nat) (a0 : Ty.den tWide) : Option ((Int) × (Int)) :=
  cond (leB (0 : Int) a0.1) (some ((W .u64 a0.1), a0.2.1)) ((sub64 N (0 : Int) a0.2.1 (0 : Int)).bind fun r2 => (sub64 N (0 : Int) (W .u64 a0.1) r2.2).bind fun r4 => some (r4.1, r2.1))

/-! ### math/bits.Len64: function 65 -/
noncomputable def bits_Len64.j7b (N : Nat) (x0 : Int) (x2 : Int) : Option ((Int)) :=
  cond (leB (256 : Int) x0) (cond (ltB (8 : Int) 0) (none) (let v8 : Int := W .u8 (shr .u64 x0 (8 : Int)); cond (inb v8 (ByteArray.size (strOf [0, 1, 2, 2, 3, 3, 3, 3, 4, 4, 4, 4, 4, 4, 4, 4, 5, 5, 5, 5, 5, 5, 5, 5, 5, 5, 5, 5, 5, 5, 5, 5, 6, 6, 6, 6, 6, 6, 6, 6, 6, 6, 6, 6, 6, 6, 6, 6, 6, 6, 6, 6, 6, 6, 6, 6, 6, 6, 6, 6, 6, 6, 6, 6, 7, 7, 7, 7, 7, 7, 7, 7, 7, 7, 7, 7, 7, 7, 7, 7, 7, 7, 7, 7, 7, 7, 7, 7, 7, 7, 7, 7, 7, 7, 7, 7, 7, 7, 7, 7, 7, 7, 7, 7, 7, 7, 7, 7, 7, 7, 7, 7, 7, 7, 7, 7, 7, 7, 7, 7, 7, 7, 7, 7, 7, 7, 7, 7, 8, 8, 8, 8, 8, 8, 8, 8, 8, 8, 8, 8, 8, 8, 8, 8, 8, 8, 8, 8, 8, 8, 8, 8, 8, 8, 8, 8, 8, 8, 8, 8, 8, 8, 8, 8, 8, 8, 8, 8, 8, 8, 8, 8, 8, 8, 8, 8, 8, 8, 8, 8, 8, 8, 8, 8, 8, 8, 8, 8, 8, 8, 8, 8, 8, 8, 8, 8, 8, 8, 8, 8, 8, 8, 8, 8, 8, 8, 8, 8, 8, 8, 8, 8, 8, 8, 8, 8, 8, 8, 8, 8, 8, 8, 8, 8, 8, 8, 8, 8, 8, 8, 8, 8, 8, 8, 8, 8, 8, 8, 8, 8, 8, 8, 8, 8, 8, 8, 8, 8, 8, 8, 8, 8, 8, 8, 8, 8]))) (some (W .i64 ((W .i64 (x2 + (8 : Int))) + (W .i64 (((strOf [0, 1, 2, 2, 3, 3, 3, 3, 4, 4, 4, 4, 4, 4, 4, 4, 5, 5, 5, 5, 5, 5, 5, 5, 5, 5, 5, 5, 5, 5, 5, 5, 6, 6, 6, 6, 6, 6, 6, 6, 6, 6, 6, 6, 6, 6, 6, 6, 6, 6, 6, 6, 6, 6, 6, 6, 6, 6, 6, 6, 6, 6, 6, 6, 7, 7, 7, 7, 7, 7, 7, 7, 7, 7, 7, 7, 7, 7, 7, 7, 7, 7, 7, 7, 7, 7, 7, 7, 7, 7, 7, 7, 7, 7, 7, 7, 7, 7, 7, 7, 7, 7, 7, 7, 7, 7, 7, 7, 7, 7, 7, 7, 7, 7, 7, 7, 7, 7, 7, 7, 7, 7, 7, 7, 7, 7, 7, 7, 8, 8, 8, 8, 8, 8, 8, 8, 8, 8, 8, 8, 8, 8, 8, 8, 8, 8, 8, 8, 8, 8, 8, 8, 8, 8, 8, 8, 8, 8, 8, 8, 8, 8, 8, 8, 8, 8, 8, 8, 8, 8, 8, 8, 8, 8, 8, 8, 8, 8, 8, 8, 8, 8, 8, 8, 8, 8, 8, 8, 8, 8, 8, 8, 8, 8, 8, 8, 8, 8, 8, 8, 8, 8, 8, 8, 8, 8, 8, 8, 8, 8, 8, 8, 8, 8, 8, 8, 8, 8, 8, 8, 8, 8, 8, 8, 8, 8, 8, 8, 8, 8, 8, 8, 8, 8, 8, 8, 8, 8, 8, 8, 8, 8, 8, 8, 8, 8, 8, 8, 8, 8, 8, 8, 8, 8, 8, 8]).data.getD v8.toNat 0).toNat : Int))))) (none))) (let v11 : Int := W .u8 x0; cond (inb v11 (ByteArray.size (strOf [0, 1, 2, 2, 3, 3, 3, 3, 4, 4, 4, 4, 4, 4, 4, 4, 5, 5, 5, 5, 5, 5, 5, 5, 5, 5, 5, 5, 5, 5, 5, 5, 6, 6, 6, 6, 6, 6, 6, 6, 6, 6, 6, 6, 6, 6, 6, 6, 6, 6, 6, 6, 6, 6, 6, 6, 6, 6, 6, 6, 6, 6, 6, 6, 7, 7, 7, 7, 7, 7, 7, 7, 7, 7, 7, 7, 7, 7, 7, 7, 7, 7, 7, 7, 7, 7, 7, 7, 7, 7, 7, 7, 7, 7, 7, 7, 7, 7, 7, 7, 7, 7, 7, 7, 7, 7, 7, 7, 7, 7, 7, 7, 7, 7, 7, 7, 7, 7, 7, 7, 7, 7, 7, 7, 7, 7, 7, 7, 8, 8, 8, 8, 8, 8, 8, 8, 8, 8, 8, 8, 8, 8, 8, 8, 8, 8, 8, 8, 8, 8, 8, 8, 8, 8, 8, 8, 8, 8, 8, 8, 8, 8, 8, 8, 8, 8, 8, 8, 8, 8, 8, 8, 8, 8, 8, 8, 8, 8, 8, 8, 8, 8, 8, 8, 8, 8, 8, 8, 8, 8, 8, 8, 8, 8, 8, 8, 8, 8, 8, 8, 8, 8, 8, 8, 8, 8, 8, 8, 8, 8, 8, 8, 8, 8, 8, 8, 8, 8, 8, 8, 8, 8, 8, 8, 8, 8, 8, 8, 8, 8, 8, 8, 8, 8, 8, 8, 8, 8, 8, 8, 8, 8, 8, 8, 8, 8, 8, 8, 8, 8, 8, 8, 8, 8, 8, 8]))) (some (W .i64 (x2 + (W .i64 (((strOf [0, 1, 2, 2, 3, 3, 3, 3, 4, 4, 4, 4, 4, 4, 4, 4, 5, 5, 5, 5, 5, 5, 5, 5, 5, 5, 5, 5, 5, 5, 5, 5, 6, 6, 6, 6, 6, 6, 6, 6, 6, 6, 6, 6, 6, 6, 6, 6, 6, 6, 6, 6, 6, 6, 6, 6, 6, 6, 6, 6, 6, 6, 6, 6, 7, 7, 7, 7, 7, 7, 7, 7, 7, 7, 7, 7, 7, 7, 7, 7, 7, 7, 7, 7, 7, 7, 7, 7, 7, 7, 7, 7, 7, 7, 7, 7, 7, 7, 7, 7, 7, 7, 7, 7, 7, 7, 7, 7, 7, 7, 7, 7, 7, 7, 7, 7, 7, 7, 7, 7, 7, 7, 7, 7, 7, 7, 7, 7, 8, 8, 8, 8, 8, 8, 8, 8, 8, 8, 8, 8, 8, 8, 8, 8, 8, 8, 8, 8, 8, 8, 8, 8, 8, 8, 8, 8, 8, 8, 8, 8, 8, 8, 8, 8, 8, 8, 8, 8, 8, 8, 8, 8, 8, 8, 8, 8, 8, 8, 8, 8, 8, 8, 8, 8, 8, 8, 8, 8, 8, 8, 8, 8, 8, 8, 8, 8, 8, 8, 8, 8, 8, 8, 8, 8, 8, 8, 8, 8, 8, 8, 8, 8, 8, 8, 8, 8, 8, 8, 8, 8, 8, 8, 8, 8, 8, 8, 8, 8, 8, 8, 8, 8, 8, 8, 8, 8, 8, 8, 8, 8, 8, 8, 8, 8, 8, 8, 8, 8, 8, 8, 8, 8, 8, 8, 8, 8]).data.getD v11.toNat 0).toNat : Int))))) (none))
noncomputable def bits_Len64.j7 (N : Nat) (x0 : Int) (x2 : Int) : Option ((Int)) :=
  bits_Len64.j7b N x0 x2
noncomputable def bits_Len64.j4b (N : Nat) (s_j7 : (Int) → (Int) → Option ((Int))) (x0 : Int) (x2 : Int) : Option ((Int)) :=
  cond (leB (65536 : Int) x0) (cond (ltB (16 : Int) 0) (none) (s_j7 (shr .u64 x0 (16 : Int)) (W .i64 (x2 + (16 : Int))))) (s_j7 x0 x2)
noncomputable def bits_Len64.j4 (N : Nat) (x0 : Int) (x2 : Int) : Option ((Int)) :=
  bits_Len64.j4b N (bits_Len64.j7 N) x0 x2
noncomputable def bits_Len64.b (N : Nat) (s_j4 : (Int) → (Int) → Option ((Int))) (a0 : Int) : Option ((Int)) :=
  cond (leB (4294967296 : Int) a0) (cond (ltB (32 : Int) 0) (none) (s_j4 (shr .u64 a0 (32 : Int)) (32 : Int))) (s_j4 a0 (0 : Int))
noncomputable def bits_Len64 (N : Nat) (a0 : Int) : Option ((Int)) :=
  bits_Len64.b N (bits_Len64.j4 N) a0

/-! ### math/bits.LeadingZeros64: function 62 -/
noncomputable def bits_LeadingZeros64 (N : Nat) (a0 : Int) : Option ((Int)) :=
  (bits_Len64 N a0).bind fun r1 => some (W .i64 ((64 : Int) - r1))

/-! ### math/bits.Div64: function 51 -/
noncomputable def bits_Div64.j28b (N : Nat) (x2 : Int) (x8 : Int) (x14 : Int) (x15 : Int) (x17 : Int) (x18 : Int) : Option ((Int) × (Int)) :=
  cond (ltB x8 0) (none) (some ((W .u64 ((W .u64 (x15 * (4294967296 : Int))) + x18)), (shr .u64 (W .u64 ((W .u64 ((W .u64 (x17 * (4294967296 : Int))) + x14)) - (W .u64 (x18 * x2)))) x8)))
noncomputable def bits_Div64.j28 (N : Nat) (x2 : Int) (x8 : Int) (x14 : Int) (x15 : Int) (x17 : Int) (x18 : Int) : Option ((Int) × (Int)) :=
  bits_Div64.j28b N x2 x8 x14 x15 x17 x18
noncomputable def bits_Div64.l24b (N : Nat) (s_j28 : (Int) → (Int) → (Int) → (Int) → (Int) → (Int) → Option ((Int) × (Int))) (k_l24 : (Int) → (Int) → (Int) → (Int) → (Int) → (Int) → (Int) → (Int) → (Int) → Option ((Int) × (Int))) (x2 : Int) (x8 : Int) (x9 : Int) (x10 : Int) (x14 : Int) (x15 : Int) (x16 : Int) (x17 : Int) (x18 : Int) : Option ((Int) × (Int)) :=
  cond (leB (4294967296 : Int) x18) (let v30 : Int := W .u64 (x18 - (1 : Int)); let v31 : Int := W .u64 (x16 + x9); cond (leB (4294967296 : Int) v31) (s_j28 x2 x8 x14 x15 x17 v30) (k_l24 x2 x8 x9 x10 x14 x15 v31 x17 v30)) (cond (ltB (W .u64 ((W .u64 ((4294967296 : Int) * x16)) + x14)) (W .u64 (x18 * x10))) (let v43 : Int := W .u64 (x18 - (1 : Int)); let v44 : Int := W .u64 (x16 + x9); cond (leB (4294967296 : Int) v44) (s_j28 x2 x8 x14 x15 x17 v43) (k_l24 x2 x8 x9 x10 x14 x15 v44 x17 v43)) (s_j28 x2 x8 x14 x15 x17 x18))
noncomputable def bits_Div64.l24 (N : Nat) : Nat → (Int) → (Int) → (Int) → (Int) → (Int) → (Int) → (Int) → (Int) → (Int) → Option ((Int) × (Int))
  | 0, _, _, _, _, _, _, _, _, _ => none
  | n + 1, x2, x8, x9, x10, x14, x15, x16, x17, x18 => bits_Div64.l24b N (bits_Div64.j28 N) (bits_Div64.l24 N n) x2 x8 x9 x10 x14 x15 x16 x17 x18
noncomputable def bits_Div64.j21b (N : Nat) (s_l24 : (Int) → (Int) → (Int) → (Int) → (Int) → (Int) → (Int) → (Int) → (Int) → Option ((Int) × (Int))) (x2 : Int) (x8 : Int) (x9 : Int) (x10 : Int) (x11 : Int) (x13 : Int) (x14 : Int) (x15 : Int) : Option ((Int) × (Int)) :=
  let v25 : Int := W .u64 ((W .u64 ((W .u64 (x11 * (4294967296 : Int))) + x13)) - (W .u64 (x15 * x2))); cond (eqB x9 0) (none) (let v26 : Int := W .u64 (quo v25 x9); s_l24 x2 x8 x9 x10 x14 x15 (W .u64 (v25 - (W .u64 (v26 * x9)))) v25 v26)
noncomputable def bits_Div64.j21 (N : Nat) (x2 : Int) (x8 : Int) (x9 : Int) (x10 : Int) (x11 : Int) (x13 : Int) (x14 : Int) (x15 : Int) : Option ((Int) × (Int)) :=
  bits_Div64.j21b N (bits_Div64.l24 N N) x2 x8 x9 x10 x11 x13 x14 x15
noncomputable def bits_Div64.l17b (N : Nat) (s_j21 : (Int) → (Int) → (Int) → (Int) → (Int) → (Int) → (Int) → (Int) → Option ((Int) × (Int))) (k_l17 : (Int) → (Int) → (Int) → (Int) → (Int) → (Int) → (Int) → (Int) → (Int) → Option ((Int) × (Int))) (x2 : Int) (x8 : Int) (x9 : Int) (x10 : Int) (x11 : Int) (x13 : Int) (x14 : Int) (x15 : Int) (x16 : Int) : Option ((Int) × (Int)) :=
  cond (leB (4294967296 : Int) x15) (let v19 : Int := W .u64 (x15 - (1 : Int)); let v20 : Int := W .u64 (x16 + x9); cond (leB (4294967296 : Int) v20) (s_j21 x2 x8 x9 x10 x11 x13 x14 v19) (k_l17 x2 x8 x9 x10 x11 x13 x14 v19 v20)) (cond (ltB (W .u64 ((W .u64 ((4294967296 : Int) * x16)) + x13)) (W .u64 (x15 * x10))) (let v48 : Int := W .u64 (x15 - (1 : Int)); let v49 : Int := W .u64 (x16 + x9); cond (leB (4294967296 : Int) v49) (s_j21 x2 x8 x9 x10 x11 x13 x14 v48) (k_l17 x2 x8 x9 x10 x11 x13 x14 v48 v49)) (s_j21 x2 x8 x9 x10 x11 x13 x14 x15))
noncomputable def bits_Div64.l17 (N : Nat) : Nat → (Int) → (Int) → (Int) → (Int) → (Int) → (Int) → (Int) → (Int) → (Int) → Option ((Int) × (Int))
  | 0, _, _, _, _, _, _, _, _, _ => none
  | n + 1, x2, x8, x9, x10, x11, x13, x14, x15, x16 => bits_Div64.l17b N (bits_Div64.j21 N) (bits_Div64.l17 N n) x2 x8 x9 x10 x11 x13 x14 x15 x16
noncomputable def bits_Div64.b (N : Nat) (s_l17 : (Int) → (Int) → (Int) → (Int) → (Int) → (Int) → (Int) → (Int) → (Int) → Option ((Int) × (Int))) (a0 : Int) (a1 : Int) (a2 : Int) : Option ((Int) × (Int)) :=
  cond (eqB a2 (0 : Int)) (none) (cond (leB a2 a0) (none) (cond (eqB a0 (0 : Int)) (cond (eqB a2 0) (none) (cond (eqB a2 0) (none) (some ((W .u64 (quo a1 a2)), (rem a1 a2))))) ((bits_LeadingZeros64 N a2).bind fun r3 => let v4 : Int := W .u64 r3; cond (ltB v4 0) (none) (let v5 : Int := W .u64 (shl .u64 a2 v4); cond (ltB (32 : Int) 0) (none) (let v6 : Int := shr .u64 v5 (32 : Int); cond (ltB v4 0) (none) (let v9 : Int := W .u64 ((64 : Int) - v4); cond (ltB v9 0) (none) (let v11 : Int := bitw .or .u64 (W .u64 (shl .u64 a0 v4)) (shr .u64 a1 v9); cond (ltB v4 0) (none) (let v12 : Int := W .u64 (shl .u64 a1 v4); cond (ltB (32 : Int) 0) (none) (cond (eqB v6 0) (none) (let v15 : Int := W .u64 (quo v11 v6); s_l17 v5 v4 v6 (bitw .and .u64 v5 (4294967295 : Int)) v11 (shr .u64 v12 (32 : Int)) (bitw .and .u64 v12 (4294967295 : Int)) v15 (W .u64 (v11 - (W .u64 (v15 * v6))))))))))))))
noncomputable def bits_Div64 (N : Nat) (a0 : Int) (a1 : Int) (a2 : Int) : Option ((Int) × (Int)) :=
  bits_Div64.b N (bits_Div64.l17 N N) a0 a1 a2

/-! ### novation/wide.Div: function 31 -/
noncomputable def wide_Div.j13b (N : Nat) (x4 : Ty.den tWide) (x10 : Int) (x11 : Int) (x12 : Int) : Option ((Ty.den tWide) × (Int) × (Bool)) :=
  (wide_signed N true x10 x12).bind fun r11 => some (r11.1, (W .i64 x11), true)
noncomputable def wide_Div.j13 (N : Nat) (x4 : Ty.den tWide) (x10 : Int) (x11 : Int) (x12 : Int) : Option ((Ty.den tWide) × (Int) × (Bool)) :=
  wide_Div.j13b N x4 x10 x11 x12
noncomputable def wide_Div.b (N : Nat) (s_j13 : (Ty.den tWide) → (Int) → (Int) → (Int) → Option ((Ty.den tWide) × (Int) × (Bool))) (a0 : Ty.den tWide) (a1 : Int) : Option ((Ty.den tWide) × (Int) × (Bool)) :=
  cond (ltB a1 (1 : Int)) (some (((0 : Int), ((0 : Int), ())), (0 : Int), false)) ((wide_size N a0).bind fun r1 => let v2 : Int := W .u64 a1; (bits_Div64 N (0 : Int) r1.1 v2).bind fun r3 => (bits_Div64 N r3.2 r1.2 v2).bind fun r4 => cond (leB (0 : Int) a0.1) (some (((W .i64 r3.1), (r4.1, ())), (W .i64 r4.2), true)) (cond (ltB (0 : Int) r4.2) ((add64 N r4.1 (1 : Int) (0 : Int)).bind fun r7 => s_j13 ((0 : Int), ((0 : Int), ())) (W .u64 (r3.1 + r7.2)) (W .u64 (v2 - r4.2)) r7.1) (s_j13 ((0 : Int), ((0 : Int), ())) r3.1 r4.2 r4.1)))
noncomputable def wide_Div (N : Nat) (a0 : Ty.den tWide) (a1 : Int) : Option ((Ty.den tWide) × (Int) × (Bool)) :=
  wide_Div.b N (wide_Div.j13 N) a0 a1

/-! ### novation/wide.Int: function 33 -/
noncomputable def wide_Int (N : Nat) (a0 : Ty.den tWide) : Option ((Int) × (Bool)) :=
  cond (ltB (63 : Int) 0) (none) (cond (!eqB a0.1 (shr .i64 (W .i64 a0.2.1) (63 : Int))) (some ((0 : Int), false)) (some ((W .i64 a0.2.1), true)))

/-! ### slices.Clip[[]int,int]: function 39 -/
noncomputable def slices_Clip_int_int (N : Nat) (a0 : List (Int)) : Option ((List (Int))) :=
  cond (okCut (0 : Int) (List.length a0 : Int) (List.length a0 : Int) (List.length a0 : Int)) (some (List.drop (0 : Int).toNat (List.take (List.length a0 : Int).toNat a0))) (none)

/-! ### novation/share.Order: function 16 -/
noncomputable def share_Order.l6b (N : Nat) (k_l3 : (List (Int)) → (List (Int)) → (Int) → (Int) → Option ((List (Int)))) (k_l6 : (List (Int)) → (List (Int)) → (Int) → (Int) → (Int) → (Int) → Option ((List (Int)))) (x0 : List (Int)) (x3 : List (Int)) (x4 : Int) (x5 : Int) (x10 : Int) (x11 : Int) : Option ((List (Int))) :=
  cond (ltB (0 : Int) x5) (let v4 : Int := W .i64 (x5 - (1 : Int)); cond (inb v4 (List.length x3)) (cond (inb (List.getD x3 v4.toNat (0 : Int)) (List.length x0)) (cond (inb x4 (List.length x0)) (cond (ltB (List.getD x0 (List.getD x3 v4.toNat (0 : Int)).toNat (0 : Int)) (List.getD x0 x4.toNat (0 : Int))) (k_l6 x0 x3 x4 (W .i64 (x5 - (1 : Int))) x10 x11) ((insertL N x3 x5 ([x4])).bind fun r6 => k_l3 x0 r6 x10 (W .i64 (x11 + (1 : Int))))) (none)) (none)) (none)) ((insertL N x3 x5 ([x4])).bind fun r8 => k_l3 x0 r8 x10 (W .i64 (x11 + (1 : Int))))
noncomputable def share_Order.l6 (N : Nat) (k_l3 : (List (Int)) → (List (Int)) → (Int) → (Int) → Option ((List (Int)))) : Nat → (List (Int)) → (List (Int)) → (Int) → (Int) → (Int) → (Int) → Option ((List (Int)))
  | 0, _, _, _, _, _, _ => none
  | n + 1, x0, x3, x4, x5, x10, x11 => share_Order.l6b N k_l3 (share_Order.l6 N k_l3 n) x0 x3 x4 x5 x10 x11
noncomputable def share_Order.l3b (N : Nat) (s_l6 : (List (Int)) → (List (Int)) → (Int) → (Int) → (Int) → (Int) → Option ((List (Int)))) (k_l3 : (List (Int)) → (List (Int)) → (Int) → (Int) → Option ((List (Int)))) (x0 : List (Int)) (x3 : List (Int)) (x10 : Int) (x11 : Int) : Option ((List (Int))) :=
  cond (ltB x11 x10) (s_l6 x0 x3 x11 (List.length x3 : Int) x10 x11) ((slices_Clip_int_int N x3).bind fun r10 => some r10)
noncomputable def share_Order.l3 (N : Nat) : Nat → (List (Int)) → (List (Int)) → (Int) → (Int) → Option ((List (Int)))
  | 0, _, _, _, _ => none
  | n + 1, x0, x3, x10, x11 => share_Order.l3b N (share_Order.l6 N (share_Order.l3 N n) N) (share_Order.l3 N n) x0 x3 x10 x11
noncomputable def share_Order.b (N : Nat) (s_l3 : (List (Int)) → (List (Int)) → (Int) → (Int) → Option ((List (Int)))) (a0 : List (Int)) : Option ((List (Int))) :=
  cond (okMake (0 : Int) (List.length a0 : Int)) (s_l3 a0 (List.replicate (0 : Int).toNat (0 : Int)) (List.length a0 : Int) (0 : Int)) (none)
noncomputable def share_Order (N : Nat) (a0 : List (Int)) : Option ((List (Int))) :=
  share_Order.b N (share_Order.l3 N N) a0

/-! ### novation/share.Split: function 10 -/
noncomputable def share_Split.l21b (N : Nat) (k_l21 : (List (Int)) → (List (Int)) → (Int) → (Int) → Option ((List (Int)) × (Int))) (x8 : List (Int)) (x88 : List (Int)) (x89 : Int) (x90 : Int) : Option ((List (Int)) × (Int)) :=
  cond (ltB x90 x89) (cond (inb x90 (List.length x88)) (cond (inb (List.getD x88 x90.toNat (0 : Int)) (List.length x8)) (cond (inb (List.getD x88 x90.toNat (0 : Int)) (List.length x8)) (k_l21 (List.set x8 (List.getD x88 x90.toNat (0 : Int)).toNat (W .i64 ((List.getD x8 (List.getD x88 x90.toNat (0 : Int)).toNat (0 : Int)) + (1 : Int)))) x88 x89 (W .i64 (x90 + (1 : Int)))) (none)) (none)) (none)) (some (x8, (0 : Int)))
noncomputable def share_Split.l21 (N : Nat) : Nat → (List (Int)) → (List (Int)) → (Int) → (Int) → Option ((List (Int)) × (Int))
  | 0, _, _, _, _ => none
  | n + 1, x8, x88, x89, x90 => share_Split.l21b N (share_Split.l21 N n) x8 x88 x89 x90
noncomputable def share_Split.l13b (N : Nat) (s_l21 : (List (Int)) → (List (Int)) → (Int) → (Int) → Option ((List (Int)) × (Int))) (k_l13 : (Int) → (Int) → (List (Int)) → (List (Int)) → (Int) → (List (Int)) → (Int) → (Int) → Option ((List (Int)) × (Int))) (x0 : Int) (x6 : Int) (x8 : List (Int)) (x9 : List (Int)) (x10 : Int) (x50 : List (Int)) (x51 : Int) (x52 : Int) : Option ((List (Int)) × (Int)) :=
  cond (ltB x52 x51) (cond (inb x52 (List.length x50)) ((wide_Mul N x0 (List.getD x50 x52.toNat (0 : Int))).bind fun r7 => (wide_Div N r7 x6).bind fun r8 => (wide_Int N r8.1).bind fun r9 => cond (inb x52 (List.length x8)) (let v10 : List (Int) := List.set x8 x52.toNat r9.1; cond (inb x52 (List.length x9)) (cond (inb x52 (List.length v10)) (k_l13 x0 x6 v10 (List.set x9 x52.toNat r8.2.1) (W .i64 (x10 - (List.getD v10 x52.toNat (0 : Int)))) x50 x51 (W .i64 (x52 + (1 : Int)))) (none)) (none)) (none)) (none)) ((share_Order N x9).bind fun r14 => cond (okCut (0 : Int) x10 (List.length r14 : Int) (List.length r14 : Int)) (let v15 : List (Int) := List.drop (0 : Int).toNat (List.take x10.toNat r14); s_l21 x8 v15 (List.length v15 : Int) (0 : Int)) (none))
noncomputable def share_Split.l13 (N : Nat) : Nat → (Int) → (Int) → (List (Int)) → (List (Int)) → (Int) → (List (Int)) → (Int) → (Int) → Option ((List (Int)) × (Int))
  | 0, _, _, _, _, _, _, _, _ => none
  | n + 1, x0, x6, x8, x9, x10, x50, x51, x52 => share_Split.l13b N (share_Split.l21 N N) (share_Split.l13 N n) x0 x6 x8 x9 x10 x50 x51 x52
noncomputable def share_Split.j8b (N : Nat) (s_l13 : (Int) → (Int) → (List (Int)) → (List (Int)) → (Int) → (List (Int)) → (Int) → (Int) → Option ((List (Int)) × (Int))) (x0 : Int) (x1 : List (Int)) (x6 : Int) : Option ((List (Int)) × (Int)) :=
  cond (okMake (List.length x1 : Int) (List.length x1 : Int)) (let v4 : List (Int) := List.replicate (List.length x1 : Int).toNat (0 : Int); cond (okMake (List.length x1 : Int) (List.length x1 : Int)) (cond (eqB x0 (0 : Int)) (some (v4, (0 : Int))) (s_l13 x0 x6 v4 (List.replicate (List.length x1 : Int).toNat (0 : Int)) x0 x1 (List.length x1 : Int) (0 : Int))) (none)) (none)
noncomputable def share_Split.j8 (N : Nat) (x0 : Int) (x1 : List (Int)) (x6 : Int) : Option ((List (Int)) × (Int)) :=
  share_Split.j8b N (share_Split.l13 N N) x0 x1 x6
noncomputable def share_Split.b (N : Nat) (s_j8 : (Int) → (List (Int)) → (Int) → Option ((List (Int)) × (Int))) (a0 : Int) (a1 : List (Int)) : Option ((List (Int)) × (Int)) :=
  cond (ltB a0 (0 : Int)) (some ([], (1 : Int))) ((share_may N a1).bind fun r1 => cond (!r1) (some ([], (1 : Int))) ((amount_Sum N a1).bind fun r2 => cond (!r2.2) (some ([], (2 : Int))) (cond (eqB r2.1 (0 : Int)) (cond (ltB (0 : Int) a0) (some ([], (1 : Int))) (s_j8 a0 a1 r2.1)) (s_j8 a0 a1 r2.1))))
noncomputable def share_Split (N : Nat) (a0 : Int) (a1 : List (Int)) : Option ((List (Int)) × (Int)) :=
  share_Split.b N (share_Split.j8 N) a0 a1

/-! ### novation/share.Even: function 12 -/
noncomputable def share_Even (N : Nat) (a0 : Int) (a1 : Int) : Option ((List (Int)) × (Int)) :=
  cond (ltB a0 (0 : Int)) (some ([], (1 : Int))) (cond (ltB a1 (1 : Int)) (some ([], (1 : Int))) (cond (ltB (64 : Int) a1) (some ([], (1 : Int))) ((repeatL N ([(1 : Int)]) a1).bind fun r1 => (share_Split N a0 r1).bind fun r2 => some (r2.1, r2.2))))

/-! ### novation/share.Capped: function 18 -/
noncomputable def share_Capped.l18b (N : Nat) (k_l7 : (List (Int)) → (List (Int)) → (List (Int)) → (Int) → Option ((List (Int)) × (Int) × (Int))) (k_l18 : (List (Int)) → (List (Int)) → (List (Int)) → (Int) → (List (Int)) → (Int) → (Int) → Option ((List (Int)) × (Int) × (Int))) (x1 : List (Int)) (x2 : List (Int)) (x11 : List (Int)) (x12 : Int) (x84 : List (Int)) (x85 : Int) (x86 : Int) : Option ((List (Int)) × (Int) × (Int)) :=
  cond (ltB x86 x85) (cond (inb x86 (List.length x84)) (cond (inb x86 (List.length x2)) (cond (inb x86 (List.length x11)) (let v14 : Int := mn (List.getD x84 x86.toNat (0 : Int)) (W .i64 ((List.getD x2 x86.toNat (0 : Int)) - (List.getD x11 x86.toNat (0 : Int)))); cond (inb x86 (List.length x11)) (cond (inb x86 (List.length x11)) (k_l18 x1 x2 (List.set x11 x86.toNat (W .i64 ((List.getD x11 x86.toNat (0 : Int)) + v14))) (W .i64 (x12 - v14)) x84 x85 (W .i64 (x86 + (1 : Int)))) (none)) (none)) (none)) (none)) (none)) (k_l7 x1 x2 x11 x12)
noncomputable def share_Capped.l18 (N : Nat) (k_l7 : (List (Int)) → (List (Int)) → (List (Int)) → (Int) → Option ((List (Int)) × (Int) × (Int))) : Nat → (List (Int)) → (List (Int)) → (List (Int)) → (Int) → (List (Int)) → (Int) → (Int) → Option ((List (Int)) × (Int) × (Int))
  | 0, _, _, _, _, _, _, _ => none
  | n + 1, x1, x2, x11, x12, x84, x85, x86 => share_Capped.l18b N k_l7 (share_Capped.l18 N k_l7 n) x1 x2 x11 x12 x84 x85 x86
noncomputable def share_Capped.l10b (N : Nat) (s_l18 : (List (Int)) → (List (Int)) → (List (Int)) → (Int) → (List (Int)) → (Int) → (Int) → Option ((List (Int)) × (Int) × (Int))) (k_l7 : (List (Int)) → (List (Int)) → (List (Int)) → (Int) → Option ((List (Int)) × (Int) × (Int))) (k_l10 : (List (Int)) → (List (Int)) → (List (Int)) → (Int) → (List (Int)) → (Int) → (Int) → Option ((List (Int)) × (Int) × (Int))) (x1 : List (Int)) (x2 : List (Int)) (x11 : List (Int)) (x12 : Int) (x13 : List (Int)) (x55 : Int) (x56 : Int) : Option ((List (Int)) × (Int) × (Int)) :=
  cond (ltB x56 x55) (cond (inb x56 (List.length x11)) (cond (inb x56 (List.length x2)) (cond (ltB (List.getD x11 x56.toNat (0 : Int)) (List.getD x2 x56.toNat (0 : Int))) (cond (inb x56 (List.length x1)) (cond (inb x56 (List.length x13)) (k_l10 x1 x2 x11 x12 (List.set x13 x56.toNat (List.getD x1 x56.toNat (0 : Int))) x55 (W .i64 (x56 + (1 : Int)))) (none)) (none)) (k_l10 x1 x2 x11 x12 x13 x55 (W .i64 (x56 + (1 : Int))))) (none)) (none)) ((share_Split N x12 x13).bind fun r11 => cond (!eqB r11.2 (0 : Int)) (some (x11, x12, (0 : Int))) (s_l18 x1 x2 x11 x12 r11.1 (List.length r11.1 : Int) (0 : Int)))
noncomputable def share_Capped.l10 (N : Nat) (k_l7 : (List (Int)) → (List (Int)) → (List (Int)) → (Int) → Option ((List (Int)) × (Int) × (Int))) : Nat → (List (Int)) → (List (Int)) → (List (Int)) → (Int) → (List (Int)) → (Int) → (Int) → Option ((List (Int)) × (Int) × (Int))
  | 0, _, _, _, _, _, _, _ => none
  | n + 1, x1, x2, x11, x12, x13, x55, x56 => share_Capped.l10b N (share_Capped.l18 N k_l7 N) k_l7 (share_Capped.l10 N k_l7 n) x1 x2 x11 x12 x13 x55 x56
noncomputable def share_Capped.l7b (N : Nat) (s_l10 : (List (Int)) → (List (Int)) → (List (Int)) → (Int) → (List (Int)) → (Int) → (Int) → Option ((List (Int)) × (Int) × (Int))) (k_l7 : (List (Int)) → (List (Int)) → (List (Int)) → (Int) → Option ((List (Int)) × (Int) × (Int))) (x1 : List (Int)) (x2 : List (Int)) (x11 : List (Int)) (x12 : Int) : Option ((List (Int)) × (Int) × (Int)) :=
  cond (ltB (0 : Int) x12) (cond (okMake (List.length x1 : Int) (List.length x1 : Int)) (s_l10 x1 x2 x11 x12 (List.replicate (List.length x1 : Int).toNat (0 : Int)) (List.length x1 : Int) (0 : Int)) (none)) (some (x11, x12, (0 : Int)))
noncomputable def share_Capped.l7 (N : Nat) : Nat → (List (Int)) → (List (Int)) → (List (Int)) → (Int) → Option ((List (Int)) × (Int) × (Int))
  | 0, _, _, _, _ => none
  | n + 1, x1, x2, x11, x12 => share_Capped.l7b N (share_Capped.l10 N (share_Capped.l7 N n) N) (share_Capped.l7 N n) x1 x2 x11 x12
noncomputable def share_Capped.b (N : Nat) (s_l7 : (List (Int)) → (List (Int)) → (List (Int)) → (Int) → Option ((List (Int)) × (Int) × (Int))) (a0 : Int) (a1 : List (Int)) (a2 : List (Int)) : Option ((List (Int)) × (Int) × (Int)) :=
  cond (ltB a0 (0 : Int)) (some ([], (0 : Int), (1 : Int))) ((share_may N a1).bind fun r1 => cond (!r1) (some ([], (0 : Int), (1 : Int))) (cond (!eqB (List.length a2 : Int) (List.length a1 : Int)) (some ([], (0 : Int), (1 : Int))) ((share_may N a2).bind fun r2 => cond (!r2) (some ([], (0 : Int), (1 : Int))) ((amount_Sum N a1).bind fun r3 => cond (!r3.2) (some ([], (0 : Int), (2 : Int))) (cond (okMake (List.length a1 : Int) (List.length a1 : Int)) (s_l7 a1 a2 (List.replicate (List.length a1 : Int).toNat (0 : Int)) a0) (none))))))
noncomputable def share_Capped (N : Nat) (a0 : Int) (a1 : List (Int)) (a2 : List (Int)) : Option ((List (Int)) × (Int) × (Int)) :=
  share_Capped.b N (share_Capped.l7 N N) a0 a1 a2

/-! ### novation/novationhelp.Ints: function 14 -/
noncomputable def novationhelp_Ints.l4b (N : Nat) (k_l4 : (List (Int)) → (List (Int)) → (Int) → Option ((Bool))) (x0 : List (Int)) (x1 : List (Int)) (x5 : Int) : Option ((Bool)) :=
  cond (ltB x5 (List.length x0 : Int)) (cond (inb x5 (List.length x0)) (cond (inb x5 (List.length x1)) (cond (!eqB (List.getD x0 x5.toNat (0 : Int)) (List.getD x1 x5.toNat (0 : Int))) (some false) (k_l4 x0 x1 (W .i64 (x5 + (1 : Int))))) (none)) (none)) (some true)
noncomputable def novationhelp_Ints.l4 (N : Nat) : Nat → (List (Int)) → (List (Int)) → (Int) → Option ((Bool))
  | 0, _, _, _ => none
  | n + 1, x0, x1, x5 => novationhelp_Ints.l4b N (novationhelp_Ints.l4 N n) x0 x1 x5
noncomputable def novationhelp_Ints.b (N : Nat) (s_l4 : (List (Int)) → (List (Int)) → (Int) → Option ((Bool))) (a0 : List (Int)) (a1 : List (Int)) : Option ((Bool)) :=
  cond (!eqB (List.length a0 : Int) (List.length a1 : Int)) (some false) (s_l4 a0 a1 (0 : Int))
noncomputable def novationhelp_Ints (N : Nat) (a0 : List (Int)) (a1 : List (Int)) : Option ((Bool)) :=
  novationhelp_Ints.b N (novationhelp_Ints.l4 N N) a0 a1

/-! ### novation/novationhelp.Nums: function 15 -/
noncomputable def novationhelp_Nums.l4b (N : Nat) (k_l4 : (List (Int)) → (List (Int)) → (Int) → Option ((Bool))) (x0 : List (Int)) (x1 : List (Int)) (x5 : Int) : Option ((Bool)) :=
  cond (ltB x5 (List.length x0 : Int)) (cond (inb x5 (List.length x0)) (cond (inb x5 (List.length x1)) (cond (!eqB (List.getD x0 x5.toNat (0 : Int)) (List.getD x1 x5.toNat (0 : Int))) (some false) (k_l4 x0 x1 (W .i64 (x5 + (1 : Int))))) (none)) (none)) (some true)
noncomputable def novationhelp_Nums.l4 (N : Nat) : Nat → (List (Int)) → (List (Int)) → (Int) → Option ((Bool))
  | 0, _, _, _ => none
  | n + 1, x0, x1, x5 => novationhelp_Nums.l4b N (novationhelp_Nums.l4 N n) x0 x1 x5
noncomputable def novationhelp_Nums.b (N : Nat) (s_l4 : (List (Int)) → (List (Int)) → (Int) → Option ((Bool))) (a0 : List (Int)) (a1 : List (Int)) : Option ((Bool)) :=
  cond (!eqB (List.length a0 : Int) (List.length a1 : Int)) (some false) (s_l4 a0 a1 (0 : Int))
noncomputable def novationhelp_Nums (N : Nat) (a0 : List (Int)) (a1 : List (Int)) : Option ((Bool)) :=
  novationhelp_Nums.b N (novationhelp_Nums.l4 N N) a0 a1

/-! ### novation/novationlaw3.known: function 9 -/
noncomputable def novationlaw3_known (N : Nat) : Option ((Bool)) :=
  (share_Split N (10 : Int) ([(1 : Int), (1 : Int), (1 : Int)])).bind fun r1 => (share_Even N (7 : Int) (3 : Int)).bind fun r2 => (share_Capped N (10 : Int) ([(1 : Int), (1 : Int), (1 : Int)]) ([(2 : Int), (9 : Int), (9 : Int)])).bind fun r3 => (share_Split N (1 : Int) ([(0 : Int)])).bind fun r4 => cond (eqB r1.2 (0 : Int)) ((novationhelp_Ints N r1.1 ([(4 : Int), (3 : Int), (3 : Int)])).bind fun r5 => cond (r5) (cond (eqB r2.2 (0 : Int)) ((novationhelp_Ints N r2.1 ([(3 : Int), (2 : Int), (2 : Int)])).bind fun r6 => cond (r6) (cond (eqB r3.2.2 (0 : Int)) (cond (eqB r3.2.1 (0 : Int)) ((novationhelp_Ints N r3.1 ([(2 : Int), (4 : Int), (4 : Int)])).bind fun r7 => cond (r7) (cond (eqB r4.2 (1 : Int)) ((share_Order N ([(1 : Int), (5 : Int), (5 : Int)])).bind fun r8 => (novationhelp_Nums N r8 ([(1 : Int), (2 : Int), (0 : Int)])).bind fun r9 => some r9) (some false)) (some false)) (some false)) (some false)) (some false)) (some false)) (some false)) (some false)

/-! ### novation/novationref1.wrong: function 34 -/
noncomputable def novationref1_wrong.l4b (N : Nat) (k_l4 : (List (Int)) → (Int) → Option ((Bool))) (x1 : List (Int)) (x5 : Int) : Option ((Bool)) :=
  cond (ltB x5 (List.length x1 : Int)) (cond (inb x5 (List.length x1)) (cond (ltB (List.getD x1 x5.toNat (0 : Int)) (0 : Int)) (some true) (k_l4 x1 (W .i64 (x5 + (1 : Int))))) (none)) (some false)
noncomputable def novationref1_wrong.l4 (N : Nat) : Nat → (List (Int)) → (Int) → Option ((Bool))
  | 0, _, _ => none
  | n + 1, x1, x5 => novationref1_wrong.l4b N (novationref1_wrong.l4 N n) x1 x5
noncomputable def novationref1_wrong.b (N : Nat) (s_l4 : (List (Int)) → (Int) → Option ((Bool))) (a0 : Int) (a1 : List (Int)) : Option ((Bool)) :=
  cond (ltB a0 (0 : Int)) (some true) (cond (ltB (64 : Int) (List.length a1 : Int)) (some true) (s_l4 a1 (0 : Int)))
noncomputable def novationref1_wrong (N : Nat) (a0 : Int) (a1 : List (Int)) : Option ((Bool)) :=
  novationref1_wrong.b N (novationref1_wrong.l4 N N) a0 a1

/-! ### novation/novationref1.trim: function 59 -/
noncomputable def novationref1_trim.l2b (N : Nat) (k_l2 : (List (Int)) → (Int) → Option ((List (Int)))) (x0 : List (Int)) (x3 : Int) : Option ((List (Int))) :=
  cond (ltB (0 : Int) x3) (let v2 : Int := W .i64 (x3 - (1 : Int)); cond (inb v2 (List.length x0)) (cond (eqB (List.getD x0 v2.toNat (0 : Int)) (0 : Int)) (k_l2 x0 (W .i64 (x3 - (1 : Int)))) (cond (okCut (0 : Int) x3 x3 (List.length x0 : Int)) (some (List.drop (0 : Int).toNat (List.take x3.toNat x0))) (none))) (none)) (cond (okCut (0 : Int) x3 x3 (List.length x0 : Int)) (some (List.drop (0 : Int).toNat (List.take x3.toNat x0))) (none))
noncomputable def novationref1_trim.l2 (N : Nat) : Nat → (List (Int)) → (Int) → Option ((List (Int)))
  | 0, _, _ => none
  | n + 1, x0, x3 => novationref1_trim.l2b N (novationref1_trim.l2 N n) x0 x3
noncomputable def novationref1_trim.b (N : Nat) (s_l2 : (List (Int)) → (Int) → Option ((List (Int)))) (a0 : List (Int)) : Option ((List (Int))) :=
  s_l2 a0 (List.length a0 : Int)
noncomputable def novationref1_trim (N : Nat) (a0 : List (Int)) : Option ((List (Int))) :=
  novationref1_trim.b N (novationref1_trim.l2 N N) a0

/-! ### novation/novationref1.size: function 41 -/
noncomputable def novationref1_size (N : Nat) (a0 : Int) : Option ((List (Int))) :=
  cond (ltB (32 : Int) 0) (none) ((novationref1_trim N ([(bitw .and .u64 a0 (4294967295 : Int)), (shr .u64 a0 (32 : Int))])).bind fun r3 => some r3)

/-! ### novation/novationref1.made: function 40 -/
noncomputable def novationref1_made (N : Nat) (a0 : Bool) (a1 : List (Int)) : Option ((Ty.den tBig)) :=
  (novationref1_trim N a1).bind fun r1 => cond (a0) (some (ltB (0 : Int) (List.length r1 : Int), (r1, ()))) (some (false, (r1, ())))

/-! ### novation/novationref1.Whole: function 24 -/
noncomputable def novationref1_Whole (N : Nat) (a0 : Int) : Option ((Ty.den tBig)) :=
  let v1 : Int := W .u64 a0; cond (ltB a0 (0 : Int)) ((novationref1_size N (W .u64 (0 - v1))).bind fun r3 => (novationref1_made N (ltB a0 (0 : Int)) r3).bind fun r4 => some r4) ((novationref1_size N v1).bind fun r5 => (novationref1_made N (ltB a0 (0 : Int)) r5).bind fun r6 => some r6)

/-! ### novation/novationref1.digit: function 43 -/
noncomputable def novationref1_digit (N : Nat) (a0 : List (Int)) (a1 : Int) : Option ((Int)) :=
  cond (ltB a1 (List.length a0 : Int)) (cond (inb a1 (List.length a0)) (some (List.getD a0 a1.toNat (0 : Int))) (none)) (some (0 : Int))

/-! ### novation/novationref1.addSizes: function 44 -/
noncomputable def novationref1_addSizes.j6b (N : Nat) (k_l4 : (List (Int)) → (List (Int)) → (List (Int)) → (Int) → (Int) → Option ((List (Int)))) (x0 : List (Int)) (x1 : List (Int)) (x5 : List (Int)) (x6 : Int) (x7 : Int) : Option ((List (Int))) :=
  (novationref1_digit N x0 x7).bind fun r3 => (novationref1_digit N x1 x7).bind fun r4 => let v6 : Int := W .u64 (x6 + (W .u64 (r3 + r4))); let v7 : Int := bitw .and .u64 v6 (4294967295 : Int); cond (small (List.length x5 + List.length ([v7]))) (cond (ltB (32 : Int) 0) (none) (k_l4 x0 x1 (x5 ++ ([v7])) (shr .u64 v6 (32 : Int)) (W .i64 (x7 + (1 : Int))))) (none)
noncomputable def novationref1_addSizes.j6 (N : Nat) (k_l4 : (List (Int)) → (List (Int)) → (List (Int)) → (Int) → (Int) → Option ((List (Int)))) (x0 : List (Int)) (x1 : List (Int)) (x5 : List (Int)) (x6 : Int) (x7 : Int) : Option ((List (Int))) :=
  novationref1_addSizes.j6b N k_l4 x0 x1 x5 x6 x7
noncomputable def novationref1_addSizes.l4b (N : Nat) (s_j6 : (List (Int)) → (List (Int)) → (List (Int)) → (Int) → (Int) → Option ((List (Int)))) (k_l4 : (List (Int)) → (List (Int)) → (List (Int)) → (Int) → (Int) → Option ((List (Int)))) (x0 : List (Int)) (x1 : List (Int)) (x5 : List (Int)) (x6 : Int) (x7 : Int) : Option ((List (Int))) :=
  cond (ltB x7 (List.length x0 : Int)) (s_j6 x0 x1 x5 x6 x7) (cond (ltB x7 (List.length x1 : Int)) (s_j6 x0 x1 x5 x6 x7) (cond (ltB (0 : Int) x6) (s_j6 x0 x1 x5 x6 x7) (some x5)))
noncomputable def novationref1_addSizes.l4 (N : Nat) : Nat → (List (Int)) → (List (Int)) → (List (Int)) → (Int) → (Int) → Option ((List (Int)))
  | 0, _, _, _, _, _ => none
  | n + 1, x0, x1, x5, x6, x7 => novationref1_addSizes.l4b N (novationref1_addSizes.j6 N (novationref1_addSizes.l4 N n)) (novationref1_addSizes.l4 N n) x0 x1 x5 x6 x7
noncomputable def novationref1_addSizes.b (N : Nat) (s_l4 : (List (Int)) → (List (Int)) → (List (Int)) → (Int) → (Int) → Option ((List (Int)))) (a0 : List (Int)) (a1 : List (Int)) : Option ((List (Int))) :=
  s_l4 a0 a1 ([]) (0 : Int) (0 : Int)
noncomputable def novationref1_addSizes (N : Nat) (a0 : List (Int)) (a1 : List (Int)) : Option ((List (Int))) :=
  novationref1_addSizes.b N (novationref1_addSizes.l4 N N) a0 a1

/-! ### novation/novationref1.cmpSizes: function 45 -/
noncomputable def novationref1_cmpSizes.l6b (N : Nat) (k_l6 : (List (Int)) → (List (Int)) → (Int) → Option ((Int))) (x0 : List (Int)) (x1 : List (Int)) (x5 : Int) : Option ((Int)) :=
  cond (leB (0 : Int) x5) (cond (inb x5 (List.length x0)) (cond (inb x5 (List.length x1)) (cond (ltB (List.getD x0 x5.toNat (0 : Int)) (List.getD x1 x5.toNat (0 : Int))) (some (-1 : Int)) (cond (inb x5 (List.length x0)) (cond (inb x5 (List.length x1)) (cond (ltB (List.getD x1 x5.toNat (0 : Int)) (List.getD x0 x5.toNat (0 : Int))) (some (1 : Int)) (k_l6 x0 x1 (W .i64 (x5 - (1 : Int))))) (none)) (none))) (none)) (none)) (some (0 : Int))
noncomputable def novationref1_cmpSizes.l6 (N : Nat) : Nat → (List (Int)) → (List (Int)) → (Int) → Option ((Int))
  | 0, _, _, _ => none
  | n + 1, x0, x1, x5 => novationref1_cmpSizes.l6b N (novationref1_cmpSizes.l6 N n) x0 x1 x5
noncomputable def novationref1_cmpSizes.b (N : Nat) (s_l6 : (List (Int)) → (List (Int)) → (Int) → Option ((Int))) (a0 : List (Int)) (a1 : List (Int)) : Option ((Int)) :=
  cond (!eqB (List.length a0 : Int) (List.length a1 : Int)) (cond (ltB (List.length a0 : Int) (List.length a1 : Int)) (some (-1 : Int)) (some (1 : Int))) (s_l6 a0 a1 (W .i64 ((List.length a0 : Int) - (1 : Int))))
noncomputable def novationref1_cmpSizes (N : Nat) (a0 : List (Int)) (a1 : List (Int)) : Option ((Int)) :=
  novationref1_cmpSizes.b N (novationref1_cmpSizes.l6 N N) a0 a1

/-! ### novation/novationref1.subSizes: function 46 -/
noncomputable def novationref1_subSizes.l4b (N : Nat) (k_l4 : (List (Int)) → (List (Int)) → (List (Int)) → (Int) → (Int) → Option ((List (Int)))) (x0 : List (Int)) (x1 : List (Int)) (x5 : List (Int)) (x6 : Int) (x7 : Int) : Option ((List (Int))) :=
  cond (ltB x7 (List.length x0 : Int)) (cond (inb x7 (List.length x0)) ((novationref1_digit N x1 x7).bind fun r2 => let v3 : Int := W .u64 (r2 + x6); cond (ltB (List.getD x0 x7.toNat (0 : Int)) v3) (let v5 : Int := W .u64 ((W .u64 ((List.getD x0 x7.toNat (0 : Int)) + (4294967296 : Int))) - v3); cond (small (List.length x5 + List.length ([v5]))) (k_l4 x0 x1 (x5 ++ ([v5])) (1 : Int) (W .i64 (x7 + (1 : Int)))) (none)) (let v8 : Int := W .u64 ((List.getD x0 x7.toNat (0 : Int)) - v3); cond (small (List.length x5 + List.length ([v8]))) (k_l4 x0 x1 (x5 ++ ([v8])) (0 : Int) (W .i64 (x7 + (1 : Int)))) (none))) (none)) (some x5)
noncomputable def novationref1_subSizes.l4 (N : Nat) : Nat → (List (Int)) → (List (Int)) → (List (Int)) → (Int) → (Int) → Option ((List (Int)))
  | 0, _, _, _, _, _ => none
  | n + 1, x0, x1, x5, x6, x7 => novationref1_subSizes.l4b N (novationref1_subSizes.l4 N n) x0 x1 x5 x6 x7
noncomputable def novationref1_subSizes.b (N : Nat) (s_l4 : (List (Int)) → (List (Int)) → (List (Int)) → (Int) → (Int) → Option ((List (Int)))) (a0 : List (Int)) (a1 : List (Int)) : Option ((List (Int))) :=
  s_l4 a0 a1 ([]) (0 : Int) (0 : Int)
noncomputable def novationref1_subSizes (N : Nat) (a0 : List (Int)) (a1 : List (Int)) : Option ((List (Int))) :=
  novationref1_subSizes.b N (novationref1_subSizes.l4 N N) a0 a1

/-! ### novation/novationref1.Plus: function 28 -/
noncomputable def novationref1_Plus (N : Nat) (a0 : Ty.den tBig) (a1 : Ty.den tBig) : Option ((Ty.den tBig)) :=
  cond (teq .bool a0.1 a1.1) ((novationref1_addSizes N a0.2.1 a1.2.1).bind fun r1 => (novationref1_made N a0.1 r1).bind fun r2 => some r2) ((novationref1_cmpSizes N a0.2.1 a1.2.1).bind fun r3 => cond (leB (0 : Int) r3) ((novationref1_subSizes N a0.2.1 a1.2.1).bind fun r4 => (novationref1_made N a0.1 r4).bind fun r5 => some r5) ((novationref1_subSizes N a1.2.1 a0.2.1).bind fun r6 => (novationref1_made N a1.1 r6).bind fun r7 => some r7))

/-! ### novation/novationref1.SumInts: function 21 -/
noncomputable def novationref1_SumInts.l3b (N : Nat) (k_l3 : (List (Int)) → (Ty.den tBig) → (Ty.den tBig) → (Int) → Option ((Ty.den tBig))) (x0 : List (Int)) (x2 : Ty.den tBig) (x3 : Ty.den tBig) (x4 : Int) : Option ((Ty.den tBig)) :=
  cond (ltB x4 (List.length x0 : Int)) (cond (inb x4 (List.length x0)) ((novationref1_Whole N (List.getD x0 x4.toNat (0 : Int))).bind fun r2 => (novationref1_Plus N x3 r2).bind fun r3 => k_l3 x0 x2 r3 (W .i64 (x4 + (1 : Int)))) (none)) (some x3)
noncomputable def novationref1_SumInts.l3 (N : Nat) : Nat → (List (Int)) → (Ty.den tBig) → (Ty.den tBig) → (Int) → Option ((Ty.den tBig))
  | 0, _, _, _, _ => none
  | n + 1, x0, x2, x3, x4 => novationref1_SumInts.l3b N (novationref1_SumInts.l3 N n) x0 x2 x3 x4
noncomputable def novationref1_SumInts.b (N : Nat) (s_l3 : (List (Int)) → (Ty.den tBig) → (Ty.den tBig) → (Int) → Option ((Ty.den tBig))) (a0 : List (Int)) : Option ((Ty.den tBig)) :=
  s_l3 a0 (false, ([], ())) (false, ([], ())) (0 : Int)
noncomputable def novationref1_SumInts (N : Nat) (a0 : List (Int)) : Option ((Ty.den tBig)) :=
  novationref1_SumInts.b N (novationref1_SumInts.l3 N N) a0

/-! ### novation/novationref1.Sign: function 22 -/
noncomputable def novationref1_Sign (N : Nat) (a0 : Ty.den tBig) : Option ((Int)) :=
  cond (eqB (List.length a0.2.1 : Int) (0 : Int)) (some (0 : Int)) (cond (a0.1) (some (-1 : Int)) (some (1 : Int)))

/-! ### novation/novationref1.Int: function 35 -/
noncomputable def novationref1_Int (N : Nat) (a0 : Ty.den tBig) : Option ((Int) × (Bool)) :=
  cond (ltB (2 : Int) (List.length a0.2.1 : Int)) (some ((0 : Int), false)) ((novationref1_digit N a0.2.1 (0 : Int)).bind fun r1 => (novationref1_digit N a0.2.1 (1 : Int)).bind fun r2 => cond (ltB (32 : Int) 0) (none) (let v4 : Int := bitw .or .u64 r1 (W .u64 (shl .u64 r2 (32 : Int))); cond (a0.1) (cond (ltB (9223372036854775808 : Int) v4) (some ((0 : Int), false)) (some ((W .i64 (W .u64 (0 - v4))), true))) (cond (ltB (9223372036854775807 : Int) v4) (some ((0 : Int), false)) (some ((W .i64 v4), true)))))

/-! ### novation/novationref1.Times: function 27 -/
noncomputable def novationref1_Times.j9b (N : Nat) (k_l3 : (Ty.den tBig) → (Ty.den tBig) → (Ty.den tBig) → (List (Int)) → (Int) → Option ((Ty.den tBig))) (k_l7 : (Ty.den tBig) → (Ty.den tBig) → (Ty.den tBig) → (List (Int)) → (Int) → (Int) → (Int) → Option ((Ty.den tBig))) (x2 : Ty.den tBig) (x3 : Ty.den tBig) (x4 : Ty.den tBig) (x5 : List (Int)) (x6 : Int) (x7 : Int) (x8 : Int) : Option ((Ty.den tBig)) :=
  let v7 : Int := W .i64 (x6 + x8); cond (inb v7 (List.length x5)) (cond (inb x6 (List.length x2.2.1)) ((novationref1_digit N x3.2.1 x8).bind fun r8 => let v11 : Int := W .u64 (x7 + (W .u64 ((List.getD x5 v7.toNat (0 : Int)) + (W .u64 ((List.getD x2.2.1 x6.toNat (0 : Int)) * r8))))); let v12 : Int := W .i64 (x6 + x8); cond (inb v12 (List.length x5)) (cond (ltB (32 : Int) 0) (none) (k_l7 x2 x3 x4 (List.set x5 v12.toNat (bitw .and .u64 v11 (4294967295 : Int))) x6 (shr .u64 v11 (32 : Int)) (W .i64 (x8 + (1 : Int))))) (none)) (none)) (none)
noncomputable def novationref1_Times.j9 (N : Nat) (k_l3 : (Ty.den tBig) → (Ty.den tBig) → (Ty.den tBig) → (List (Int)) → (Int) → Option ((Ty.den tBig))) (k_l7 : (Ty.den tBig) → (Ty.den tBig) → (Ty.den tBig) → (List (Int)) → (Int) → (Int) → (Int) → Option ((Ty.den tBig))) (x2 : Ty.den tBig) (x3 : Ty.den tBig) (x4 : Ty.den tBig) (x5 : List (Int)) (x6 : Int) (x7 : Int) (x8 : Int) : Option ((Ty.den tBig)) :=
  novationref1_Times.j9b N k_l3 k_l7 x2 x3 x4 x5 x6 x7 x8
noncomputable def novationref1_Times.l7b (N : Nat) (s_j9 : (Ty.den tBig) → (Ty.den tBig) → (Ty.den tBig) → (List (Int)) → (Int) → (Int) → (Int) → Option ((Ty.den tBig))) (k_l3 : (Ty.den tBig) → (Ty.den tBig) → (Ty.den tBig) → (List (Int)) → (Int) → Option ((Ty.den tBig))) (k_l7 : (Ty.den tBig) → (Ty.den tBig) → (Ty.den tBig) → (List (Int)) → (Int) → (Int) → (Int) → Option ((Ty.den tBig))) (x2 : Ty.den tBig) (x3 : Ty.den tBig) (x4 : Ty.den tBig) (x5 : List (Int)) (x6 : Int) (x7 : Int) (x8 : Int) : Option ((Ty.den tBig)) :=
  cond (ltB x8 (List.length x3.2.1 : Int)) (s_j9 x2 x3 x4 x5 x6 x7 x8) (cond (ltB (0 : Int) x7) (s_j9 x2 x3 x4 x5 x6 x7 x8) (k_l3 x2 x3 x4 x5 (W .i64 (x6 + (1 : Int)))))
noncomputable def novationref1_Times.l7 (N : Nat) (k_l3 : (Ty.den tBig) → (Ty.den tBig) → (Ty.den tBig) → (List (Int)) → (Int) → Option ((Ty.den tBig))) : Nat → (Ty.den tBig) → (Ty.den tBig) → (Ty.den tBig) → (List (Int)) → (Int) → (Int) → (Int) → Option ((Ty.den tBig))
  | 0, _, _, _, _, _, _, _ => none
  | n + 1, x2, x3, x4, x5, x6, x7, x8 => novationref1_Times.l7b N (novationref1_Times.j9 N k_l3 (novationref1_Times.l7 N k_l3 n)) k_l3 (novationref1_Times.l7 N k_l3 n) x2 x3 x4 x5 x6 x7 x8
noncomputable def novationref1_Times.l3b (N : Nat) (s_l7 : (Ty.den tBig) → (Ty.den tBig) → (Ty.den tBig) → (List (Int)) → (Int) → (Int) → (Int) → Option ((Ty.den tBig))) (k_l3 : (Ty.den tBig) → (Ty.den tBig) → (Ty.den tBig) → (List (Int)) → (Int) → Option ((Ty.den tBig))) (x2 : Ty.den tBig) (x3 : Ty.den tBig) (x4 : Ty.den tBig) (x5 : List (Int)) (x6 : Int) : Option ((Ty.den tBig)) :=
  cond (ltB x6 (List.length x2.2.1 : Int)) (s_l7 x2 x3 x4 x5 x6 (0 : Int) (0 : Int)) ((novationref1_made N (!(teq .bool x2.1 x3.1)) x5).bind fun r18 => some r18)
noncomputable def novationref1_Times.l3 (N : Nat) : Nat → (Ty.den tBig) → (Ty.den tBig) → (Ty.den tBig) → (List (Int)) → (Int) → Option ((Ty.den tBig))
  | 0, _, _, _, _, _ => none
  | n + 1, x2, x3, x4, x5, x6 => novationref1_Times.l3b N (novationref1_Times.l7 N (novationref1_Times.l3 N n) N) (novationref1_Times.l3 N n) x2 x3 x4 x5 x6
noncomputable def novationref1_Times.b (N : Nat) (s_l3 : (Ty.den tBig) → (Ty.den tBig) → (Ty.den tBig) → (List (Int)) → (Int) → Option ((Ty.den tBig))) (a0 : Ty.den tBig) (a1 : Ty.den tBig) : Option ((Ty.den tBig)) :=
  let v2 : Int := W .i64 ((W .i64 ((List.length a0.2.1 : Int) + (List.length a1.2.1 : Int))) + (1 : Int)); cond (okMake v2 v2) (s_l3 a0 a1 (false, ([], ())) (List.replicate v2.toNat (0 : Int)) (0 : Int)) (none)
noncomputable def novationref1_Times (N : Nat) (a0 : Ty.den tBig) (a1 : Ty.den tBig) : Option ((Ty.den tBig)) :=
  novationref1_Times.b N (novationref1_Times.l3 N N) a0 a1

/-! ### novation/novationref1.half: function 55 -/
noncomputable def novationref1_half.l4b (N : Nat) (k_l4 : (List (Int)) → (List (Int)) → (Int) → (Int) → Option ((List (Int)) × (Int))) (x0 : List (Int)) (x4 : List (Int)) (x5 : Int) (x6 : Int) : Option ((List (Int)) × (Int)) :=
  cond (leB (0 : Int) x6) (cond (ltB (32 : Int) 0) (none) (cond (inb x6 (List.length x0)) (let v5 : Int := bitw .or .u64 (W .u64 (shl .u64 x5 (32 : Int))) (List.getD x0 x6.toNat (0 : Int)); cond (ltB (1 : Int) 0) (none) (cond (inb x6 (List.length x4)) (k_l4 x0 (List.set x4 x6.toNat (shr .u64 v5 (1 : Int))) (bitw .and .u64 v5 (1 : Int)) (W .i64 (x6 - (1 : Int)))) (none))) (none))) ((novationref1_trim N x4).bind fun r10 => some (r10, x5))
noncomputable def novationref1_half.l4 (N : Nat) : Nat → (List (Int)) → (List (Int)) → (Int) → (Int) → Option ((List (Int)) × (Int))
  | 0, _, _, _, _ => none
  | n + 1, x0, x4, x5, x6 => novationref1_half.l4b N (novationref1_half.l4 N n) x0 x4 x5 x6
noncomputable def novationref1_half.b (N : Nat) (s_l4 : (List (Int)) → (List (Int)) → (Int) → (Int) → Option ((List (Int)) × (Int))) (a0 : List (Int)) : Option ((List (Int)) × (Int)) :=
  cond (okMake (List.length a0 : Int) (List.length a0 : Int)) (s_l4 a0 (List.replicate (List.length a0 : Int).toNat (0 : Int)) (0 : Int) (W .i64 ((List.length a0 : Int) - (1 : Int)))) (none)
noncomputable def novationref1_half (N : Nat) (a0 : List (Int)) : Option ((List (Int)) × (Int)) :=
  novationref1_half.b N (novationref1_half.l4 N N) a0

/-! ### novation/novationref1.Turned: function 42 -/
noncomputable def novationref1_Turned (N : Nat) (a0 : Ty.den tBig) : Option ((Ty.den tBig)) :=
  (novationref1_made N (!a0.1) a0.2.1).bind fun r1 => some r1

/-! ### novation/novationref1.Less: function 26 -/
noncomputable def novationref1_Less (N : Nat) (a0 : Ty.den tBig) (a1 : Ty.den tBig) : Option ((Ty.den tBig)) :=
  (novationref1_Turned N a1).bind fun r1 => (novationref1_Plus N a0 r1).bind fun r2 => some r2

/-! ### novation/novationref1.Cmp: function 23 -/
noncomputable def novationref1_Cmp (N : Nat) (a0 : Ty.den tBig) (a1 : Ty.den tBig) : Option ((Int)) :=
  (novationref1_Less N a0 a1).bind fun r1 => (novationref1_Sign N r1).bind fun r2 => some r2

/-! ### novation/novationref1.Over: function 36 -/
noncomputable def novationref1_Over.l9b (N : Nat) (k_l9 : (Ty.den tBig) → (Ty.den tBig) → (Ty.den tBig) → (Ty.den tBig) → (List (Int)) → (Ty.den tBig) → (Ty.den tBig) → (Int) → Option ((Ty.den tBig) × (Ty.den tBig))) (x2 : Ty.den tBig) (x3 : Ty.den tBig) (x4 : Ty.den tBig) (x5 : Ty.den tBig) (x6 : List (Int)) (x10 : Ty.den tBig) (x11 : Ty.den tBig) (x12 : Int) : Option ((Ty.den tBig) × (Ty.den tBig)) :=
  cond (leB (0 : Int) x12) ((novationref1_Plus N x10 x10).bind fun r6 => (novationref1_Plus N x11 x11).bind fun r7 => cond (inb x12 (List.length x6)) (cond (eqB (List.getD x6 x12.toNat (0 : Int)) (1 : Int)) ((novationref1_Whole N (1 : Int)).bind fun r8 => (novationref1_Plus N r7 r8).bind fun r9 => (novationref1_Cmp N r9 x3).bind fun r10 => cond (leB (0 : Int) r10) ((novationref1_Less N r9 x3).bind fun r11 => (novationref1_Whole N (1 : Int)).bind fun r12 => (novationref1_Plus N r6 r12).bind fun r13 => k_l9 x2 x3 x4 x5 x6 r13 r11 (W .i64 (x12 - (1 : Int)))) (k_l9 x2 x3 x4 x5 x6 r6 r9 (W .i64 (x12 - (1 : Int))))) ((novationref1_Cmp N r7 x3).bind fun r16 => cond (leB (0 : Int) r16) ((novationref1_Less N r7 x3).bind fun r17 => (novationref1_Whole N (1 : Int)).bind fun r18 => (novationref1_Plus N r6 r18).bind fun r19 => k_l9 x2 x3 x4 x5 x6 r19 r17 (W .i64 (x12 - (1 : Int)))) (k_l9 x2 x3 x4 x5 x6 r6 r7 (W .i64 (x12 - (1 : Int)))))) (none)) (cond (!x2.1) (some (x10, x11)) ((novationref1_Sign N x11).bind fun r22 => cond (eqB r22 (0 : Int)) ((novationref1_Turned N x10).bind fun r23 => some (r23, x11)) ((novationref1_Turned N x10).bind fun r24 => (novationref1_Whole N (1 : Int)).bind fun r25 => (novationref1_Less N r24 r25).bind fun r26 => (novationref1_Less N x3 x11).bind fun r27 => some (r26, r27))))
noncomputable def novationref1_Over.l9 (N : Nat) : Nat → (Ty.den tBig) → (Ty.den tBig) → (Ty.den tBig) → (Ty.den tBig) → (List (Int)) → (Ty.den tBig) → (Ty.den tBig) → (Int) → Option ((Ty.den tBig) × (Ty.den tBig))
  | 0, _, _, _, _, _, _, _, _ => none
  | n + 1, x2, x3, x4, x5, x6, x10, x11, x12 => novationref1_Over.l9b N (novationref1_Over.l9 N n) x2 x3 x4 x5 x6 x10 x11 x12
noncomputable def novationref1_Over.l3b (N : Nat) (s_l9 : (Ty.den tBig) → (Ty.den tBig) → (Ty.den tBig) → (Ty.den tBig) → (List (Int)) → (Ty.den tBig) → (Ty.den tBig) → (Int) → Option ((Ty.den tBig) × (Ty.den tBig))) (k_l3 : (Ty.den tBig) → (Ty.den tBig) → (Ty.den tBig) → (Ty.den tBig) → (List (Int)) → (List (Int)) → Option ((Ty.den tBig) × (Ty.den tBig))) (x2 : Ty.den tBig) (x3 : Ty.den tBig) (x4 : Ty.den tBig) (x5 : Ty.den tBig) (x6 : List (Int)) (x7 : List (Int)) : Option ((Ty.den tBig) × (Ty.den tBig)) :=
  cond (ltB (0 : Int) (List.length x7 : Int)) ((novationref1_half N x7).bind fun r2 => cond (small (List.length x6 + List.length ([r2.2]))) (k_l3 x2 x3 x4 x5 (x6 ++ ([r2.2])) r2.1) (none)) (s_l9 x2 x3 x4 x5 x6 (false, ([], ())) (false, ([], ())) (W .i64 ((List.length x6 : Int) - (1 : Int))))
noncomputable def novationref1_Over.l3 (N : Nat) : Nat → (Ty.den tBig) → (Ty.den tBig) → (Ty.den tBig) → (Ty.den tBig) → (List (Int)) → (List (Int)) → Option ((Ty.den tBig) × (Ty.den tBig))
  | 0, _, _, _, _, _, _ => none
  | n + 1, x2, x3, x4, x5, x6, x7 => novationref1_Over.l3b N (novationref1_Over.l9 N N) (novationref1_Over.l3 N n) x2 x3 x4 x5 x6 x7
noncomputable def novationref1_Over.b (N : Nat) (s_l3 : (Ty.den tBig) → (Ty.den tBig) → (Ty.den tBig) → (Ty.den tBig) → (List (Int)) → (List (Int)) → Option ((Ty.den tBig) × (Ty.den tBig))) (a0 : Ty.den tBig) (a1 : Ty.den tBig) : Option ((Ty.den tBig) × (Ty.den tBig)) :=
  s_l3 a0 a1 (false, ([], ())) (false, ([], ())) ([]) a0.2.1
noncomputable def novationref1_Over (N : Nat) (a0 : Ty.den tBig) (a1 : Ty.den tBig) : Option ((Ty.den tBig) × (Ty.den tBig)) :=
  novationref1_Over.b N (novationref1_Over.l3 N N) a0 a1

/-! ### novation/novationref1.Order: function 17 -/
noncomputable def novationref1_Order.j8b (N : Nat) (k_l3 : (List (Int)) → (List (Int)) → (Int) → Option ((List (Int)))) (x0 : List (Int)) (x3 : List (Int)) (x4 : Int) (x5 : Int) : Option ((List (Int))) :=
  cond (okCut (0 : Int) x5 (List.length x3 : Int) (List.length x3 : Int)) (let v5 : List (Int) := List.drop (0 : Int).toNat (List.take x5.toNat x3); cond (small (List.length v5)) (cond (small (List.length v5 + List.length ([x4]))) (let v6 : List (Int) := v5 ++ ([x4]); cond (okCut x5 (List.length x3 : Int) (List.length x3 : Int) (List.length x3 : Int)) (let v7 : List (Int) := List.drop x5.toNat (List.take (List.length x3 : Int).toNat x3); cond (small (List.length v6 + List.length v7)) (k_l3 x0 (v6 ++ v7) (W .i64 (x4 + (1 : Int)))) (none)) (none)) (none)) (none)) (none)
noncomputable def novationref1_Order.j8 (N : Nat) (k_l3 : (List (Int)) → (List (Int)) → (Int) → Option ((List (Int)))) (x0 : List (Int)) (x3 : List (Int)) (x4 : Int) (x5 : Int) : Option ((List (Int))) :=
  novationref1_Order.j8b N k_l3 x0 x3 x4 x5
noncomputable def novationref1_Order.l6b (N : Nat) (s_j8 : (List (Int)) → (List (Int)) → (Int) → (Int) → Option ((List (Int)))) (k_l3 : (List (Int)) → (List (Int)) → (Int) → Option ((List (Int)))) (k_l6 : (List (Int)) → (List (Int)) → (Int) → (Int) → Option ((List (Int)))) (x0 : List (Int)) (x3 : List (Int)) (x4 : Int) (x5 : Int) : Option ((List (Int))) :=
  cond (ltB x5 (List.length x3 : Int)) (cond (inb x5 (List.length x3)) (cond (inb (List.getD x3 x5.toNat (0 : Int)) (List.length x0)) (cond (inb x4 (List.length x0)) (cond (leB (List.getD x0 x4.toNat (0 : Int)) (List.getD x0 (List.getD x3 x5.toNat (0 : Int)).toNat (0 : Int))) (k_l6 x0 x3 x4 (W .i64 (x5 + (1 : Int)))) (s_j8 x0 x3 x4 x5)) (none)) (none)) (none)) (s_j8 x0 x3 x4 x5)
noncomputable def novationref1_Order.l6 (N : Nat) (k_l3 : (List (Int)) → (List (Int)) → (Int) → Option ((List (Int)))) : Nat → (List (Int)) → (List (Int)) → (Int) → (Int) → Option ((List (Int)))
  | 0, _, _, _, _ => none
  | n + 1, x0, x3, x4, x5 => novationref1_Order.l6b N (novationref1_Order.j8 N k_l3) k_l3 (novationref1_Order.l6 N k_l3 n) x0 x3 x4 x5
noncomputable def novationref1_Order.l3b (N : Nat) (s_l6 : (List (Int)) → (List (Int)) → (Int) → (Int) → Option ((List (Int)))) (k_l3 : (List (Int)) → (List (Int)) → (Int) → Option ((List (Int)))) (x0 : List (Int)) (x3 : List (Int)) (x4 : Int) : Option ((List (Int))) :=
  cond (ltB x4 (List.length x0 : Int)) (s_l6 x0 x3 x4 (0 : Int)) (some x3)
noncomputable def novationref1_Order.l3 (N : Nat) : Nat → (List (Int)) → (List (Int)) → (Int) → Option ((List (Int)))
  | 0, _, _, _ => none
  | n + 1, x0, x3, x4 => novationref1_Order.l3b N (novationref1_Order.l6 N (novationref1_Order.l3 N n) N) (novationref1_Order.l3 N n) x0 x3 x4
noncomputable def novationref1_Order.b (N : Nat) (s_l3 : (List (Int)) → (List (Int)) → (Int) → Option ((List (Int)))) (a0 : List (Int)) : Option ((List (Int))) :=
  s_l3 a0 ([]) (0 : Int)
noncomputable def novationref1_Order (N : Nat) (a0 : List (Int)) : Option ((List (Int))) :=
  novationref1_Order.b N (novationref1_Order.l3 N N) a0

/-! ### novation/novationref1.Split: function 11 -/
noncomputable def novationref1_Split.l22b (N : Nat) (k_l22 : (List (Int)) → (Int) → (List (Int)) → (Int) → Option ((List (Int)) × (Int))) (x9 : List (Int)) (x11 : Int) (x15 : List (Int)) (x16 : Int) : Option ((List (Int)) × (Int)) :=
  cond (ltB x16 (List.length x15 : Int)) (cond (ltB (0 : Int) x11) (cond (inb x16 (List.length x15)) (cond (inb (List.getD x15 x16.toNat (0 : Int)) (List.length x9)) (cond (inb (List.getD x15 x16.toNat (0 : Int)) (List.length x9)) (k_l22 (List.set x9 (List.getD x15 x16.toNat (0 : Int)).toNat (W .i64 ((List.getD x9 (List.getD x15 x16.toNat (0 : Int)).toNat (0 : Int)) + (1 : Int)))) (W .i64 (x11 - (1 : Int))) x15 (W .i64 (x16 + (1 : Int)))) (none)) (none)) (none)) (some (x9, (0 : Int)))) (some (x9, (0 : Int)))
noncomputable def novationref1_Split.l22 (N : Nat) : Nat → (List (Int)) → (Int) → (List (Int)) → (Int) → Option ((List (Int)) × (Int))
  | 0, _, _, _, _ => none
  | n + 1, x9, x11, x15, x16 => novationref1_Split.l22b N (novationref1_Split.l22 N n) x9 x11 x15 x16
noncomputable def novationref1_Split.l14b (N : Nat) (s_l22 : (List (Int)) → (Int) → (List (Int)) → (Int) → Option ((List (Int)) × (Int))) (k_l14 : (Int) → (List (Int)) → (Ty.den tBig) → (List (Int)) → (List (Int)) → (Int) → (Int) → Option ((List (Int)) × (Int))) (x0 : Int) (x1 : List (Int)) (x6 : Ty.den tBig) (x9 : List (Int)) (x10 : List (Int)) (x11 : Int) (x12 : Int) : Option ((List (Int)) × (Int)) :=
  cond (ltB x12 (List.length x1 : Int)) ((novationref1_Whole N x0).bind fun r10 => cond (inb x12 (List.length x1)) ((novationref1_Whole N (List.getD x1 x12.toNat (0 : Int))).bind fun r11 => (novationref1_Times N r10 r11).bind fun r12 => (novationref1_Over N r12 x6).bind fun r13 => (novationref1_Int N r13.1).bind fun r14 => cond (inb x12 (List.length x9)) (let v15 : List (Int) := List.set x9 x12.toNat r14.1; (novationref1_Int N r13.2).bind fun r16 => cond (inb x12 (List.length x10)) (cond (inb x12 (List.length v15)) (k_l14 x0 x1 x6 v15 (List.set x10 x12.toNat r16.1) (W .i64 (x11 - (List.getD v15 x12.toNat (0 : Int)))) (W .i64 (x12 + (1 : Int)))) (none)) (none)) (none)) (none)) ((novationref1_Order N x10).bind fun r20 => s_l22 x9 x11 r20 (0 : Int))
noncomputable def novationref1_Split.l14 (N : Nat) : Nat → (Int) → (List (Int)) → (Ty.den tBig) → (List (Int)) → (List (Int)) → (Int) → (Int) → Option ((List (Int)) × (Int))
  | 0, _, _, _, _, _, _, _ => none
  | n + 1, x0, x1, x6, x9, x10, x11, x12 => novationref1_Split.l14b N (novationref1_Split.l22 N N) (novationref1_Split.l14 N n) x0 x1 x6 x9 x10 x11 x12
noncomputable def novationref1_Split.j6b (N : Nat) (s_l14 : (Int) → (List (Int)) → (Ty.den tBig) → (List (Int)) → (List (Int)) → (Int) → (Int) → Option ((List (Int)) × (Int))) (x0 : Int) (x1 : List (Int)) (x6 : Ty.den tBig) : Option ((List (Int)) × (Int)) :=
  (novationref1_Int N x6).bind fun r5 => cond (!r5.2) (some ([], (2 : Int))) (cond (okMake (List.length x1 : Int) (List.length x1 : Int)) (let v6 : List (Int) := List.replicate (List.length x1 : Int).toNat (0 : Int); cond (okMake (List.length x1 : Int) (List.length x1 : Int)) ((novationref1_Sign N x6).bind fun r8 => cond (eqB r8 (0 : Int)) (some (v6, (0 : Int))) (s_l14 x0 x1 x6 v6 (List.replicate (List.length x1 : Int).toNat (0 : Int)) x0 (0 : Int))) (none)) (none))
noncomputable def novationref1_Split.j6 (N : Nat) (x0 : Int) (x1 : List (Int)) (x6 : Ty.den tBig) : Option ((List (Int)) × (Int)) :=
  novationref1_Split.j6b N (novationref1_Split.l14 N N) x0 x1 x6
noncomputable def novationref1_Split.b (N : Nat) (s_j6 : (Int) → (List (Int)) → (Ty.den tBig) → Option ((List (Int)) × (Int))) (a0 : Int) (a1 : List (Int)) : Option ((List (Int)) × (Int)) :=
  (novationref1_wrong N a0 a1).bind fun r1 => cond (r1) (some ([], (1 : Int))) ((novationref1_SumInts N a1).bind fun r2 => (novationref1_Sign N r2).bind fun r3 => cond (eqB r3 (0 : Int)) (cond (!eqB a0 (0 : Int)) (some ([], (1 : Int))) (s_j6 a0 a1 r2)) (s_j6 a0 a1 r2))
noncomputable def novationref1_Split (N : Nat) (a0 : Int) (a1 : List (Int)) : Option ((List (Int)) × (Int)) :=
  novationref1_Split.b N (novationref1_Split.j6 N) a0 a1

/-! ### novation/novationref1.Even: function 13 -/
noncomputable def novationref1_Even.l5b (N : Nat) (k_l5 : (Int) → (Int) → (List (Int)) → (Int) → Option ((List (Int)) × (Int))) (x0 : Int) (x1 : Int) (x6 : List (Int)) (x7 : Int) : Option ((List (Int)) × (Int)) :=
  cond (ltB x7 x1) (cond (inb x7 (List.length x6)) (k_l5 x0 x1 (List.set x6 x7.toNat (1 : Int)) (W .i64 (x7 + (1 : Int)))) (none)) ((novationref1_Split N x0 x6).bind fun r5 => some (r5.1, r5.2))
noncomputable def novationref1_Even.l5 (N : Nat) : Nat → (Int) → (Int) → (List (Int)) → (Int) → Option ((List (Int)) × (Int))
  | 0, _, _, _, _ => none
  | n + 1, x0, x1, x6, x7 => novationref1_Even.l5b N (novationref1_Even.l5 N n) x0 x1 x6 x7
noncomputable def novationref1_Even.b (N : Nat) (s_l5 : (Int) → (Int) → (List (Int)) → (Int) → Option ((List (Int)) × (Int))) (a0 : Int) (a1 : Int) : Option ((List (Int)) × (Int)) :=
  cond (ltB a0 (0 : Int)) (some ([], (1 : Int))) (cond (ltB a1 (1 : Int)) (some ([], (1 : Int))) (cond (ltB (64 : Int) a1) (some ([], (1 : Int))) (cond (okMake a1 a1) (s_l5 a0 a1 (List.replicate a1.toNat (0 : Int)) (0 : Int)) (none))))
noncomputable def novationref1_Even (N : Nat) (a0 : Int) (a1 : Int) : Option ((List (Int)) × (Int)) :=
  novationref1_Even.b N (novationref1_Even.l5 N N) a0 a1

/-! ### novation/novationlaw3.ShareSplits: function 3 -/
noncomputable def novationlaw3_ShareSplits (N : Nat) (a0 : Int) (a1 : List (Int)) (a2 : Int) : Option ((Bool)) :=
  (novationlaw3_known N ).bind fun r1 => cond (!r1) (some false) (cond (ltB (70 : Int) (List.length a1 : Int)) (some true) ((share_Split N a0 a1).bind fun r2 => (novationref1_Split N a0 a1).bind fun r3 => (share_Even N a0 a2).bind fun r4 => (novationref1_Even N a0 a2).bind fun r5 => cond (eqB r2.2 r3.2) ((novationhelp_Ints N r2.1 r3.1).bind fun r6 => cond (r6) (cond (eqB r4.2 r5.2) ((novationhelp_Ints N r4.1 r5.1).bind fun r7 => cond (r7) ((share_Order N a1).bind fun r8 => (novationref1_Order N a1).bind fun r9 => (novationhelp_Nums N r8 r9).bind fun r10 => some r10) (some false)) (some false)) (some false)) (some false)))

/-! ### novation/novationref1.Capped: function 19 -/
noncomputable def novationref1_Capped.l19b (N : Nat) (k_l8 : (List (Int)) → (List (Int)) → (List (Int)) → (Int) → (Int) → Option ((List (Int)) × (Int) × (Int))) (k_l19 : (List (Int)) → (List (Int)) → (List (Int)) → (Int) → (Int) → (List (Int)) → (Int) → Option ((List (Int)) × (Int) × (Int))) (x1 : List (Int)) (x2 : List (Int)) (x11 : List (Int)) (x12 : Int) (x13 : Int) (x17 : List (Int)) (x19 : Int) : Option ((List (Int)) × (Int) × (Int)) :=
  cond (ltB x19 (List.length x1 : Int)) (cond (inb x19 (List.length x17)) (cond (inb x19 (List.length x2)) (cond (inb x19 (List.length x11)) (let v16 : Int := mn (List.getD x17 x19.toNat (0 : Int)) (W .i64 ((List.getD x2 x19.toNat (0 : Int)) - (List.getD x11 x19.toNat (0 : Int)))); cond (inb x19 (List.length x11)) (cond (inb x19 (List.length x11)) (k_l19 x1 x2 (List.set x11 x19.toNat (W .i64 ((List.getD x11 x19.toNat (0 : Int)) + v16))) (W .i64 (x12 - v16)) x13 x17 (W .i64 (x19 + (1 : Int)))) (none)) (none)) (none)) (none)) (none)) (k_l8 x1 x2 x11 x12 (W .i64 (x13 + (1 : Int))))
noncomputable def novationref1_Capped.l19 (N : Nat) (k_l8 : (List (Int)) → (List (Int)) → (List (Int)) → (Int) → (Int) → Option ((List (Int)) × (Int) × (Int))) : Nat → (List (Int)) → (List (Int)) → (List (Int)) → (Int) → (Int) → (List (Int)) → (Int) → Option ((List (Int)) × (Int) × (Int))
  | 0, _, _, _, _, _, _, _ => none
  | n + 1, x1, x2, x11, x12, x13, x17, x19 => novationref1_Capped.l19b N k_l8 (novationref1_Capped.l19 N k_l8 n) x1 x2 x11 x12 x13 x17 x19
noncomputable def novationref1_Capped.l12b (N : Nat) (s_l19 : (List (Int)) → (List (Int)) → (List (Int)) → (Int) → (Int) → (List (Int)) → (Int) → Option ((List (Int)) × (Int) × (Int))) (k_l8 : (List (Int)) → (List (Int)) → (List (Int)) → (Int) → (Int) → Option ((List (Int)) × (Int) × (Int))) (k_l12 : (List (Int)) → (List (Int)) → (List (Int)) → (Int) → (Int) → (List (Int)) → (Bool) → (Int) → Option ((List (Int)) × (Int) × (Int))) (x1 : List (Int)) (x2 : List (Int)) (x11 : List (Int)) (x12 : Int) (x13 : Int) (x14 : List (Int)) (x15 : Bool) (x16 : Int) : Option ((List (Int)) × (Int) × (Int)) :=
  cond (ltB x16 (List.length x1 : Int)) (cond (inb x16 (List.length x1)) (cond (ltB (0 : Int) (List.getD x1 x16.toNat (0 : Int))) (cond (inb x16 (List.length x11)) (cond (inb x16 (List.length x2)) (cond (ltB (List.getD x11 x16.toNat (0 : Int)) (List.getD x2 x16.toNat (0 : Int))) (cond (inb x16 (List.length x1)) (cond (inb x16 (List.length x14)) (k_l12 x1 x2 x11 x12 x13 (List.set x14 x16.toNat (List.getD x1 x16.toNat (0 : Int))) true (W .i64 (x16 + (1 : Int)))) (none)) (none)) (k_l12 x1 x2 x11 x12 x13 x14 x15 (W .i64 (x16 + (1 : Int))))) (none)) (none)) (k_l12 x1 x2 x11 x12 x13 x14 x15 (W .i64 (x16 + (1 : Int))))) (none)) (cond (eqB x12 (0 : Int)) (some (x11, x12, (0 : Int))) (cond (!x15) (some (x11, x12, (0 : Int))) ((novationref1_Split N x12 x14).bind fun r13 => s_l19 x1 x2 x11 x12 x13 r13.1 (0 : Int))))
noncomputable def novationref1_Capped.l12 (N : Nat) (k_l8 : (List (Int)) → (List (Int)) → (List (Int)) → (Int) → (Int) → Option ((List (Int)) × (Int) × (Int))) : Nat → (List (Int)) → (List (Int)) → (List (Int)) → (Int) → (Int) → (List (Int)) → (Bool) → (Int) → Option ((List (Int)) × (Int) × (Int))
  | 0, _, _, _, _, _, _, _, _ => none
  | n + 1, x1, x2, x11, x12, x13, x14, x15, x16 => novationref1_Capped.l12b N (novationref1_Capped.l19 N k_l8 N) k_l8 (novationref1_Capped.l12 N k_l8 n) x1 x2 x11 x12 x13 x14 x15 x16
noncomputable def novationref1_Capped.l8b (N : Nat) (s_l12 : (List (Int)) → (List (Int)) → (List (Int)) → (Int) → (Int) → (List (Int)) → (Bool) → (Int) → Option ((List (Int)) × (Int) × (Int))) (k_l8 : (List (Int)) → (List (Int)) → (List (Int)) → (Int) → (Int) → Option ((List (Int)) × (Int) × (Int))) (x1 : List (Int)) (x2 : List (Int)) (x11 : List (Int)) (x12 : Int) (x13 : Int) : Option ((List (Int)) × (Int) × (Int)) :=
  cond (leB x13 (List.length x1 : Int)) (cond (okMake (List.length x1 : Int) (List.length x1 : Int)) (s_l12 x1 x2 x11 x12 x13 (List.replicate (List.length x1 : Int).toNat (0 : Int)) false (0 : Int)) (none)) (some (x11, x12, (0 : Int)))
noncomputable def novationref1_Capped.l8 (N : Nat) : Nat → (List (Int)) → (List (Int)) → (List (Int)) → (Int) → (Int) → Option ((List (Int)) × (Int) × (Int))
  | 0, _, _, _, _, _ => none
  | n + 1, x1, x2, x11, x12, x13 => novationref1_Capped.l8b N (novationref1_Capped.l12 N (novationref1_Capped.l8 N n) N) (novationref1_Capped.l8 N n) x1 x2 x11 x12 x13
noncomputable def novationref1_Capped.b (N : Nat) (s_l8 : (List (Int)) → (List (Int)) → (List (Int)) → (Int) → (Int) → Option ((List (Int)) × (Int) × (Int))) (a0 : Int) (a1 : List (Int)) (a2 : List (Int)) : Option ((List (Int)) × (Int) × (Int)) :=
  (novationref1_wrong N a0 a1).bind fun r1 => cond (r1) (some ([], (0 : Int), (1 : Int))) (cond (!eqB (List.length a2 : Int) (List.length a1 : Int)) (some ([], (0 : Int), (1 : Int))) ((novationref1_wrong N (0 : Int) a2).bind fun r2 => cond (r2) (some ([], (0 : Int), (1 : Int))) ((novationref1_SumInts N a1).bind fun r3 => (novationref1_Int N r3).bind fun r4 => cond (!r4.2) (some ([], (0 : Int), (2 : Int))) (cond (okMake (List.length a1 : Int) (List.length a1 : Int)) (s_l8 a1 a2 (List.replicate (List.length a1 : Int).toNat (0 : Int)) a0 (0 : Int)) (none)))))
noncomputable def novationref1_Capped (N : Nat) (a0 : Int) (a1 : List (Int)) (a2 : List (Int)) : Option ((List (Int)) × (Int) × (Int)) :=
  novationref1_Capped.b N (novationref1_Capped.l8 N N) a0 a1 a2

/-! ### novation/novationlaw3.ShareCaps: function 4 -/
noncomputable def novationlaw3_ShareCaps (N : Nat) (a0 : Int) (a1 : List (Int)) (a2 : List (Int)) : Option ((Bool)) :=
  (novationlaw3_known N ).bind fun r1 => cond (!r1) (some false) (cond (ltB (70 : Int) (List.length a1 : Int)) (some true) (cond (ltB (70 : Int) (List.length a2 : Int)) (some true) ((share_Capped N a0 a1 a2).bind fun r2 => (novationref1_Capped N a0 a1 a2).bind fun r3 => cond (eqB r2.2.2 r3.2.2) (cond (eqB r2.2.1 r3.2.1) ((novationhelp_Ints N r2.1 r3.1).bind fun r4 => some r4) (some false)) (some false))))

/-! ### novation/novationlaw3.weights: function 20 -/
noncomputable def novationlaw3_weights.l3b (N : Nat) (k_l3 : (List (Int)) → (List (Int)) → (Int) → Option ((List (Int)))) (x0 : List (Int)) (x3 : List (Int)) (x4 : Int) : Option ((List (Int))) :=
  cond (ltB x4 (List.length x0 : Int)) (cond (ltB x4 (20 : Int)) (cond (inb x4 (List.length x0)) (cond (eqB (1000 : Int) 0) (none) (cond (inb x4 (List.length x0)) (cond (ltB (20 : Int) 0) (none) (let v6 : Int := W .i64 ((W .i64 (rem (List.getD x0 x4.toNat (0 : Int)) (1000 : Int))) * (W .i64 (shr .u32 (List.getD x0 x4.toNat (0 : Int)) (20 : Int)))); cond (small (List.length x3 + List.length ([v6]))) (k_l3 x0 (x3 ++ ([v6])) (W .i64 (x4 + (1 : Int)))) (none))) (none))) (none)) (some x3)) (some x3)
noncomputable def novationlaw3_weights.l3 (N : Nat) : Nat → (List (Int)) → (List (Int)) → (Int) → Option ((List (Int)))
  | 0, _, _, _ => none
  | n + 1, x0, x3, x4 => novationlaw3_weights.l3b N (novationlaw3_weights.l3 N n) x0 x3 x4
noncomputable def novationlaw3_weights.b (N : Nat) (s_l3 : (List (Int)) → (List (Int)) → (Int) → Option ((List (Int)))) (a0 : List (Int)) : Option ((List (Int))) :=
  s_l3 a0 ([]) (0 : Int)
noncomputable def novationlaw3_weights (N : Nat) (a0 : List (Int)) : Option ((List (Int))) :=
  novationlaw3_weights.b N (novationlaw3_weights.l3 N N) a0

/-! ### novation/novationref1.Sized: function 25 -/
noncomputable def novationref1_Sized (N : Nat) (a0 : Ty.den tBig) : Option ((Ty.den tBig)) :=
  (novationref1_made N false a0.2.1).bind fun r1 => some r1

/-! ### novation/novationlaw3.ShareTotal: function 5 -/
noncomputable def novationlaw3_ShareTotal.l17b (N : Nat) (k_l11 : (List (Int)) → (Int) → (Ty.den tBig) → (List (Int)) → (Int) → Option ((Bool))) (k_l17 : (List (Int)) → (Int) → (Ty.den tBig) → (List (Int)) → (Int) → (Int) → Option ((Bool))) (x5 : List (Int)) (x6 : Int) (x7 : Ty.den tBig) (x8 : List (Int)) (x10 : Int) (x12 : Int) : Option ((Bool)) :=
  cond (ltB x12 x10) (cond (inb x12 (List.length x5)) (cond (inb x10 (List.length x5)) (cond (ltB (List.getD x5 x10.toNat (0 : Int)) (List.getD x5 x12.toNat (0 : Int))) (cond (inb x12 (List.length x8)) (cond (inb x10 (List.length x8)) (cond (ltB (List.getD x8 x12.toNat (0 : Int)) (List.getD x8 x10.toNat (0 : Int))) (some false) (cond (inb x12 (List.length x5)) (cond (inb x10 (List.length x5)) (cond (eqB (List.getD x5 x12.toNat (0 : Int)) (List.getD x5 x10.toNat (0 : Int))) (cond (inb x12 (List.length x8)) (cond (inb x10 (List.length x8)) (cond (ltB (List.getD x8 x12.toNat (0 : Int)) (List.getD x8 x10.toNat (0 : Int))) (some false) (cond (inb x12 (List.length x8)) (cond (inb x10 (List.length x8)) (cond (ltB (W .i64 ((List.getD x8 x10.toNat (0 : Int)) + (1 : Int))) (List.getD x8 x12.toNat (0 : Int))) (some false) (k_l17 x5 x6 x7 x8 x10 (W .i64 (x12 + (1 : Int))))) (none)) (none))) (none)) (none)) (k_l17 x5 x6 x7 x8 x10 (W .i64 (x12 + (1 : Int))))) (none)) (none))) (none)) (none)) (cond (inb x12 (List.length x5)) (cond (inb x10 (List.length x5)) (cond (eqB (List.getD x5 x12.toNat (0 : Int)) (List.getD x5 x10.toNat (0 : Int))) (cond (inb x12 (List.length x8)) (cond (inb x10 (List.length x8)) (cond (ltB (List.getD x8 x12.toNat (0 : Int)) (List.getD x8 x10.toNat (0 : Int))) (some false) (cond (inb x12 (List.length x8)) (cond (inb x10 (List.length x8)) (cond (ltB (W .i64 ((List.getD x8 x10.toNat (0 : Int)) + (1 : Int))) (List.getD x8 x12.toNat (0 : Int))) (some false) (k_l17 x5 x6 x7 x8 x10 (W .i64 (x12 + (1 : Int))))) (none)) (none))) (none)) (none)) (k_l17 x5 x6 x7 x8 x10 (W .i64 (x12 + (1 : Int))))) (none)) (none))) (none)) (none)) (k_l11 x5 x6 x7 x8 (W .i64 (x10 + (1 : Int))))
noncomputable def novationlaw3_ShareTotal.l17 (N : Nat) (k_l11 : (List (Int)) → (Int) → (Ty.den tBig) → (List (Int)) → (Int) → Option ((Bool))) : Nat → (List (Int)) → (Int) → (Ty.den tBig) → (List (Int)) → (Int) → (Int) → Option ((Bool))
  | 0, _, _, _, _, _, _ => none
  | n + 1, x5, x6, x7, x8, x10, x12 => novationlaw3_ShareTotal.l17b N k_l11 (novationlaw3_ShareTotal.l17 N k_l11 n) x5 x6 x7 x8 x10 x12
noncomputable def novationlaw3_ShareTotal.l11b (N : Nat) (s_l17 : (List (Int)) → (Int) → (Ty.den tBig) → (List (Int)) → (Int) → (Int) → Option ((Bool))) (k_l11 : (List (Int)) → (Int) → (Ty.den tBig) → (List (Int)) → (Int) → Option ((Bool))) (x5 : List (Int)) (x6 : Int) (x7 : Ty.den tBig) (x8 : List (Int)) (x10 : Int) : Option ((Bool)) :=
  cond (ltB x10 (List.length x5 : Int)) (cond (inb x10 (List.length x8)) ((novationref1_Whole N (List.getD x8 x10.toNat (0 : Int))).bind fun r12 => (novationref1_Times N r12 x7).bind fun r13 => (novationref1_Whole N x6).bind fun r14 => cond (inb x10 (List.length x5)) ((novationref1_Whole N (List.getD x5 x10.toNat (0 : Int))).bind fun r15 => (novationref1_Times N r14 r15).bind fun r16 => (novationref1_Less N r13 r16).bind fun r17 => (novationref1_Sized N r17).bind fun r18 => cond (inb x10 (List.length x8)) (cond (ltB (List.getD x8 x10.toNat (0 : Int)) (0 : Int)) (some false) ((novationref1_Cmp N r18 x7).bind fun r19 => cond (leB (0 : Int) r19) (some false) (s_l17 x5 x6 x7 x8 x10 (0 : Int)))) (none)) (none)) (none)) (some true)
noncomputable def novationlaw3_ShareTotal.l11 (N : Nat) : Nat → (List (Int)) → (Int) → (Ty.den tBig) → (List (Int)) → (Int) → Option ((Bool))
  | 0, _, _, _, _, _ => none
  | n + 1, x5, x6, x7, x8, x10 => novationlaw3_ShareTotal.l11b N (novationlaw3_ShareTotal.l17 N (novationlaw3_ShareTotal.l11 N n) N) (novationlaw3_ShareTotal.l11 N n) x5 x6 x7 x8 x10
noncomputable def novationlaw3_ShareTotal.b (N : Nat) (s_l11 : (List (Int)) → (Int) → (Ty.den tBig) → (List (Int)) → (Int) → Option ((Bool))) (a0 : Int) (a1 : List (Int)) : Option ((Bool)) :=
  (novationlaw3_known N ).bind fun r1 => cond (!r1) (some false) ((novationlaw3_weights N a1).bind fun r2 => cond (ltB (1 : Int) 0) (none) (let v4 : Int := W .i64 (shr .u64 a0 (1 : Int)); (novationref1_SumInts N r2).bind fun r5 => (share_Split N v4 r2).bind fun r6 => (novationref1_Sign N r5).bind fun r7 => cond (eqB r7 (0 : Int)) (cond (eqB r6.2 (1 : Int)) (cond (!eqB v4 (0 : Int)) (some true) (cond (eqB r6.2 (0 : Int)) (cond (eqB v4 (0 : Int)) (some (eqB (List.length r6.1 : Int) (List.length r2 : Int))) (some false)) (some false))) (cond (eqB r6.2 (0 : Int)) (cond (eqB v4 (0 : Int)) (some (eqB (List.length r6.1 : Int) (List.length r2 : Int))) (some false)) (some false))) (cond (!eqB r6.2 (0 : Int)) (some false) (cond (!eqB (List.length r6.1 : Int) (List.length r2 : Int)) (some false) ((novationref1_SumInts N r6.1).bind fun r8 => (novationref1_Whole N v4).bind fun r9 => (novationref1_Cmp N r8 r9).bind fun r10 => cond (!eqB r10 (0 : Int)) (some false) (s_l11 r2 v4 r5 r6.1 (0 : Int)))))))
noncomputable def novationlaw3_ShareTotal (N : Nat) (a0 : Int) (a1 : List (Int)) : Option ((Bool)) :=
  novationlaw3_ShareTotal.b N (novationlaw3_ShareTotal.l11 N N) a0 a1

/-! ### novation/novationlaw3.ShareFull: function 6 -/
noncomputable def novationlaw3_ShareFull.l16b (N : Nat) (k_l16 : (List (Int)) → (List (Int)) → (Int) → (List (Int)) → (Int) → (Ty.den tBig) → (Int) → Option ((Bool))) (x7 : List (Int)) (x8 : List (Int)) (x9 : Int) (x12 : List (Int)) (x13 : Int) (x15 : Ty.den tBig) (x16 : Int) : Option ((Bool)) :=
  cond (ltB x16 (List.length x12 : Int)) (cond (inb x16 (List.length x12)) (cond (ltB (List.getD x12 x16.toNat (0 : Int)) (0 : Int)) (some false) (cond (inb x16 (List.length x12)) (cond (inb x16 (List.length x8)) (cond (ltB (List.getD x8 x16.toNat (0 : Int)) (List.getD x12 x16.toNat (0 : Int))) (some false) (cond (inb x16 (List.length x7)) (cond (eqB (List.getD x7 x16.toNat (0 : Int)) (0 : Int)) (cond (inb x16 (List.length x12)) (cond (!eqB (List.getD x12 x16.toNat (0 : Int)) (0 : Int)) (some false) (cond (ltB (0 : Int) x13) (cond (inb x16 (List.length x7)) (cond (ltB (0 : Int) (List.getD x7 x16.toNat (0 : Int))) (cond (inb x16 (List.length x12)) (cond (inb x16 (List.length x8)) (cond (!eqB (List.getD x12 x16.toNat (0 : Int)) (List.getD x8 x16.toNat (0 : Int))) (some false) (k_l16 x7 x8 x9 x12 x13 x15 (W .i64 (x16 + (1 : Int))))) (none)) (none)) (k_l16 x7 x8 x9 x12 x13 x15 (W .i64 (x16 + (1 : Int))))) (none)) (k_l16 x7 x8 x9 x12 x13 x15 (W .i64 (x16 + (1 : Int)))))) (none)) (cond (ltB (0 : Int) x13) (cond (inb x16 (List.length x7)) (cond (ltB (0 : Int) (List.getD x7 x16.toNat (0 : Int))) (cond (inb x16 (List.length x12)) (cond (inb x16 (List.length x8)) (cond (!eqB (List.getD x12 x16.toNat (0 : Int)) (List.getD x8 x16.toNat (0 : Int))) (some false) (k_l16 x7 x8 x9 x12 x13 x15 (W .i64 (x16 + (1 : Int))))) (none)) (none)) (k_l16 x7 x8 x9 x12 x13 x15 (W .i64 (x16 + (1 : Int))))) (none)) (k_l16 x7 x8 x9 x12 x13 x15 (W .i64 (x16 + (1 : Int)))))) (none))) (none)) (none))) (none)) ((novationref1_Whole N x9).bind fun r22 => (novationref1_Cmp N x15 r22).bind fun r23 => some (eqB r23 (0 : Int)))
noncomputable def novationlaw3_ShareFull.l16 (N : Nat) : Nat → (List (Int)) → (List (Int)) → (Int) → (List (Int)) → (Int) → (Ty.den tBig) → (Int) → Option ((Bool))
  | 0, _, _, _, _, _, _, _ => none
  | n + 1, x7, x8, x9, x12, x13, x15, x16 => novationlaw3_ShareFull.l16b N (novationlaw3_ShareFull.l16 N n) x7 x8 x9 x12 x13 x15 x16
noncomputable def novationlaw3_ShareFull.l5b (N : Nat) (s_l16 : (List (Int)) → (List (Int)) → (Int) → (List (Int)) → (Int) → (Ty.den tBig) → (Int) → Option ((Bool))) (k_l5 : (List (Int)) → (List (Int)) → (List (Int)) → (Int) → (Int) → Option ((Bool))) (x2 : List (Int)) (x7 : List (Int)) (x8 : List (Int)) (x9 : Int) (x10 : Int) : Option ((Bool)) :=
  cond (ltB x10 (List.length x7 : Int)) (cond (ltB x10 (List.length x2 : Int)) (cond (inb x10 (List.length x2)) (let v6 : Int := W .i64 (List.getD x2 x10.toNat (0 : Int)); cond (small (List.length x8 + List.length ([v6]))) (k_l5 x2 x7 (x8 ++ ([v6])) x9 (W .i64 (x10 + (1 : Int)))) (none)) (none)) (cond (small (List.length x8 + List.length ([(7 : Int)]))) (k_l5 x2 x7 (x8 ++ ([(7 : Int)])) x9 (W .i64 (x10 + (1 : Int)))) (none))) ((share_Capped N x9 x7 x8).bind fun r11 => cond (!eqB r11.2.2 (0 : Int)) (some false) (cond (!eqB (List.length r11.1 : Int) (List.length x7 : Int)) (some false) (cond (ltB r11.2.1 (0 : Int)) (some false) ((novationref1_SumInts N r11.1).bind fun r12 => (novationref1_Whole N r11.2.1).bind fun r13 => (novationref1_Plus N r12 r13).bind fun r14 => s_l16 x7 x8 x9 r11.1 r11.2.1 r14 (0 : Int)))))
noncomputable def novationlaw3_ShareFull.l5 (N : Nat) : Nat → (List (Int)) → (List (Int)) → (List (Int)) → (Int) → (Int) → Option ((Bool))
  | 0, _, _, _, _, _ => none
  | n + 1, x2, x7, x8, x9, x10 => novationlaw3_ShareFull.l5b N (novationlaw3_ShareFull.l16 N N) (novationlaw3_ShareFull.l5 N n) x2 x7 x8 x9 x10
noncomputable def novationlaw3_ShareFull.b (N : Nat) (s_l5 : (List (Int)) → (List (Int)) → (List (Int)) → (Int) → (Int) → Option ((Bool))) (a0 : Int) (a1 : List (Int)) (a2 : List (Int)) : Option ((Bool)) :=
  (novationlaw3_known N ).bind fun r1 => cond (!r1) (some false) ((novationlaw3_weights N a1).bind fun r2 => cond (ltB (1 : Int) 0) (none) (s_l5 a2 r2 ([]) (W .i64 (shr .u64 a0 (1 : Int))) (0 : Int)))
noncomputable def novationlaw3_ShareFull (N : Nat) (a0 : Int) (a1 : List (Int)) (a2 : List (Int)) : Option ((Bool)) :=
  novationlaw3_ShareFull.b N (novationlaw3_ShareFull.l5 N N) a0 a1 a2

/-! ### novation/novationlaw3.ShareEqual: function 7 -/
noncomputable def novationlaw3_ShareEqual.l8b (N : Nat) (k_l8 : (Int) → (List (Int)) → (Int) → Option ((Bool))) (x6 : Int) (x7 : List (Int)) (x9 : Int) : Option ((Bool)) :=
  cond (ltB x9 x6) (cond (inb x9 (List.length x7)) (let v12 : Int := W .i64 (x9 - (1 : Int)); cond (inb v12 (List.length x7)) (cond (ltB (List.getD x7 v12.toNat (0 : Int)) (List.getD x7 x9.toNat (0 : Int))) (some false) (k_l8 x6 x7 (W .i64 (x9 + (1 : Int))))) (none)) (none)) (cond (inb (0 : Int) (List.length x7)) (let v14 : Int := W .i64 (x6 - (1 : Int)); cond (inb v14 (List.length x7)) (cond (leB (W .i64 ((List.getD x7 (0 : Int).toNat (0 : Int)) - (List.getD x7 v14.toNat (0 : Int)))) (1 : Int)) (let v16 : Int := W .i64 (x6 - (1 : Int)); cond (inb v16 (List.length x7)) (some (leB (0 : Int) (List.getD x7 v16.toNat (0 : Int)))) (none)) (some false)) (none)) (none))
noncomputable def novationlaw3_ShareEqual.l8 (N : Nat) : Nat → (Int) → (List (Int)) → (Int) → Option ((Bool))
  | 0, _, _, _ => none
  | n + 1, x6, x7, x9 => novationlaw3_ShareEqual.l8b N (novationlaw3_ShareEqual.l8 N n) x6 x7 x9
noncomputable def novationlaw3_ShareEqual.b (N : Nat) (s_l8 : (Int) → (List (Int)) → (Int) → Option ((Bool))) (a0 : Int) (a1 : Int) : Option ((Bool)) :=
  (novationlaw3_known N ).bind fun r1 => cond (!r1) (some false) (cond (ltB (1 : Int) 0) (none) (let v3 : Int := W .i64 (shr .u64 a0 (1 : Int)); cond (eqB (64 : Int) 0) (none) (let v6 : Int := W .i64 ((1 : Int) + (rem (W .i64 a1) (64 : Int))); (share_Even N v3 v6).bind fun r7 => cond (!eqB r7.2 (0 : Int)) (some false) (cond (!eqB (List.length r7.1 : Int) v6) (some false) ((novationref1_SumInts N r7.1).bind fun r8 => (novationref1_Whole N v3).bind fun r9 => (novationref1_Cmp N r8 r9).bind fun r10 => cond (!eqB r10 (0 : Int)) (some false) (s_l8 v6 r7.1 (1 : Int)))))))
noncomputable def novationlaw3_ShareEqual (N : Nat) (a0 : Int) (a1 : Int) : Option ((Bool)) :=
  novationlaw3_ShareEqual.b N (novationlaw3_ShareEqual.l8 N N) a0 a1

/-! ### novation/novationlaw3.ShareOrders: function 8 -/
noncomputable def novationlaw3_ShareOrders.l16b (N : Nat) (k_l9 : (List (Int)) → (List (Int)) → (Int) → Option ((Bool))) (k_l16 : (List (Int)) → (List (Int)) → (Int) → (Int) → Option ((Bool))) (x0 : List (Int)) (x3 : List (Int)) (x4 : Int) (x5 : Int) : Option ((Bool)) :=
  cond (ltB x5 x4) (cond (inb x5 (List.length x3)) (cond (inb x4 (List.length x3)) (cond (eqB (List.getD x3 x5.toNat (0 : Int)) (List.getD x3 x4.toNat (0 : Int))) (some false) (k_l16 x0 x3 x4 (W .i64 (x5 + (1 : Int))))) (none)) (none)) (k_l9 x0 x3 (W .i64 (x4 + (1 : Int))))
noncomputable def novationlaw3_ShareOrders.l16 (N : Nat) (k_l9 : (List (Int)) → (List (Int)) → (Int) → Option ((Bool))) : Nat → (List (Int)) → (List (Int)) → (Int) → (Int) → Option ((Bool))
  | 0, _, _, _, _ => none
  | n + 1, x0, x3, x4, x5 => novationlaw3_ShareOrders.l16b N k_l9 (novationlaw3_ShareOrders.l16 N k_l9 n) x0 x3 x4 x5
noncomputable def novationlaw3_ShareOrders.j15b (N : Nat) (s_l16 : (List (Int)) → (List (Int)) → (Int) → (Int) → Option ((Bool))) (k_l9 : (List (Int)) → (List (Int)) → (Int) → Option ((Bool))) (x0 : List (Int)) (x3 : List (Int)) (x4 : Int) : Option ((Bool)) :=
  s_l16 x0 x3 x4 (0 : Int)
noncomputable def novationlaw3_ShareOrders.j15 (N : Nat) (k_l9 : (List (Int)) → (List (Int)) → (Int) → Option ((Bool))) (x0 : List (Int)) (x3 : List (Int)) (x4 : Int) : Option ((Bool)) :=
  novationlaw3_ShareOrders.j15b N (novationlaw3_ShareOrders.l16 N k_l9 N) k_l9 x0 x3 x4
noncomputable def novationlaw3_ShareOrders.l9b (N : Nat) (s_j15 : (List (Int)) → (List (Int)) → (Int) → Option ((Bool))) (k_l9 : (List (Int)) → (List (Int)) → (Int) → Option ((Bool))) (x0 : List (Int)) (x3 : List (Int)) (x4 : Int) : Option ((Bool)) :=
  cond (ltB x4 (List.length x3 : Int)) (cond (inb x4 (List.length x3)) (cond (ltB (List.getD x3 x4.toNat (0 : Int)) (0 : Int)) (some false) (cond (inb x4 (List.length x3)) (cond (leB (List.length x0 : Int) (List.getD x3 x4.toNat (0 : Int))) (some false) (cond (ltB (0 : Int) x4) (cond (inb x4 (List.length x3)) (cond (inb (List.getD x3 x4.toNat (0 : Int)) (List.length x0)) (let v4 : Int := W .i64 (x4 - (1 : Int)); cond (inb v4 (List.length x3)) (cond (inb (List.getD x3 v4.toNat (0 : Int)) (List.length x0)) (cond (ltB (List.getD x0 (List.getD x3 v4.toNat (0 : Int)).toNat (0 : Int)) (List.getD x0 (List.getD x3 x4.toNat (0 : Int)).toNat (0 : Int))) (some false) (cond (inb x4 (List.length x3)) (cond (inb (List.getD x3 x4.toNat (0 : Int)) (List.length x0)) (let v5 : Int := W .i64 (x4 - (1 : Int)); cond (inb v5 (List.length x3)) (cond (inb (List.getD x3 v5.toNat (0 : Int)) (List.length x0)) (cond (eqB (List.getD x0 (List.getD x3 x4.toNat (0 : Int)).toNat (0 : Int)) (List.getD x0 (List.getD x3 v5.toNat (0 : Int)).toNat (0 : Int))) (cond (inb x4 (List.length x3)) (let v6 : Int := W .i64 (x4 - (1 : Int)); cond (inb v6 (List.length x3)) (cond (leB (List.getD x3 x4.toNat (0 : Int)) (List.getD x3 v6.toNat (0 : Int))) (some false) (s_j15 x0 x3 x4)) (none)) (none)) (s_j15 x0 x3 x4)) (none)) (none)) (none)) (none))) (none)) (none)) (none)) (none)) (s_j15 x0 x3 x4))) (none))) (none)) (some true)
noncomputable def novationlaw3_ShareOrders.l9 (N : Nat) : Nat → (List (Int)) → (List (Int)) → (Int) → Option ((Bool))
  | 0, _, _, _ => none
  | n + 1, x0, x3, x4 => novationlaw3_ShareOrders.l9b N (novationlaw3_ShareOrders.j15 N (novationlaw3_ShareOrders.l9 N n)) (novationlaw3_ShareOrders.l9 N n) x0 x3 x4
noncomputable def novationlaw3_ShareOrders.b (N : Nat) (s_l9 : (List (Int)) → (List (Int)) → (Int) → Option ((Bool))) (a0 : List (Int)) : Option ((Bool)) :=
  (novationlaw3_known N ).bind fun r1 => cond (!r1) (some false) (cond (ltB (70 : Int) (List.length a0 : Int)) (some true) ((share_Order N a0).bind fun r2 => cond (!eqB (List.length r2 : Int) (List.length a0 : Int)) (some false) (s_l9 a0 r2 (0 : Int))))
noncomputable def novationlaw3_ShareOrders (N : Nat) (a0 : List (Int)) : Option ((Bool)) :=
  novationlaw3_ShareOrders.b N (novationlaw3_ShareOrders.l9 N N) a0

end VM.F
