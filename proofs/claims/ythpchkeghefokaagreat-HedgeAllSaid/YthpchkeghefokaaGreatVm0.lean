/- A part of the proof of HedgeAll of layer 22: a machine that reads a function of the program as an equation between values. -/
import GoSem.Claims
import Derived.WalkKit
import Derived.ArgAppend
import Derived.Laws.CopyRow
import Derived.Laws.MakeOwn
import Derived.Laws.OwnMore
import Derived.Orders
import Derived.LoopN
set_option linter.all false
section
/- The value machine: an evaluator over the model's code with values in place of memory (slices as lists, structs as products). Definitions only. -/
namespace VM
open Go

/-! ### Names that the kernel does not look behind -/
theorem hide {α : Type} (a : α) : ∃ b : α, b = a := ⟨a, rfl⟩
noncomputable def hid {α : Type} (a : α) : α := Classical.choose (hide a)
theorem hid_eq {α : Type} (a : α) : hid a = a := Classical.choose_spec (hide a)

/-- The greatest number of elements that is let in. -/
def big : Nat := 68719476736

noncomputable def W : IntKind → Int → Int := hid fun k x => k.wrap x
noncomputable def ltB : Int → Int → Bool := hid fun x y => decide (x < y)
noncomputable def leB : Int → Int → Bool := hid fun x y => decide (x ≤ y)
noncomputable def eqB : Int → Int → Bool := hid fun x y => decide (x = y)
noncomputable def inb : Int → Nat → Bool := hid fun i n => decide (0 ≤ i ∧ i < (n : Int))
noncomputable def small : Nat → Bool := hid fun n => decide (n < big)
noncomputable def okMake : Int → Int → Bool := hid fun l c => decide (0 ≤ l ∧ l ≤ c ∧ c < (big : Int))
noncomputable def okCut : Int → Int → Int → Int → Bool := hid fun l h m n => decide (0 ≤ l ∧ l ≤ h ∧ h ≤ m ∧ m ≤ n)
noncomputable def quo : Int → Int → Int := hid fun x y => x.tdiv y
noncomputable def rem : Int → Int → Int := hid fun x y => x.tmod y
noncomputable def shl : IntKind → Int → Int → Int := hid fun k x y => x * 2 ^ (min y.toNat k.bits)
noncomputable def shr : IntKind → Int → Int → Int := hid fun k x y => x.fdiv (2 ^ (min y.toNat k.bits))
noncomputable def mx : Int → Int → Int := hid fun x y => if y > x then y else x
noncomputable def mn : Int → Int → Int := hid fun x y => if y < x then y else x
noncomputable def strEq : ByteArray → ByteArray → Bool := hid fun x y => decide (x.toList = y.toList)

theorem W_eq (k : IntKind) (x : Int) : W k x = k.wrap x := by unfold W; rw [hid_eq]
theorem ltB_eq (x y : Int) : ltB x y = decide (x < y) := by unfold ltB; rw [hid_eq]
theorem leB_eq (x y : Int) : leB x y = decide (x ≤ y) := by unfold leB; rw [hid_eq]
theorem eqB_eq (x y : Int) : eqB x y = decide (x = y) := by unfold eqB; rw [hid_eq]
theorem inb_eq (i : Int) (n : Nat) : inb i n = decide (0 ≤ i ∧ i < (n : Int)) := by unfold inb; rw [hid_eq]
theorem small_eq (n : Nat) : small n = decide (n < big) := by unfold small; rw [hid_eq]
theorem okMake_eq (l c : Int) : okMake l c = decide (0 ≤ l ∧ l ≤ c ∧ c < (big : Int)) := by unfold okMake; rw [hid_eq]
theorem okCut_eq (l h m n : Int) : okCut l h m n = decide (0 ≤ l ∧ l ≤ h ∧ h ≤ m ∧ m ≤ n) := by unfold okCut; rw [hid_eq]
theorem quo_eq (x y : Int) : quo x y = x.tdiv y := by unfold quo; rw [hid_eq]
theorem rem_eq (x y : Int) : rem x y = x.tmod y := by unfold rem; rw [hid_eq]
theorem shl_eq (k : IntKind) (x y : Int) : shl k x y = x * 2 ^ (min y.toNat k.bits) := by unfold shl; rw [hid_eq]
theorem shr_eq (k : IntKind) (x y : Int) : shr k x y = x.fdiv (2 ^ (min y.toNat k.bits)) := by unfold shr; rw [hid_eq]
theorem mx_eq (x y : Int) : mx x y = if y > x then y else x := by unfold mx; rw [hid_eq]
theorem mn_eq (x y : Int) : mn x y = if y < x then y else x := by unfold mn; rw [hid_eq]
theorem strEq_eq (x y : ByteArray) : strEq x y = decide (x.toList = y.toList) := by unfold strEq; rw [hid_eq]

/-- Bits, one by one. -/
inductive Bw where | and | or | xor | andNot
noncomputable def bitw : Bw → IntKind → Int → Int → Int := hid fun o k x y =>
  let a := BitVec.ofInt k.bits x
  let b := BitVec.ofInt k.bits y
  k.wrap (match o with | .and => a &&& b | .or => a ||| b | .xor => a ^^^ b | .andNot => a &&& ~~~b).toNat
theorem bitw_eq (o : Bw) (k : IntKind) (x y : Int) : bitw o k x y =
    let a := BitVec.ofInt k.bits x
    let b := BitVec.ofInt k.bits y
    k.wrap (match o with | .and => a &&& b | .or => a ||| b | .xor => a ^^^ b | .andNot => a &&& ~~~b).toNat := by unfold bitw; rw [hid_eq]

/-- A string of bytes. -/
def strOf (l : List Nat) : ByteArray := ⟨(l.map UInt8.ofNat).toArray⟩

/-- The shapes of values. A struct is a chain of pairs that ends in unit. -/
inductive Ty where
  | int (k : IntKind)
  | bool
  | str
  | slice (e : Ty)
  | unit
  | pair (a b : Ty)
  | arr (n : Nat) (e : Ty)
  deriving DecidableEq

@[reducible] def Ty.den : Ty → Type
  | .int _ => Int
  | .bool => Bool
  | .str => ByteArray
  | .slice e => List e.den
  | .unit => Unit
  | .pair a b => a.den × b.den
  | .arr _ e => List e.den

/-- How many cells. -/
def Ty.size : Ty → Nat
  | .int _ | .bool | .str | .slice _ => 1
  | .unit => 0
  | .pair a b => a.size + b.size
  | .arr n e => n * e.size

def Ty.isAgg : Ty → Bool
  | .unit | .pair _ _ | .arr _ _ => true
  | _ => false

def Ty.zero : (τ : Ty) → τ.den
  | .int _ => (0 : Int)
  | .bool => false
  | .str => ByteArray.empty
  | .slice _ => []
  | .unit => ()
  | .pair a b => (a.zero, b.zero)
  | .arr n e => List.replicate n e.zero

/-- May it be held against another one by '=='? -/
def Ty.comparable : Ty → Bool
  | .slice _ => false
  | .pair a b => a.comparable && b.comparable
  | .arr _ _ => false
  | _ => true

def teqL {α : Type} (f : α → α → Bool) : List α → List α → Bool
  | [], [] => true
  | x :: xs, y :: ys => f x y && teqL f xs ys
  | _, _ => false

noncomputable def teq : (τ : Ty) → τ.den → τ.den → Bool
  | .int _, x, y => eqB x y
  | .bool, x, y => x == y
  | .str, x, y => strEq x y
  | .slice _, _, _ => false
  | .unit, _, _ => true
  | .pair a b, x, y => teq a x.1 y.1 && teq b x.2 y.2
  | .arr _ e, x, y => teqL (teq e) x y

inductive Step where
  | fld (n : Nat)
  | idx (i : Nat)

/-- Paths of fields alone: the same; one ahead of another. -/
def peq : List Step → List Step → Bool
  | [], [] => true
  | .fld a :: p, .fld b :: q => Nat.beq a b && peq p q
  | _, _ => false
def ppre : List Step → List Step → Bool
  | [], _ => true
  | .fld a :: p, .fld b :: q => Nat.beq a b && ppre p q
  | _, _ => false
/-- A field's type, if there is one; what stands at a path. -/
def fldQ : Ty → Nat → Option Ty
  | .pair a b, n => match n with
    | 0 => some a
    | n + 1 => fldQ b n
  | _, _ => none
def pathQ : List Step → Ty → Ty → Bool
  | [], τ, υ => decide (τ = υ)
  | .fld n :: p, τ, υ => match fldQ τ n with
    | some a => pathQ p a υ
    | none => false
  | _, _, _ => false

/-- What a temporary may be known to hold. -/
inductive AVal where
  | any
  | und
  | val (τ : Ty) (x : τ.den)
  | nval (τ : Ty) (x : τ.den) (n : Nat)
  | emp
  | ref (id : Nat)
  | adr (id : Nat) (p : List Step)
  | iadr (τ : Ty) (x : τ.den)
  | tup (vs : List AVal)
  | clo (f : Nat) (caps : List AVal)

/-- What stands behind a number: a variable of the call's own, or a slice of its own; 'frz': it is not written any more; 'lnk': a variable, at whose path 'p' the slice 'j' lies. -/
inductive Ent where
  | obj (τ : Ty) (x : τ.den)
  | lnk (τ : Ty) (x : τ.den) (p : List Step) (j : Nat)
  | own (e : Ty) (l : List e.den)
  | frz (e : Ty) (l : List e.den)
  | gone

structure St where
  T : Nat → AVal
  H : Nat → Option Ent

def St.put (σ : St) (d : Nat) (v : AVal) : St := ⟨fun i => cond (Nat.beq i d) v (σ.T i), σ.H⟩
def St.putH (σ : St) (d : Nat) (v : Option Ent) : St := ⟨σ.T, fun i => cond (Nat.beq i d) v (σ.H i)⟩
def St.putO (σ : St) (d : Option Nat) (v : AVal) : St := match d with | some d => σ.put d v | none => σ
def dstOk (n : Nat) (io : List Nat) : Option Nat → Bool | some d => Nat.blt d n && io.all (fun i => !(Nat.beq i d)) | none => true
def St.puts (σ : St) : List (Nat × Option Ent) → St
  | [] => σ
  | u :: r => (σ.putH u.1 u.2).puts r

abbrev S0 : St := ⟨fun _ => .any, fun _ => none⟩

abbrev Ups := List (Nat × Option Ent)

section K
variable {α : Type}

def fldK : (τ : Ty) → τ.den → Nat → ((υ : Ty) → υ.den → Option α) → Option α
  | .pair a b, x, n, k => match n with
    | 0 => k a x.1
    | n + 1 => fldK b x.2 n k
  | _, _, _, _ => none

def setFldK : (τ : Ty) → τ.den → Nat → ((υ : Ty) → υ.den → (υ.den → Option α) → Option α) → (τ.den → Option α) → Option α
  | .pair a b, x, n, m, k => match n with
    | 0 => m a x.1 fun z => k (z, x.2)
    | n + 1 => setFldK b x.2 n m fun z => k (x.1, z)
  | _, _, _, _, _ => none

def sameK (τ υ : Ty) (k : Option α) : Option α := if τ = υ then k else none

def castK (υ τ : Ty) (y : υ.den) (k : τ.den → Option α) : Option α := if h : υ = τ then k (h ▸ y) else none

def idxK (τ : Ty) (x : τ.den) (i : Nat) (k : (υ : Ty) → υ.den → Option α) : Option α :=
  match τ, x with
  | .arr _ e, x => k e (List.getD x i e.zero)
  | _, _ => none

def setIdxK (τ : Ty) (x : τ.den) (i : Nat) (m : (υ : Ty) → υ.den → (υ.den → Option α) → Option α) (k : τ.den → Option α) : Option α :=
  match τ, x, k with
  | .arr _ e, x, k => m e (List.getD x i e.zero) fun z => k (List.set x i z)
  | _, _, _ => none

/-- What a path tells of a value. -/
def getP : List Step → (τ : Ty) → τ.den → ((υ : Ty) → υ.den → Option α) → Option α
  | [], τ, x, k => k τ x
  | .fld n :: p, τ, x, k => fldK τ x n fun υ y => getP p υ y k
  | .idx i :: p, τ, x, k => idxK τ x i fun υ y => getP p υ y k

def setP (υ : Ty) (y : υ.den) : List Step → (τ : Ty) → τ.den → (τ.den → Option α) → Option α
  | [], τ, _, k => castK υ τ y k
  | .fld n :: p, τ, x, k => setFldK τ x n (fun υ' y' k' => setP υ y p υ' y' k') k
  | .idx i :: p, τ, x, k => setIdxK τ x i (fun υ' y' k' => setP υ y p υ' y' k') k

/-- A value of a type; a slice of one's own is frozen. -/
def asVK (fz : Bool) (a : AVal) (H : Nat → Option Ent) (τ : Ty) (k : τ.den → List Nat → Ups → Option α) : Option α :=
  match a with
  | .val υ x => castK υ τ x fun y => k y [] []
  | .nval υ x _ => castK υ τ x fun y => k y [] []
  | .emp => match τ, k with
    | .slice _, k => k [] [] []
    | _, _ => none
  | .ref id => match H id with
    | some (.own e l) => castK (.slice e) τ l fun y => k y [id] (cond fz [(id, some (.frz e l))] [])
    | some (.frz e l) => castK (.slice e) τ l fun y => k y [id] []
    | _ => none
  | _ => none

def valK (a : AVal) (k : (τ : Ty) → τ.den → Option α) : Option α :=
  match a with
  | .val υ x => k υ x
  | _ => none

/-- What type stands at a place. -/
def placeK (id : Nat) (p : List Step) (H : Nat → Option Ent) (k : Ty → Option α) : Option α :=
  match H id with
  | some (.obj τ x) => getP p τ x fun υ _ => k υ
  | some (.lnk τ x _ _) => getP p τ x fun υ _ => k υ
  | some (.own e l) | some (.frz e l) => match p with
    | .idx i :: p => getP p e (List.getD l i e.zero) fun υ _ => k υ
    | _ => none
  | _ => none

/-- Any value, with its type. -/
def anyVK (a : AVal) (H : Nat → Option Ent) (k : (τ : Ty) → τ.den → List Nat → Option α) : Option α :=
  match a with
  | .val υ x => k υ x []
  | .ref id => match H id with
    | some (.own e l) | some (.frz e l) => k (.slice e) l [id]
    | _ => none
  | _ => none

def intK (a : AVal) (k : IntKind → Int → Option α) : Option α :=
  match a with
  | .val (.int i) x => k i x
  | _ => none

end K

/-- Results and parameters: a value; a slice that is handed over; a variable that is handed in and back; a function. -/
inductive AM where
  | v (τ : Ty)
  | own (e : Ty)
  | io (τ : Ty)
  | fn (f : Nat) (τ : Ty)
  | ptr (τ : Ty)
  | adr (τ : Ty)

@[reducible] def AM.den : AM → Type
  | .v τ => τ.den
  | .own e => List e.den
  | .io τ => τ.den
  | .fn _ τ => τ.den
  | .ptr τ => τ.den
  | .adr τ => τ.den

@[reducible] def HP : List AM → Type
  | [] => Unit
  | [m] => m.den
  | m :: n :: ms => m.den × HP (n :: ms)

structure Summ where
  args : List AM
  res : List AM
  quiet : Bool
  run : HP args → Option (HP res)

/-- What is kept at a cut. -/
inductive CM where
  | v (τ : Ty)
  | own (e : Ty)
  | obj (τ : Ty)
  | lnk (τ : Ty) (q : List Step) (e : Ty)
  | same (s : Nat)
  | io (τ : Ty)
  | fn (f : Nat) (τ : Ty)

structure Env where
  nt : Nat
  ty : Nat → Option Ty
  Γ : Nat → List Summ
  N : Nat
  cutL : Nat → Option (List (Nat × CM))
  cutJ : Nat → Option (List (Nat × CM))
  io : List Nat := []
  lk : Option (Ty × List Step × Ty × List Nat) := none

/-- The path of a type's variables at which a slice of one's own may lie; .. of those that are told. -/
def lkT (E : Env) (τ : Ty) : Option (List Step × Ty) := match E.lk with
  | some (υ, q, e, _) => cond (decide (υ = τ)) (cond (pathQ q τ (.slice e)) (some (q, e)) none) none
  | none => none
def lkOf (E : Env) (τ : Ty) (id : Nat) : Option (List Step × Ty) := match E.lk with
  | some (_, _, _, ds) => cond (ds.any fun d => Nat.beq (id / 16) d) (lkT E τ) none
  | none => none

def cvA : Value → AVal
  | .int k n => .val (.int k) n
  | .bool b => .val .bool b
  | .string s => .val .str s
  | .slice none 0 0 => .emp
  | _ => .any

def St.ρ (σ : St) : Operand → AVal
  | .tmp t => σ.T t
  | .const v => cvA v
  | .global _ => .any
  | .func f => .clo f []

section
variable {α : Type}

noncomputable def arithK (op : BinOp) (k : IntKind) (x y : Int) (K : AVal → Option α) : Option α :=
  match op with
  | .add => K (.val (.int k) (W k (x + y)))
  | .sub => K (.val (.int k) (W k (x - y)))
  | .mul => K (.val (.int k) (W k (x * y)))
  | .quo => cond (eqB y 0) none (K (.val (.int k) (W k (quo x y))))
  | .rem => cond (eqB y 0) none (K (.val (.int k) (rem x y)))
  | .and => K (.val (.int k) (bitw .and k x y))
  | .or => K (.val (.int k) (bitw .or k x y))
  | .xor => K (.val (.int k) (bitw .xor k x y))
  | .andNot => K (.val (.int k) (bitw .andNot k x y))
  | .eql => K (.val .bool (eqB x y))
  | .neq => K (.val .bool (!eqB x y))
  | .lss => K (.val .bool (ltB x y))
  | .leq => K (.val .bool (leB x y))
  | .gtr => K (.val .bool (ltB y x))
  | .geq => K (.val .bool (leB y x))
  | _ => none

noncomputable def shK (op : BinOp) (k : IntKind) (x y : Int) (K : AVal → Option α) : Option α :=
  match op with
  | .shl => cond (ltB y 0) none (K (.val (.int k) (W k (shl k x y))))
  | .shr => cond (ltB y 0) none (K (.val (.int k) (shr k x y)))
  | _ => none

def isSh : BinOp → Bool
  | .shl | .shr => true
  | _ => false

noncomputable def binVK (t : Option Ty) (op : BinOp) (τ : Ty) (x : τ.den) (υ : Ty) (y : υ.den) (K : AVal → Option α) : Option α :=
  match τ, x, υ, y with
  | .int k, x, .int k', y => cond (isSh op) (shK op k x y K) (if k = k' then arithK op k x y K else none)
  | τ, x, υ, y => match t with
    | none => none
    | some u => sameK u τ (cond τ.comparable (match op with
      | .eql => castK υ τ y fun y => K (.val .bool (teq τ x y))
      | .neq => castK υ τ y fun y => K (.val .bool (!teq τ x y))
      | _ => none) none)

noncomputable def unVK (op : UnOp) (a : AVal) (K : AVal → Option α) : Option α :=
  match op, a with
  | .neg, .val (.int k) n => K (.val (.int k) (W k (0 - n)))
  | .xor, .val (.int k) n => K (.val (.int k) (bitw .xor k (if k.signed then -1 else k.max) n))
  | .not, .val .bool b => K (.val .bool (!b))
  | _, _ => none

/-- What an operation comes to: the value; the entries that were looked at; what becomes of entries. -/
abbrev OpK (α : Type) := AVal → List Nat → Ups → Option α

noncomputable def mmK (up : Bool) : AVal → List AVal → (AVal → Option α) → Option α
  | a, [], K => K a
  | a, b :: r, K => intK a fun k x => intK b fun k' y => if k = k' then mmK up (.val (.int k) (cond up (mx x y) (mn x y))) r K else none

def lenK (τ : Ty) (a : AVal) (H : Nat → Option Ent) (K : OpK α) : Option α :=
  match τ, a with
  | .slice _, .val (.slice _) l => K (.val (.int .i64) (List.length l : Int)) [] []
  | .arr n _, .val (.arr _ _) _ => K (.val (.int .i64) (n : Int)) [] []
  | .str, .val .str s => K (.val (.int .i64) (ByteArray.size s : Int)) [] []
  | .slice _, .emp => K (.val (.int .i64) (0 : Int)) [] []
  | .slice _, .ref id => match H id with
    | some (.own _ l) | some (.frz _ l) => K (.val (.int .i64) (l.length : Int)) [id] []
    | _ => none
  | _, _ => none

/-- A new entry under a number that is free. -/
def newK (H : Nat → Option Ent) (id : Nat) (e : Ent) (K : Option α) : Option α :=
  match H id with
  | none => K
  | some _ => none

noncomputable def appK (id : Nat) (e : Ty) (a b : AVal) (H : Nat → Option Ent) (K : OpK α) : Option α :=
  asVK false b H (.slice e) fun ys rd _ =>
    match a with
    | .emp => cond (small (List.length ys)) (K (.ref id) (id :: rd) [(id, some (.own e ys))]) none
    | .ref j => match H j with
      | some (.own e' l) => castK (.slice e') (.slice e) l fun xs =>
          cond (small (List.length xs + List.length ys)) (K (.ref id) (id :: j :: rd) [(j, some .gone), (id, some (.own e (xs ++ ys)))]) none
      | _ => none
    | _ => none

/-- The parts of a struct, one by one. -/
def buildK (τ : Ty) (H : Nat → Option Ent) : List (Nat × AVal) → τ.den → List Nat → Ups → (τ.den → List Nat → Ups → Option α) → Option α
  | [], x, rd, ups, K => K x rd ups
  | p :: r, x, rd, ups, K => fldK τ x p.1 fun υ _ => asVK true p.2 H υ fun y rd' ups' =>
      setFldK τ x p.1 (fun υ' _ k' => castK υ υ' y k') fun z => buildK τ H r z (rd' ++ rd) (ups ++ ups') K

/-- The parts of an array or of a new slice. -/
def fillK (e : Ty) (H : Nat → Option Ent) (n : Nat) : List (Nat × AVal) → List e.den → List Nat → Ups → (List e.den → List Nat → Ups → Option α) → Option α
  | [], l, rd, ups, K => K l rd ups
  | p :: r, l, rd, ups, K => cond (Nat.blt p.1 n) (asVK true p.2 H e fun y rd' ups' => fillK e H n r (List.set l p.1 y) (rd' ++ rd) (ups ++ ups') K) none

/-- One captured value: a value, or a variable that is not written any more (as a struct of one field). -/
def cap1K (v : AVal) (H : Nat → Option Ent) : (a : Ty) → (a.den → List Nat → Ups → Option α) → Option α
  | .pair a .unit, k => match v with
    | .iadr υ x => castK υ a x fun y => k (y, ()) [] []
    | _ => none
  | a, k => asVK true v H a k

def cap1L : (a : Ty) → a.den → AVal
  | .pair a .unit, x => .iadr a x.1
  | a, x => .val a x

/-- Captured values, as one struct; and back. -/
def capsK (H : Nat → Option Ent) : (τ : Ty) → List AVal → (τ.den → List Nat → Ups → Option α) → Option α
  | .unit, [], K => K () [] []
  | .pair a b, v :: vs, K => cap1K v H a fun x rd ups => capsK H b vs fun xs rd' ups' => K (x, xs) (rd' ++ rd) (ups ++ ups')
  | _, _, _ => none

def capsL : (τ : Ty) → τ.den → List AVal
  | .pair a b, x => cap1L a x.1 :: capsL b x.2
  | _, _ => []

def updH (H : Nat → Option Ent) (d : Nat) (v : Option Ent) : Nat → Option Ent := fun i => cond (Nat.beq i d) v (H i)

/-- Variables that a function captures are not written any more. -/
def capFz (H : Nat → Option Ent) : List AVal → (List AVal → List Nat → Ups → Option α) → Option α
  | [], K => K [] [] []
  | a :: r, K => match a with
    | .adr id [] => match H id with
      | some (.obj τ x) => capFz (updH H id (some .gone)) r fun cs rd ups => K (.iadr τ x :: cs) (id :: rd) ((id, some .gone) :: ups)
      | _ => none
    | a => capFz H r fun cs rd ups => K (a :: cs) rd ups

/-- What an argument comes to: its value; the entries as they are while the others are looked at; what was looked at; what is handed over; what is frozen; what is handed in and back. -/
def arg1K (m : AM) (a : AVal) (H : Nat → Option Ent) (k : m.den → (Nat → Option Ent) → List Nat → Ups → Ups → List (Nat × Ty) → Option α) : Option α :=
  match m, k with
  | .v τ, k => asVK true a H τ fun x rd uf => match uf with
    | [] => k x H rd [] [] []
    | u :: r => k x (updH H u.1 u.2) rd [] (u :: r) []
  | .own e, k => match a with
    | .emp => k [] H [] [] [] []
    | .ref id => match H id with
      | some (.own e' l) => castK (.slice e') (.slice e) l fun x => k x (updH H id (some .gone)) [id] [(id, some .gone)] [] []
      | _ => none
    | _ => none
  | .io τ, k => match a with
    | .adr id [] => match H id with
      | some (.obj υ x) => castK υ τ x fun y => k y (updH H id (some .gone)) [id] [] [] [(id, τ)]
      | _ => none
    | _ => none
  | .fn f τ, k => match a with
    | .clo f' c => cond (Nat.beq f f') (capsK H τ c fun x rd uf => match uf with
      | [] => k x H rd [] [] []
      | _ => none) none
    | _ => none
  | .ptr _, _ => none
  | .adr τ, k => match a with
    | .iadr υ x => castK υ τ x fun y => k y H [] [] [] []
    | _ => none

def argsK : (ms : List AM) → List AVal → (Nat → Option Ent) → List Nat → Ups → Ups → List (Nat × Ty) → (HP ms → List Nat → Ups → Ups → List (Nat × Ty) → Option α) → Option α
  | [], [], _, rd, uo, uf, io, K => K () rd uo uf io
  | [m], [a], H, rd, uo, uf, io, K => arg1K m a H fun x _ rd' uo' uf' io' => K x (rd' ++ rd) (uo' ++ uo) (uf' ++ uf) (io ++ io')
  | m :: n :: ms, a :: as', H, rd, uo, uf, io, K => arg1K m a H fun x H' rd' uo' uf' io' =>
      argsK (n :: ms) as' H' (rd' ++ rd) (uo' ++ uo) (uf' ++ uf) (io ++ io') fun xs rd uo uf io => K (x, xs) rd uo uf io
  | _, _, _, _, _, _, _, _ => none

/-- A result as it stands behind a call; 'id': the number of what is handed over. -/
def res1 (m : AM) (x : m.den) (id : Nat) : AVal × Ups :=
  match m, x with
  | .v τ, x => (.val τ x, [])
  | .own e, x => (.ref id, [(id, some (.own e x))])
  | .io τ, x => (.val τ x, [])
  | .fn _ _, _ => (.any, [])
  | .ptr τ, x => (.adr id [], [(id, some (.obj τ x))])
  | .adr _, _ => (.any, [])

/-- The results, and behind them what was handed in and back. -/
def resL : (ms : List AM) → HP ms → Nat → List (Nat × Ty) → List AVal × Ups × List (Nat × Ty)
  | [], _, _, io => ([], [], io)
  | [m], x, id, io => match m, x, io with
    | .io τ, x, (j, _) :: io => ([], [(j, some (.obj τ x))], io)
    | m, x, io => ([(res1 m x id).1], (res1 m x id).2, io)
  | m :: n :: ms, x, id, io => match m, x, io with
    | .io τ, x, (j, _) :: io => let r := resL (n :: ms) x.2 (id + 1) io; (r.1, (j, some (.obj τ x.1)) :: r.2.1, r.2.2)
    | m, x, io => let r := resL (n :: ms) x.2 (id + 1) io; ((res1 m x.1 id).1 :: r.1, (res1 m x.1 id).2 ++ r.2.1, r.2.2)

def packA : List AVal → AVal
  | [] => .any
  | [a] => a
  | l => .tup l

def freeAll (H : Nat → Option Ent) (id : Nat) : Nat → Bool
  | 0 => true
  | n + 1 => (match H (id + n) with | none => true | some _ => false) && freeAll H id n

def idsL (id : Nat) : Nat → List Nat
  | 0 => []
  | n + 1 => (id + n) :: idsL id n

/-- Which of a callee's summaries: by the functions that are handed in. -/
def fits : List AM → List AVal → Bool
  | [], [] => true
  | .fn f _ :: ms, .clo g _ :: as' => Nat.beq f g && fits ms as'
  | .fn _ _ :: _, _ :: _ => false
  | _ :: ms, _ :: as' => fits ms as'
  | _, _ => false

def pickS : List Summ → List AVal → Option Summ
  | [], _ => none
  | S :: r, as' => cond (fits S.args as') (some S) (pickS r as')

noncomputable def callK (E : Env) (f : Nat) (as' : List AVal) (id : Nat) (H : Nat → Option Ent) (K : OpK α) : Option α :=
  match pickS (E.Γ f) as' with
  | none => none
  | some S => argsK S.args as' H [] [] [] [] fun x rd uo uf io =>
      (S.run x).bind fun y =>
        let r := resL S.res y id io
        cond (freeAll H id S.res.length) (K (packA r.1) (idsL id S.res.length ++ (r.2.1.map (·.1) ++ rd)) (uo ++ cond S.quiet [] uf ++ r.2.1)) none

def optK (a : Option AVal) (d : Int) (k : Int → Option α) : Option α :=
  match a with
  | none => k d
  | some a => intK a fun _ x => k x

def isZeroC : Option Operand → Bool
  | some (.const (.int _ n)) => decide (n = 0)
  | _ => false

/-- 'x[lo:hi:mx]'. 'z': it is 'x[:0:0]'. -/
noncomputable def sliceK (t : Ty) (z : Bool) (a : AVal) (lo hi mx : Option AVal) (H : Nat → Option Ent) (K : OpK α) : Option α :=
  match t, a with
  | .str, .val .str s => cond mx.isNone (optK lo 0 fun l => optK hi (ByteArray.size s : Int) fun h =>
      cond (okCut l h (ByteArray.size s : Int) (ByteArray.size s : Int)) (K (.val .str (ByteArray.extract s l.toNat h.toNat)) [] []) none) none
  | .slice _, .emp => cond z (K .emp [] []) (cond mx.isNone (optK lo 0 fun l => optK hi 0 fun h => cond (okCut l h 0 0) (K .emp [] []) none) none)
  | .slice e, a => asVK (!z) a H (.slice e) fun x rd ups => cond z (K .emp rd [])
      (cond (mx.isNone || hi.isSome) (optK lo 0 fun l => optK hi (List.length x : Int) fun h => optK mx (List.length x : Int) fun m =>
        cond (okCut l h m (List.length x : Int))
          (K (.val (.slice e) (List.drop l.toNat (List.take h.toNat x))) rd ups) none) none)
  | _, _ => none

noncomputable def indexAddrK (τ : Ty) (a i : AVal) (H : Nat → Option Ent) (K : OpK α) : Option α :=
  intK i fun _ i =>
  match τ with
  | .slice e => match a with
    | .val υ l => castK υ (.slice e) l fun l => cond (inb i (List.length l)) (K (.iadr e (List.getD l i.toNat e.zero)) [] []) none
    | .ref id => match H id with
      | some (.own e' l) | some (.frz e' l) => sameK e' e (cond (inb i (List.length l)) (K (.adr id [.idx i.toNat]) [id] []) none)
      | _ => none
    | _ => none
  | .arr n e => match a with
    | .adr id p => placeK id p H fun υ => sameK υ (.arr n e) (cond (inb i n) (K (.adr id (p ++ [.idx i.toNat])) [id] []) none)
    | .iadr υ l => castK υ (.arr n e) l fun l => cond (inb i n) (K (.iadr e (List.getD l i.toNat e.zero)) [] []) none
    | _ => none
  | _ => none

noncomputable def indexK (τ : Ty) (a i : AVal) (K : AVal → Option α) : Option α :=
  intK i fun _ i =>
  match τ, a with
  | .arr n e, .val υ l => castK υ (.arr n e) l fun l => cond (inb i n) (K (.val e (List.getD l i.toNat e.zero))) none
  | .str, .val .str s => cond (inb i (ByteArray.size s)) (K (.val (.int .u8) ((s.data.getD i.toNat 0).toNat : Int))) none
  | _, _ => none

/-- What stands at an address. -/
def loadK (a : AVal) (H : Nat → Option Ent) (K : (υ : Ty) → υ.den → List Nat → Option α) : Option α :=
  match a with
  | .iadr τ x => K τ x []
  | .adr id p => match H id with
    | some (.obj τ x) => getP p τ x fun υ y => K υ y [id]
    | some (.own e l) | some (.frz e l) => match p with
      | .idx i :: p => getP p e (List.getD l i e.zero) fun υ y => K υ y [id]
      | _ => none
    | _ => none
  | _ => none

def storeK (τ : Ty) (a v : AVal) (H : Nat → Option Ent) (K : OpK α) : Option α :=
  match a with
  | .adr id p => asVK true v H τ fun y rd ups =>
    match H id with
    | some (.obj υ x) => setP τ y p υ x fun z => K .any (id :: rd) (ups ++ [(id, some (.obj υ z))])
    | some (.own e l) => match p with
      | .idx i :: p => cond (rd.contains id) none (setP τ y p e (List.getD l i e.zero) fun z => K .any (id :: rd) (ups ++ [(id, some (.own e (List.set l i z)))]))
      | _ => none
    | _ => none
  | _ => none

/-- A slice behind a link, as a value of the variable. -/
def frzK (j : Nat) (q : List Step) (τ : Ty) (x : τ.den) (H : Nat → Option Ent) (k : τ.den → Ups → Option α) : Option α :=
  match H j with
  | some (.own e l) => setP (.slice e) l q τ x fun z => k z [(j, some (.frz e l))]
  | some (.frz e l) => setP (.slice e) l q τ x fun z => k z []
  | _ => none

/-- A load, also out of a variable with a link. -/
def loadL (τ : Ty) (a : AVal) (H : Nat → Option Ent) (K : OpK α) : Option α :=
  let old := loadK a H fun υ y rd => castK υ τ y fun z => K (.val τ z) rd []
  match a with
  | .adr id p => match H id with
    | some (.lnk υ x q j) => cond (peq p q) (cond (pathQ q υ τ) (K (.ref j) [id] []) none)
        (cond (ppre p q) (frzK j q υ x H fun z ups => getP p υ z fun υ' y => castK υ' τ y fun y' => K (.val τ y') [id, j] ups)
          (getP p υ x fun υ' y => castK υ' τ y fun y' => K (.val τ y') [id] []))
    | _ => old
  | _ => old

/-- A slice of one's own comes to lie in a variable. -/
def linkK (τ : Ty) (id k : Nat) (e : Ty) (q : List Step) (υ : Ty) (x : υ.den) (H : Nat → Option Ent) (K : OpK α) : Option α :=
  match H k with
  | some (.own e' _) => sameK e' e (sameK τ (.slice e) (setP (.slice e) [] q υ x fun z => K .any [id, k] [(id, some (.lnk υ z q k))]))
  | _ => none

def storeL (E : Env) (τ : Ty) (a v : AVal) (H : Nat → Option Ent) (K : OpK α) : Option α :=
  let old := storeK τ a v H K
  match a with
  | .adr id p => match H id with
    | some (.obj υ x) => match lkOf E υ id, v with
      | some (q, e), .ref k => cond (peq p q) (linkK τ id k e q υ x H K) old
      | _, _ => old
    | some (.lnk υ x q j) =>
      let put := asVK true v H τ fun y rd ups => setP τ y p υ x fun z => K .any (id :: rd) (ups ++ [(id, some (cond (ppre p q) (.obj υ z) (.lnk υ z q j)))])
      match lkOf E υ id, v with
      | some (q', e), .ref k => cond (peq p q && peq q q') (linkK τ id k e q υ x H K) put
      | _, _ => put
    | _ => old
  | _ => old

/-- A struct whose field is empty is stored as a whole: a link to a new empty slice. -/
def storeN (E : Env) (τ : Ty) (a v : AVal) (H : Nat → Option Ent) (K : OpK α) : Option α :=
  match a, v with
  | .adr id [], .nval υ y n => match lkOf E υ id with
    | some ([.fld m], e) => cond (Nat.beq m n) (sameK τ υ (placeK id [] H fun υ' => sameK υ' υ
        (newK H (id + 2) (.own e []) (K .any [id, id + 2] [(id, some (.lnk υ y [.fld m] (id + 2))), (id + 2, some (.own e []))])))) (storeL E τ a v H K)
    | _ => storeL E τ a v H K
  | _, _ => storeL E τ a v H K

/-- A new variable, with an empty slice at its path. -/
def newL (H : Nat → Option Ent) (id : Nat) (τ : Ty) (x : τ.den) (q : List Step) (e : Ty) (K : OpK α) : Option α :=
  newK H id (.obj τ x) (newK H (id + 1) (.own e []) (K (.adr id []) [id, id + 1] [(id, some (.lnk τ x q (id + 1))), (id + 1, some (.own e []))]))

def nvOf (E : Env) (ps : List (Nat × AVal)) (τ : Ty) (x : τ.den) : AVal := match lkT E τ with
  | some ([.fld n], _) => cond (ps.all fun p => !(Nat.beq p.1 n)) (.nval τ x n) (.val τ x)
  | _ => .val τ x

def partsOf (σρ : Operand → AVal) (ps : Array (Nat × Operand)) : List (Nat × AVal) := ps.toList.map fun p => (p.1, σρ p.2)

noncomputable def opK (E : Env) (o : Oper) (ρ : Operand → AVal) (H : Nat → Option Ent) (K : OpK α) : Option α :=
  let id := 16 * o.dst.getD 0
  match o.op with
  | .move x | .assign x => K (ρ x) [] []
  | .pick c a b => match ρ c with
    | .val .bool t => cond t (K (ρ a) [] []) (K (ρ b) [] [])
    | _ => none
  | .alloc t => match E.ty t with
    | some τ => match lkOf E τ id with
      | some (q, e) => newL H id τ τ.zero q e K
      | none => newK H id (.obj τ τ.zero) (K (.adr id []) [id] [(id, some (.obj τ τ.zero))])
    | none => none
  | .box t x => match E.ty t with
    | some τ =>
      let old := asVK true (ρ x) H τ fun y rd ups => newK H id (.obj τ y) (K (.adr id []) (id :: rd) (ups ++ [(id, some (.obj τ y))]))
      match lkOf E τ id, ρ x with
      | some ([.fld m], e), .nval υ y n => cond (Nat.beq m n) (castK υ τ y fun y => newL H id τ y [.fld m] e K) old
      | _, _ => old
    | none => none
  | .build t ps => match E.ty t with
    | some (.arr n e) => fillK e H n (partsOf ρ ps) (List.replicate n e.zero) [] [] fun l rd ups => K (.val (.arr n e) l) rd ups
    | some τ => cond τ.isAgg (buildK τ H (partsOf ρ ps) τ.zero [] [] fun x rd ups => K (nvOf E (partsOf ρ ps) τ x) rd ups) none
    | none => none
  | .buildSlice t n ps => match E.ty t with
    | some (.slice e) => cond (Nat.ble (n * (e.size + 1)) 16777216) (newK H id (.own e []) (fillK e H n (partsOf ρ ps) (List.replicate n e.zero) [] [] fun l rd ups => K (.ref id) (id :: rd) (ups ++ [(id, some (.own e l))]))) none
    | _ => none
  | .load t a => match E.ty t with
    | some τ => loadL τ (ρ a) H K
    | none => none
  | .store t a v => match E.ty t with
    | some τ => storeN E τ (ρ a) (ρ v) H K
    | none => none
  | .nilCheck x => match ρ x with
    | .adr id p => K (.adr id p) [] []
    | .iadr τ x => K (.iadr τ x) [] []
    | _ => none
  | .binOp op t x y _ => valK (ρ x) fun τ x => valK (ρ y) fun υ y => binVK (E.ty t) op τ x υ y fun v => K v [] []
  | .unOp op _ x => unVK op (ρ x) fun v => K v [] []
  | .convert src dst x => match E.ty src, E.ty dst with
    | some _, some (.int k) => intK (ρ x) fun _ n => K (.val (.int k) (W k n)) [] []
    | _, _ => none
  | .makeFunc (.func f) first caps => cond first.isEmpty (capFz H (caps.toList.map ρ) fun cs rd ups => K (.clo f cs) rd ups) none
  | .makeSlice t l c => match E.ty t with
    | some (.slice e) => intK (ρ l) fun _ l => intK (ρ c) fun _ c => cond (okMake l c)
        (newK H id (.own e []) (K (.ref id) [id] [(id, some (.own e (List.replicate l.toNat e.zero)))])) none
    | _ => none
  | .slice t x lo hi mx => match E.ty t with
    | some τ => sliceK τ (lo.isNone && isZeroC hi && isZeroC mx) (ρ x) (lo.map ρ) (hi.map ρ) (mx.map ρ) H K
    | none => none
  | .fieldAddr t x n => match E.ty t with
    | some τ => match ρ x with
      | .adr id p => placeK id p H fun υ => sameK υ τ (fldK τ τ.zero n fun υ' _ => cond (Nat.beq υ'.size 0) none (K (.adr id (p ++ [.fld n])) [id] []))
      | .iadr υ x => sameK υ τ (fldK υ x n fun υ y => cond (Nat.beq υ.size 0) none (K (.iadr υ y) [] []))
      | _ => none
    | none => none
  | .field t x n => match E.ty t with
    | some τ => match ρ x with
      | .val υ x => sameK υ τ (fldK υ x n fun υ y => K (.val υ y) [] [])
      | _ => none
    | none => none
  | .indexAddr t x i => match E.ty t with
    | some τ => indexAddrK τ (ρ x) (ρ i) H K
    | none => none
  | .index t x i => match E.ty t with
    | some τ => indexK τ (ρ x) (ρ i) fun v => K v [] []
    | none => none
  | .extract t i => match ρ t with
    | .tup vs => match vs[i]? with
      | some v => K v [] []
      | none => none
    | _ => none
  | .call c => match c.callee with
    | .builtin .len => match c.args.toList, (c.argTypes.toList.head?).bind E.ty with
      | [x], some τ => lenK τ (ρ x) H K
      | _, _ => none
    | .builtin .append => match c.args.toList, c.argTypes.toList with
      | [x, y], [t, t'] => match E.ty t with
        | some (.slice e) => cond (Nat.beq t t') (newK H id (.own e []) (appK id e (ρ x) (ρ y) H K)) none
        | _ => none
      | _, _ => none
    | .builtin .max => match c.args.toList with
      | x :: r => mmK true (ρ x) (r.map ρ) fun v => K v [] []
      | _ => none
    | .builtin .min => match c.args.toList with
      | x :: r => mmK false (ρ x) (r.map ρ) fun v => K v [] []
      | _ => none
    | .value g => match ρ g with
      | .clo f caps => callK E f (c.args.toList.map ρ ++ caps) id H K
      | _ => none
    | _ => none
  | _ => none

/-- One operation, with its guard. -/
noncomputable def stepK (E : Env) (ops : List Oper) (o : Oper) (σ : St) (K : St → List Nat → List Nat → Option α) : Option α :=
  let run (σ : St) : Option α := opK E o σ.ρ σ.H fun v rd ups => K ((σ.puts ups).putO o.dst v) rd (ups.map (·.1))
  cond (dstOk E.nt E.io o.dst) (match o.guard with
  | none => run σ
  | some (j, want) => match (ops[j]?).bind (·.dst) with
    | none => none
    | some t => match σ.T t with
      | .val .bool b => match want with
        | true => cond b (run (σ.put t (.val .bool true))) (K ((σ.put t (.val .bool false)).putO o.dst .und) [] [])
        | false => cond b (K ((σ.put t (.val .bool true)).putO o.dst .und) [] []) (run (σ.put t (.val .bool false)))
      | .und => K (σ.putO o.dst .und) [] []
      | _ => none) none

abbrev Log := List (Nat × List Nat × List Nat)

noncomputable def opsK (E : Env) (ops : List Oper) : List Oper → Nat → St → Log → (St → Log → Option α) → Option α
  | [], _, σ, lg, K => K σ lg
  | o :: r, i, σ, lg, K => stepK E ops o σ fun σ' rd wr => opsK E ops r (i + 1) σ' ((i, rd, wr) :: lg) K

/-- Which operations stand ahead of each. -/
def predsL : List Oper → List Nat → List Nat
  | [], acc => acc
  | o :: r, acc => predsL r (acc ++ [o.after.toList.foldl (fun s e => cond (Region.binds .any e) (s ||| 2 ^ e.on ||| acc.getD e.on 0) s) 0])

def names (ops : List Oper) (o : Oper) : List Nat :=
  (o.op.operands.toList.filterMap fun | .tmp t => some t | _ => none) ++
  (match o.guard with
   | some (g, _) => ((ops[g]?).bind (·.dst)).toList
   | none => [])

def meets (a b : List Nat) : Bool := a.any fun x => b.any fun y => Nat.beq x y

/-- Two operations whose order is open don't touch the same temporary. -/
def tmpsOk (ops : List Oper) : Bool :=
  let b := predsL ops []
  (ops.zipIdx.all fun (o, j) => o.after.toList.all fun e => !(Region.binds .any e) || Nat.blt e.on j) &&
  ops.zipIdx.all fun (o, j) => ops.zipIdx.all fun (p, i) => Nat.ble j i || (b.getD j 0).testBit i ||
    !(meets p.dst.toList (o.dst.toList ++ names ops o) || meets o.dst.toList (names ops p))

/-- .. nor the same entry, if one of them writes. -/
def logOk (ops : List Oper) (lg : Log) : Bool :=
  let b := predsL ops []
  lg.all fun x => lg.all fun y => Nat.ble x.1 y.1 || (b.getD x.1 0).testBit y.1 ||
    !(meets y.2.2 (x.2.1 ++ x.2.2) || meets y.2.1 x.2.2)

noncomputable def regionK (E : Env) (ops : Array Oper) (draw : Bool) (σ : St) (K : St → Option α) : Option α :=
  opsK E ops.toList ops.toList 0 σ [] fun σ' lg => cond (!draw || (tmpsOk ops.toList && logOk ops.toList lg)) (K σ') none

def canonK : List (Nat × CM) → St → St → (St → Option α) → Option α
  | [], _, acc, K => K acc
  | (s, .v τ) :: r, σ, acc, K => asVK true (σ.T s) σ.H τ fun x _ ups => canonK r (σ.puts ups) (acc.put s (.val τ x)) K
  | (s, .own e) :: r, σ, acc, K => match σ.T s with
    | .emp => canonK r σ ((acc.put s (.ref (16 * s + 14))).putH (16 * s + 14) (some (.own e []))) K
    | .ref id => match σ.H id with
      | some (.own e' l) => castK (.slice e') (.slice e) l fun x => canonK r (σ.putH id (some .gone)) ((acc.put s (.ref (16 * s + 14))).putH (16 * s + 14) (some (.own e x))) K
      | _ => none
    | _ => none
  | (s, .obj τ) :: r, σ, acc, K => match σ.T s with
    | .adr id [] => match σ.H id with
      | some (.obj υ x) => castK υ τ x fun y => canonK r (σ.putH id (some .gone)) ((acc.put s (.adr (16 * s + 14) [])).putH (16 * s + 14) (some (.obj τ y))) K
      | some (.lnk υ x q j) => frzK j q υ x σ.H fun z ups => castK υ τ z fun y => canonK r ((σ.puts ups).putH id (some .gone)) ((acc.put s (.adr (16 * s + 14) [])).putH (16 * s + 14) (some (.obj τ y))) K
      | _ => none
    | _ => none
  | (s, .lnk τ q e) :: r, σ, acc, K => match σ.T s with
    | .adr id [] => match σ.H id with
      | some (.lnk υ x q' j) => cond (peq q q') (match σ.H j with
        | some (.own e' l) => castK υ τ x fun y => castK (.slice e') (.slice e) l fun l => canonK r ((σ.putH j (some .gone)).putH id (some .gone))
            (((acc.put s (.adr (16 * s + 14) [])).putH (16 * s + 13) (some (.own e l))).putH (16 * s + 14) (some (.lnk τ y q (16 * s + 13)))) K
        | _ => none) none
      | _ => none
    | _ => none
  | (s, .same s') :: r, σ, acc, K => match σ.T s, σ.T s', acc.T s' with
    | .ref i, .ref j, .ref j' => cond (Nat.beq i j) (canonK r σ (acc.put s (.ref j')) K) none
    | _, _, _ => none
  | (s, .io τ) :: r, σ, acc, K => match σ.T s with
    | .adr id [] => cond (Nat.beq id (16 * s + 15)) (match σ.H id with
      | some (.obj υ x) => castK υ τ x fun y => canonK r (σ.putH id (some .gone)) ((acc.put s (.adr (16 * s + 15) [])).putH (16 * s + 15) (some (.obj τ y))) K
      | _ => none) none
    | _ => none
  | (s, .fn f τ) :: r, σ, acc, K => match σ.T s with
    | .clo f' c => cond (Nat.beq f f') (capsK σ.H τ c fun x _ ups => match ups with
      | [] => canonK r σ (acc.put s (.clo f (capsL τ x))) K
      | _ => none) none
    | _ => none

def freshL : List (Nat × CM) → Bool
  | [] => true
  | q :: r => r.all (fun p => !(Nat.beq p.1 q.1)) && freshL r

def cutK (L : Option (List (Nat × CM))) (σ : St) (K : St → Option α) : Option α :=
  match L with
  | none => K σ
  | some L => canonK L σ ⟨fun _ => .any, fun _ => none⟩ K

def loopK (L : Option (List (Nat × CM))) (step : St → (St → Option α) → Option α) : Nat → St → Option α
  | 0, _ => none
  | n + 1, σ => step σ fun σ' => cutK L σ' (loopK L step n)

def firstReg : Code → Option Nat
  | .region id _ _ => some id
  | .seq a b => match firstReg a with
    | some i => some i
    | none => firstReg b
  | .block _ c | .loop c | .scope c => firstReg c
  | _ => none

def condK (E : Env) (c : Operand) (σ : St) (A B : St → Option α) : Option α :=
  match σ.ρ c with
  | .val .bool b => match c with
    | .tmp t => cond b (A (σ.put t (.val .bool true))) (B (σ.put t (.val .bool false)))
    | _ => cond b (A σ) (B σ)
  | _ => none

/-- A function's code: on; out of a block; return. -/
noncomputable def evC (E : Env) (c : Code) : St → (St → Option α) → (Nat → St → Option α) → (St → Option α) → Option α :=
  Code.rec (motive := fun _ => St → (St → Option α) → (Nat → St → Option α) → (St → Option α) → Option α)
    (fun σ k _ _ => k σ)
    (fun _ ops draw σ k _ _ => regionK E ops draw σ k)
    (fun _ b A B σ k kx kr => A σ (fun σ' => cutK ((firstReg b).bind E.cutJ) σ' fun σ'' => B σ'' k kx kr) kx kr)
    (fun c _ _ A B σ k kx kr => condK E c σ (fun σ' => A σ' k kx kr) (fun σ' => B σ' k kx kr))
    (fun id _ A σ k kx kr => A σ k (fun i σ' => cond (Nat.beq i id) (k σ') (kx i σ')) kr)
    (fun b A σ _ kx kr => cutK ((firstReg b).bind E.cutL) σ (loopK ((firstReg b).bind E.cutL) (fun σ' kn => A σ' kn kx kr) E.N))
    (fun _ _ _ _ _ _ _ _ _ _ => none)
    (fun id σ _ kx _ => kx id σ)
    (fun _ A σ k kx kr => A σ k kx kr)
    (fun _ σ k _ _ => k σ)
    (fun _ _ _ _ _ => none)
    (fun σ _ _ kr => kr σ)
    (fun _ _ _ _ _ => none)
    c

/-- A place in a function's code, by a path; 'ks': how the loops round it go on. -/
noncomputable def evAt (E : Env) : List Nat → Code → List (St → Option α) → St → (St → Option α) → (Nat → St → Option α) → (St → Option α) → Option α
  | [], c, _, σ, k, kx, kr => evC E c σ k kx kr
  | n :: p, c, ks, σ, k, kx, kr => match c with
    | .seq a b => match n with
      | 0 => evAt E p a ks σ (fun σ' => cutK ((firstReg b).bind E.cutJ) σ' fun σ'' => evC E b σ'' k kx kr) kx kr
      | _ => evAt E p b ks σ k kx kr
    | .cond _ a b => match n with
      | 0 => evAt E p a ks σ k kx kr
      | _ => evAt E p b ks σ k kx kr
    | .block id c => evAt E p c ks σ k (fun i σ' => cond (Nat.beq i id) (k σ') (kx i σ')) kr
    | .loop b => match ks with
      | κ :: ks => evAt E p b ks σ κ kx kr
      | [] => none
    | .scope c => evAt E p c ks σ k kx kr
    | _ => none

/-- The state at a function's begin. -/
def entry1 (m : AM) (x : m.den) (i : Nat) (σ : St) : St :=
  match m, x with
  | .v τ, x => σ.put i (.val τ x)
  | .own e, x => (σ.put i (.ref (16 * i + 15))).putH (16 * i + 15) (some (.own e x))
  | .io τ, x => (σ.put i (.adr (16 * i + 15) [])).putH (16 * i + 15) (some (.obj τ x))
  | .fn f τ, x => σ.put i (.clo f (capsL τ x))
  | .ptr _, _ => σ
  | .adr τ, x => σ.put i (.iadr τ x)

def entry : (ms : List AM) → HP ms → Nat → St → St
  | [], _, _, σ => σ
  | [m], x, i, σ => entry1 m x i σ
  | m :: n :: ms, x, i, σ => entry (n :: ms) x.2 (i + 1) (entry1 m x.1 i σ)

/-- The results, out of the result variables; behind them what was handed in. -/
def ret1K (E : Env) (m : AM) (r : ResultVar ⊕ Nat) (σ : St) (K : m.den → St → Option α) : Option α :=
  match m, r, K with
  | .v τ, .inl (.tmp t), K => asVK true (σ.T t) σ.H τ fun x _ ups => K x (σ.puts ups)
  | .v τ, .inl (.cell a t), K => match E.ty t with
    | some τ' => sameK τ' τ (loadK (σ.T a) σ.H fun υ y _ => castK υ τ y fun x => K x σ)
    | none => none
  | .own e, .inl (.tmp t), K => match σ.T t with
    | .emp => K [] σ
    | .ref id => match σ.H id with
      | some (.own e' l) => castK (.slice e') (.slice e) l fun x => K x (σ.putH id (some .gone))
      | _ => none
    | _ => none
  | .io τ, .inr i, K => match σ.T i with
    | .adr id [] => match σ.H id with
      | some (.obj υ x) => castK υ τ x fun y => K y (σ.putH id (some .gone))
      | _ => none
    | _ => none
  | .ptr τ, .inl (.tmp t), K => match σ.T t with
    | .adr id [] => match σ.H id with
      | some (.obj υ x) => castK υ τ x fun y => K y (σ.putH id (some .gone))
      | _ => none
    | _ => none
  | _, _, _ => none

def retK (E : Env) : (ms : List AM) → List (ResultVar ⊕ Nat) → St → (HP ms → Option α) → Option α
  | [], [], _, K => K ()
  | [m], [r], σ, K => ret1K E m r σ fun x _ => K x
  | m :: n :: ms, r :: rs, σ, K => ret1K E m r σ fun x σ' => retK E (n :: ms) rs σ' fun xs => K (x, xs)
  | _, _, _, _ => none

def ioOf : List AM → Nat → List (ResultVar ⊕ Nat)
  | [], _ => []
  | .io _ :: ms, i => .inr i :: ioOf ms (i + 1)
  | _ :: ms, i => ioOf ms (i + 1)

noncomputable def evF (E : Env) (fn : Func) (args res : List AM) (x : HP args) : Option (HP res) :=
  match fn.body with
  | none => none
  | some c =>
    let kr : St → Option (HP res) := fun σ => retK E res (fn.results.toList.map .inl ++ ioOf args 0) σ some
    evC E c (entry args x 0 ⟨fun _ => .any, fun _ => none⟩) kr (fun _ _ => none) kr

end

end VM
end

section
/- The value machine: what the library's own functions answer. -/
namespace VM
open Go

noncomputable def add64 (N : Nat) (x y c : Int) : Option (Int × Int) := if 0 ≤ x ∧ 0 ≤ y ∧ 0 ≤ c ∧ c ≤ 1 then some ((x + y + c) % 18446744073709551616, (x + y + c) / 18446744073709551616) else none
noncomputable def sub64 (N : Nat) (x y c : Int) : Option (Int × Int) := if 0 ≤ x ∧ x < 18446744073709551616 ∧ 0 ≤ y ∧ y < 18446744073709551616 ∧ 0 ≤ c ∧ c ≤ 1 then some ((x + 18446744073709551616 - y - c) % 18446744073709551616, if x < y + c then 1 else 0) else none
/-- slices.Insert, of one element. -/
noncomputable def insertL {α : Type} (N : Nat) (l : List α) (i : Int) (v : List α) : Option (List α) := if 0 ≤ i ∧ i ≤ l.length ∧ v.length = 1 ∧ l.length + 1 < big then some (l.take i.toNat ++ (v ++ l.drop i.toNat)) else none
/-- slices.Repeat, of one element. -/
noncomputable def repeatL {α : Type} (N : Nat) (l : List α) (n : Int) : Option (List α) := match l with
  | [x] => if 0 < n ∧ n < 1048576 then some (List.replicate n.toNat x) else none
  | _ => none

noncomputable def add64.S (N : Nat) : Summ := { args := [.v (.int .u64), .v (.int .u64), .v (.int .u64)], res := [.v (.int .u64), .v (.int .u64)], quiet := true, run := fun x => add64 N x.1 x.2.1 x.2.2 }
noncomputable def sub64.S (N : Nat) : Summ := { args := [.v (.int .u64), .v (.int .u64), .v (.int .u64)], res := [.v (.int .u64), .v (.int .u64)], quiet := true, run := fun x => sub64 N x.1 x.2.1 x.2.2 }
noncomputable def insertS (e : Ty) (N : Nat) : Summ := { args := [.own e, .v (.int .i64), .own e], res := [.own e], quiet := false, run := fun x => insertL N x.1 x.2.1 x.2.2 }
noncomputable def repeatS (e : Ty) (N : Nat) : Summ := { args := [.v (.slice e), .v (.int .i64)], res := [.own e], quiet := false, run := fun x => repeatL N x.1 x.2 }
/-- slices.Clone. -/
noncomputable def cloneL {α : Type} (N : Nat) (l : List α) : Option (List α) := if l.length < big then some l else none
noncomputable def cloneS (e : Ty) (N : Nat) : Summ := { args := [.v (.slice e)], res := [.own e], quiet := false, run := fun x => cloneL N x }
end VM

namespace VM
abbrev zz2 : Int × Int × Unit := ((0 : Int), ((0 : Int), ()))
abbrev ee2 : List (Int × Int × Unit) := []
abbrev zz3 : Int × Int × Int × Unit := ((0 : Int), ((0 : Int), ((0 : Int), ())))
abbrev ee3 : List (Int × Int × Int × Unit) := []
abbrev zz4 : Int × Int × Int × Int × Unit := ((0 : Int), ((0 : Int), ((0 : Int), ((0 : Int), ()))))
abbrev ee4 : List (Int × Int × Int × Int × Unit) := []
abbrev zz5 : Int × Int × Int × Int × Int × Unit := ((0 : Int), ((0 : Int), ((0 : Int), ((0 : Int), ((0 : Int), ())))))
abbrev ee5 : List (Int × Int × Int × Int × Int × Unit) := []
abbrev zz6 : Int × Int × Int × Int × Int × Int × Unit := ((0 : Int), ((0 : Int), ((0 : Int), ((0 : Int), ((0 : Int), ((0 : Int), ()))))))
abbrev ee6 : List (Int × Int × Int × Int × Int × Int × Unit) := []
abbrev zz7 : Int × Int × Int × Int × Int × Int × Int × Unit := ((0 : Int), ((0 : Int), ((0 : Int), ((0 : Int), ((0 : Int), ((0 : Int), ((0 : Int), ())))))))
abbrev ee7 : List (Int × Int × Int × Int × Int × Int × Int × Unit) := []
abbrev zz8 : Int × Int × Int × Int × Int × Int × Int × Int × Unit := ((0 : Int), ((0 : Int), ((0 : Int), ((0 : Int), ((0 : Int), ((0 : Int), ((0 : Int), ((0 : Int), ()))))))))
abbrev ee8 : List (Int × Int × Int × Int × Int × Int × Int × Int × Unit) := []
abbrev eeI : List Int := []
abbrev zzB : List Int × Unit := (eeI, ())
end VM
end

section
/- The value machine, second text: how values lie in memory; what stays when memory grows. -/
namespace VM
open Go

/-- Cells in a row. -/
def At (w : World) (b off : Nat) (cs : List Value) : Prop := ∀ j v, cs[j]? = some v → w.cell? ⟨b, off + j, none⟩ = some v

/-- How a value of a shape is read from cells; 'M': blocks that may still be written: none of these is met. -/
def Rd (w : World) (M : Nat → Prop) : (τ : Ty) → List Value → τ.den → Prop
  | .int k, cs, x => cs = [.int k x]
  | .bool, cs, x => cs = [.bool x]
  | .str, cs, x => cs = [.string x]
  | .slice e, cs, x => ∃ a cap, cs = [.slice a (List.length x) cap] ∧ List.length x ≤ cap ∧
      ∀ i (h : i < List.length x), ∃ b off, a = some ⟨b, off, none⟩ ∧ b < w.heap.size ∧ ¬ M b ∧ ∃ cs', At w b (off + i * e.size) cs' ∧ Rd w M e cs' (List.get x ⟨i, h⟩)
  | .unit, cs, _ => cs = []
  | .pair a b, cs, x => ∃ c1 c2, cs = c1 ++ c2 ∧ Rd w M a c1 x.1 ∧ Rd w M b c2 x.2
  | .arr n e, cs, x => List.length x = n ∧ ∃ css : List (List Value), css.length = n ∧ cs = css.flatten ∧
      ∀ i (h : i < List.length x) (h' : i < css.length), Rd w M e css[i] (List.get x ⟨i, h⟩)

theorem length_flatten_const {α : Type} (n : Nat) : ∀ (l : List (List α)), (∀ i (h : i < l.length), l[i].length = n) → l.flatten.length = l.length * n
  | [], _ => by simp
  | a :: l, h => by
    have h0 := h 0 (by simp)
    have ih := length_flatten_const n l (fun i hi => h (i + 1) (by simp; omega))
    simp only [List.getElem_cons_zero] at h0
    simp only [List.flatten_cons, List.length_append, List.length_cons, ih, h0, Nat.add_mul]
    omega

theorem Rd.length {w : World} {M : Nat → Prop} : ∀ {τ : Ty} {cs : List Value} {x : τ.den}, Rd w M τ cs x → cs.length = τ.size
  | .int _, _, _, h => by simp only [Rd] at h; subst h; rfl
  | .bool, _, _, h => by simp only [Rd] at h; subst h; rfl
  | .str, _, _, h => by simp only [Rd] at h; subst h; rfl
  | .slice _, _, _, h => by simp only [Rd] at h; obtain ⟨a, cap, rfl, _⟩ := h; rfl
  | .unit, _, _, h => by simp only [Rd] at h; subst h; rfl
  | .pair a b, _, _, h => by
    simp only [Rd] at h
    obtain ⟨c1, c2, rfl, h1, h2⟩ := h
    rw [List.length_append, h1.length, h2.length]; rfl
  | .arr n e, _, x, h => by
    simp only [Rd] at h
    obtain ⟨hn, css, hc, rfl, hr⟩ := h
    rw [length_flatten_const e.size css (fun i hi => (hr i (by omega) hi).length), hc]; rfl

/-- What memory that may not be written any more holds, another world holds, too. -/
structure Keeps (w : World) (M : Nat → Prop) (w' : World) (M' : Nat → Prop) : Prop where
  size : w.heap.size ≤ w'.heap.size
  block : ∀ b, b < w.heap.size → ¬ M b → w'.heap[b]? = w.heap[b]?
  less : ∀ b, b < w.heap.size → M' b → M b

theorem lt_of_cell {w : World} {b o : Nat} {v : Value} (h : w.cell? ⟨b, o, none⟩ = some v) : b < w.heap.size := by
  simp only [World.cell?] at h
  rcases Nat.lt_or_ge b w.heap.size with hb | hb
  · exact hb
  · simp [Array.getElem?_eq_none hb] at h

theorem At.keep {w w' : World} {b off : Nat} {cs : List Value} (h : At w b off cs) (hb : w'.heap[b]? = w.heap[b]?) : At w' b off cs := by
  intro j v hj
  have := h j v hj
  rw [World.cell?_of_block (w := w) hb]
  exact this

theorem At.append {w : World} {b off : Nat} {c1 c2 : List Value} : At w b off (c1 ++ c2) ↔ At w b off c1 ∧ At w b (off + c1.length) c2 := by
  constructor
  · intro h
    refine ⟨fun j v hj => h j v (by rw [List.getElem?_append_left]; exact hj; exact (List.getElem?_eq_some_iff.1 hj).1), fun j v hj => ?_⟩
    have := h (c1.length + j) v (by rw [List.getElem?_append_right (by omega)]; simpa using hj)
    rw [Nat.add_assoc]; exact this
  · rintro ⟨h1, h2⟩ j v hj
    by_cases hlt : j < c1.length
    · rw [List.getElem?_append_left hlt] at hj; exact h1 j v hj
    · rw [List.getElem?_append_right (by omega)] at hj
      have := h2 (j - c1.length) v hj
      rwa [show off + c1.length + (j - c1.length) = off + j from by omega] at this

theorem Rd.keep {w w' : World} {M M' : Nat → Prop} (k : Keeps w M w' M') : ∀ {τ : Ty} {cs : List Value} {x : τ.den}, Rd w M τ cs x → Rd w' M' τ cs x
  | .int _, _, _, h => h
  | .bool, _, _, h => h
  | .str, _, _, h => h
  | .slice e, _, x, h => by
    simp only [Rd] at h ⊢
    obtain ⟨a, cap, rfl, hc, hr⟩ := h
    refine ⟨a, cap, rfl, hc, fun i hi => ?_⟩
    obtain ⟨b, off, ha, hb, hm, cs', hat, hrd⟩ := hr i hi
    exact ⟨b, off, ha, Nat.lt_of_lt_of_le hb k.size, fun h' => hm (k.less b hb h'), _, hat.keep (k.block b hb hm), hrd.keep k⟩
  | .unit, _, _, h => h
  | .pair a b, _, _, h => by
    simp only [Rd] at h ⊢
    obtain ⟨c1, c2, rfl, h1, h2⟩ := h
    exact ⟨c1, c2, rfl, h1.keep k, h2.keep k⟩
  | .arr n e, _, x, h => by
    simp only [Rd] at h ⊢
    obtain ⟨hn, css, hc, rfl, hr⟩ := h
    exact ⟨hn, css, hc, rfl, fun i hi hi' => (hr i hi hi').keep k⟩

theorem Keeps.refl (w : World) (M : Nat → Prop) : Keeps w M w M := ⟨Nat.le_refl _, fun _ _ _ => rfl, fun _ _ h => h⟩

theorem Keeps.trans {w w' w'' : World} {M M' M'' : Nat → Prop} (h : Keeps w M w' M') (k : Keeps w' M' w'' M'') : Keeps w M w'' M'' :=
  ⟨Nat.le_trans h.size k.size, fun b hb hm => (k.block b (Nat.lt_of_lt_of_le hb h.size) (fun h' => hm (h.less b hb h'))).trans (h.block b hb hm),
   fun b hb hm => h.less b hb (k.less b (Nat.lt_of_lt_of_le hb h.size) hm)⟩

/-- A value of a shape. -/
def V (w : World) (M : Nat → Prop) (τ : Ty) (v : Value) (x : τ.den) : Prop :=
  if τ.isAgg then ∃ cs, v = .agg cs ∧ Rd w M τ cs.toList x else Rd w M τ [v] x

theorem V.keep {w w' : World} {M M' : Nat → Prop} (k : Keeps w M w' M') {τ : Ty} {v : Value} {x : τ.den} (h : V w M τ v x) : V w' M' τ v x := by
  unfold V at *
  split
  · rename_i ha; rw [if_pos ha] at h; obtain ⟨cs, rfl, h⟩ := h; exact ⟨cs, rfl, h.keep k⟩
  · rename_i ha; rw [if_neg ha] at h; exact h.keep k

theorem Rd.scalar {w : World} {M : Nat → Prop} {τ : Ty} {cs : List Value} {x : τ.den} (ha : τ.isAgg = false) (h : Rd w M τ cs x) : ∃ v, cs = [v] ∧ v.cells = #[v] := by
  cases τ <;> simp only [Ty.isAgg, Bool.true_eq_false] at ha <;> simp only [Rd] at h
  · exact ⟨_, h, rfl⟩
  · exact ⟨_, h, rfl⟩
  · exact ⟨_, h, rfl⟩
  · obtain ⟨a, cap, rfl, _⟩ := h; exact ⟨_, rfl, rfl⟩

/-- The cells of a value. -/
theorem V.cells {w : World} {M : Nat → Prop} {τ : Ty} {v : Value} {x : τ.den} (h : V w M τ v x) : Rd w M τ v.cells.toList x := by
  unfold V at h
  by_cases ha : τ.isAgg = true
  · rw [if_pos ha] at h; obtain ⟨cs, rfl, h⟩ := h; exact h
  · rw [if_neg ha] at h
    obtain ⟨v', hv, hc⟩ := h.scalar (by simpa using ha)
    simp only [List.cons.injEq, and_true] at hv
    subst hv
    rw [hc]; exact h

/-- Cells as a value. -/
def ofCells (τ : Ty) (cs : List Value) : Value := if τ.isAgg then .agg cs.toArray else cs.headD (.tuple #[])

theorem V.ofCells {w : World} {M : Nat → Prop} {τ : Ty} {cs : List Value} {x : τ.den} (h : Rd w M τ cs x) : V w M τ (ofCells τ cs) x := by
  unfold V VM.ofCells
  by_cases ha : τ.isAgg = true
  · rw [if_pos ha, if_pos ha]; exact ⟨_, rfl, by simpa using h⟩
  · rw [if_neg ha, if_neg ha]
    obtain ⟨v', rfl, _⟩ := h.scalar (by simpa using ha)
    exact h

theorem ofCells_cells {w : World} {M : Nat → Prop} {τ : Ty} {cs : List Value} {x : τ.den} (h : Rd w M τ cs x) : (ofCells τ cs).cells.toList = cs := by
  unfold VM.ofCells
  by_cases ha : τ.isAgg = true
  · rw [if_pos ha]; simp [Value.cells]
  · rw [if_neg ha]
    obtain ⟨v', rfl, hc⟩ := h.scalar (by simpa using ha)
    simp [hc]

/-- A cell is no struct. -/
theorem Rd.oneCell {w : World} {M : Nat → Prop} : ∀ {τ : Ty} {cs : List Value} {x : τ.den}, Rd w M τ cs x → ∀ v ∈ cs, v.oneCell' = true
  | .int _, _, _, h => by simp only [Rd] at h; subst h; simp [Value.oneCell']
  | .bool, _, _, h => by simp only [Rd] at h; subst h; simp [Value.oneCell']
  | .str, _, _, h => by simp only [Rd] at h; subst h; simp [Value.oneCell']
  | .slice _, _, _, h => by simp only [Rd] at h; obtain ⟨a, cap, rfl, _⟩ := h; simp [Value.oneCell']
  | .unit, _, _, h => by simp only [Rd] at h; subst h; simp
  | .pair a b, _, _, h => by
    simp only [Rd] at h
    obtain ⟨c1, c2, rfl, h1, h2⟩ := h
    intro v hv
    rcases List.mem_append.1 hv with hv | hv
    · exact h1.oneCell v hv
    · exact h2.oneCell v hv
  | .arr n e, _, x, h => by
    simp only [Rd] at h
    obtain ⟨hn, css, hc, rfl, hr⟩ := h
    intro v hv
    obtain ⟨l, hl, hvl⟩ := List.mem_flatten.1 hv
    obtain ⟨i, hi, rfl⟩ := List.mem_iff_getElem.1 hl
    exact (hr i (by omega) hi).oneCell v hvl

/-- Zero. -/
def Ty.zcells : Ty → List Value
  | .int k => [.int k 0]
  | .bool => [.bool false]
  | .str => [.string ByteArray.empty]
  | .slice _ => [.slice none 0 0]
  | .unit => []
  | .pair a b => a.zcells ++ b.zcells
  | .arr n e => (List.replicate n e.zcells).flatten

theorem Rd.zero (w : World) (M : Nat → Prop) : ∀ (τ : Ty), Rd w M τ τ.zcells τ.zero
  | .int _ | .bool | .str | .unit => by simp [Rd, Ty.zcells, Ty.zero]
  | .slice _ => by
    simp only [Rd, Ty.zcells, Ty.zero]
    exact ⟨none, 0, rfl, Nat.le_refl _, fun i h => absurd h (by simp)⟩
  | .pair a b => by
    simp only [Rd, Ty.zcells, Ty.zero]
    exact ⟨_, _, rfl, Rd.zero w M a, Rd.zero w M b⟩
  | .arr n e => by
    simp only [Rd, Ty.zcells, Ty.zero]
    refine ⟨by simp, _, by simp, rfl, fun i h h' => ?_⟩
    simp only [List.getElem_replicate, List.get_eq_getElem]
    exact Rd.zero w M e

end VM
end

section
/- The value machine, third text: types' layout; entries; the state that fits a world. -/
namespace VM
open Go

/-! ### Layout -/
def Base (P : Program) (τ : Ty) (t : TypeId) : Prop :=
  ∃ i, P.info? t = some i ∧ i.size = τ.size ∧ i.zero = some (ofCells τ τ.zcells) ∧ i.bytes ≤ 2048

def LayG (P : Program) : Ty → TypeId ⊕ (Array Field × Nat × Nat) → Prop
  | .int k, .inl t => Base P (.int k) t ∧ P.underlying t = some (.int k)
  | .bool, .inl t => Base P .bool t ∧ P.underlying t = some .bool
  | .str, .inl t => Base P .str t ∧ P.underlying t = some .string
  | .slice e, .inl t => Base P (.slice e) t ∧ ∃ e', P.underlying t = some (.slice e') ∧ LayG P e (.inl e')
  | .arr n e, .inl t => Base P (.arr n e) t ∧ ∃ e', P.underlying t = some (.array n e') ∧ LayG P e (.inl e')
  | .unit, .inl t => Base P .unit t ∧ ∃ fs, P.underlying t = some (.struct fs) ∧ fs.size = 0
  | .unit, .inr (fs, n, _) => fs.size = n
  | .pair a b, .inl t => Base P (.pair a b) t ∧ ∃ fs f, P.underlying t = some (.struct fs) ∧ fs[0]? = some f ∧ f.offset = 0 ∧ LayG P a (.inl f.type) ∧ LayG P b (.inr (fs, 1, a.size))
  | .pair a b, .inr (fs, n, off) => ∃ f, fs[n]? = some f ∧ f.offset = off ∧ LayG P a (.inl f.type) ∧ LayG P b (.inr (fs, n + 1, off + a.size))
  | _, .inr _ => False

def Lay (P : Program) (τ : Ty) (t : TypeId) : Prop := LayG P τ (.inl t)

theorem Lay.base {P : Program} {τ : Ty} {t : TypeId} (h : Lay P τ t) : Base P τ t := by
  unfold Lay at h; cases τ <;> simp only [LayG] at h <;> exact h.1

theorem Lay.int {P : Program} {k : IntKind} {t : TypeId} (h : Lay P (.int k) t) : P.underlying t = some (.int k) := by simp only [Lay, LayG] at h; exact h.2
theorem Lay.bool {P : Program} {t : TypeId} (h : Lay P .bool t) : P.underlying t = some .bool := by simp only [Lay, LayG] at h; exact h.2
theorem Lay.str {P : Program} {t : TypeId} (h : Lay P .str t) : P.underlying t = some .string := by simp only [Lay, LayG] at h; exact h.2
theorem Lay.slice {P : Program} {e : Ty} {t : TypeId} (h : Lay P (.slice e) t) : ∃ e', P.underlying t = some (.slice e') ∧ Lay P e e' := by simp only [Lay, LayG] at h; exact h.2
theorem Lay.arr {P : Program} {n : Nat} {e : Ty} {t : TypeId} (h : Lay P (.arr n e) t) : ∃ e', P.underlying t = some (.array n e') ∧ Lay P e e' := by simp only [Lay, LayG] at h; exact h.2

theorem Lay.isSome {P : Program} {τ : Ty} {t : TypeId} (h : Lay P τ t) : (P.underlying t).isSome = true := by
  unfold Lay at h
  cases τ <;> simp only [LayG] at h
  · simp [h.2]
  · simp [h.2]
  · simp [h.2]
  · obtain ⟨_, e', h', _⟩ := h; simp [h']
  · obtain ⟨_, e', h', _⟩ := h; simp [h']
  · obtain ⟨_, e', f, h', _⟩ := h; simp [h']
  · obtain ⟨_, e', h', _⟩ := h; simp [h']

/-- A struct's field. -/
inductive Fld : (τ : Ty) → τ.den → Nat → (υ : Ty) → υ.den → Nat → Prop where
  | here {a b : Ty} (x : (Ty.pair a b).den) : Fld (.pair a b) x 0 a x.1 0
  | there {a b : Ty} (x : (Ty.pair a b).den) {n : Nat} {υ : Ty} {y : υ.den} {o : Nat} (h : Fld b x.2 n υ y o) : Fld (.pair a b) x (n + 1) υ y (a.size + o)

theorem fldK_inv {α : Type} {r : α} : ∀ {τ : Ty} {x : τ.den} {n : Nat} {k : (υ : Ty) → υ.den → Option α}, fldK τ x n k = some r → ∃ υ y o, Fld τ x n υ y o ∧ k υ y = some r
  | .pair a b, x, 0, k, h => ⟨a, x.1, 0, .here x, h⟩
  | .pair a b, x, n + 1, k, h => by
    obtain ⟨υ, y, o, hf, hk⟩ := fldK_inv (τ := b) (x := x.2) (n := n) (k := k) h
    exact ⟨υ, y, _, .there x hf, hk⟩
  | .int _, _, _, _, h | .bool, _, _, _, h | .str, _, _, _, h | .slice _, _, _, _, h | .unit, _, _, _, h | .arr _ _, _, _, _, h => by simp [fldK] at h

theorem Fld.bound {τ : Ty} {x : τ.den} {n : Nat} {υ : Ty} {y : υ.den} {o : Nat} (h : Fld τ x n υ y o) : o + υ.size ≤ τ.size := by
  induction h with
  | here x => simp [Ty.size]
  | there x h ih => simp only [Ty.size]; omega

theorem Fld.rd {w : World} {M : Nat → Prop} {τ : Ty} {x : τ.den} {n : Nat} {υ : Ty} {y : υ.den} {o : Nat} (h : Fld τ x n υ y o) :
    ∀ {cs : List Value}, Rd w M τ cs x → Rd w M υ ((cs.drop o).take υ.size) y := by
  induction h with
  | here x =>
    intro cs hr
    simp only [Rd] at hr
    obtain ⟨c1, c2, rfl, h1, _⟩ := hr
    rw [List.drop_zero, List.take_left' h1.length]; exact h1
  | there x h ih =>
    intro cs hr
    simp only [Rd] at hr
    obtain ⟨c1, c2, rfl, h1, h2⟩ := hr
    rw [← List.drop_drop, List.drop_left' h1.length]
    exact ih h2

theorem LayG.fld {P : Program} {τ : Ty} {x : τ.den} {m : Nat} {υ : Ty} {y : υ.den} {o : Nat} (h : Fld τ x m υ y o) :
    ∀ {fs : Array Field} {n off : Nat}, LayG P τ (.inr (fs, n, off)) → ∃ f, fs[n + m]? = some f ∧ f.offset = off + o ∧ Lay P υ f.type := by
  induction h with
  | here x =>
    intro fs n off hl
    simp only [LayG] at hl
    obtain ⟨f, hf, ho, ha, _⟩ := hl
    exact ⟨f, hf, by simpa using ho, ha⟩
  | there x h ih =>
    intro fs n off hl
    simp only [LayG] at hl
    obtain ⟨f, hf, ho, _, hb⟩ := hl
    obtain ⟨f', hf', ho', hl'⟩ := ih hb
    exact ⟨f', by rw [← hf']; congr 1; omega, by omega, hl'⟩

theorem Lay.fld {P : Program} {τ : Ty} {t : TypeId} {x : τ.den} {m : Nat} {υ : Ty} {y : υ.den} {o : Nat} (hl : Lay P τ t) (h : Fld τ x m υ y o) :
    ∃ fs f, P.underlying t = some (.struct fs) ∧ fs[m]? = some f ∧ f.offset = o ∧ Lay P υ f.type := by
  unfold Lay at hl
  cases h with
  | here x =>
    simp only [LayG] at hl
    obtain ⟨_, fs, f, hu, hf, ho, ha, _⟩ := hl
    exact ⟨fs, f, hu, hf, ho, ha⟩
  | there x h =>
    simp only [LayG] at hl
    obtain ⟨_, fs, f, hu, hf, ho, _, hb⟩ := hl
    obtain ⟨f', hf', ho', hl'⟩ := LayG.fld h hb
    exact ⟨fs, f', hu, by rw [← hf']; congr 1; omega, by omega, hl'⟩

/-! ### Paths -/
/-- A path from a value to a part of it; the last number: how many cells stand ahead. -/
inductive Pth : List Step → (τ : Ty) → τ.den → (υ : Ty) → υ.den → Nat → Prop where
  | nil {τ : Ty} (x : τ.den) : Pth [] τ x τ x 0
  | fld {p : List Step} {τ υ σ : Ty} {x : τ.den} {n o : Nat} {y : υ.den} {z : σ.den} {q : Nat} (h : Fld τ x n υ y o) (r : Pth p υ y σ z q) : Pth (.fld n :: p) τ x σ z (o + q)
  | idx {p : List Step} {n : Nat} {e σ : Ty} {x : (Ty.arr n e).den} {i : Nat} {z : σ.den} {q : Nat} (r : Pth p e (List.getD x i e.zero) σ z q) : Pth (.idx i :: p) (.arr n e) x σ z (i * e.size + q)

theorem getP_inv {α : Type} {r : α} : ∀ {p : List Step} {τ : Ty} {x : τ.den} {k : (υ : Ty) → υ.den → Option α}, getP p τ x k = some r → ∃ υ y o, Pth p τ x υ y o ∧ k υ y = some r
  | [], τ, x, k, h => ⟨τ, x, 0, .nil x, h⟩
  | .fld n :: p, τ, x, k, h => by
    obtain ⟨υ, y, o, hf, h'⟩ := fldK_inv (h : fldK τ x n _ = some r)
    obtain ⟨σ, z, q, hp, hk⟩ := getP_inv h'
    exact ⟨σ, z, _, .fld hf hp, hk⟩
  | .idx i :: p, τ, x, k, h => by
    cases τ with
    | arr n e =>
      obtain ⟨σ, z, q, hp, hk⟩ := getP_inv (p := p) (τ := e) (x := List.getD x i e.zero) (k := k) h
      exact ⟨σ, z, _, .idx hp, hk⟩
    | _ => simp [getP, idxK] at h

def fldT : Ty → Nat → Ty
  | .pair a b, n => match n with | 0 => a | n + 1 => fldT b n
  | τ, _ => τ
def offF : Ty → Nat → Nat
  | .pair a b, n => match n with | 0 => 0 | n + 1 => a.size + offF b n
  | _, _ => 0
def elT : Ty → Ty
  | .arr _ e => e
  | τ => τ
def tyP : List Step → Ty → Ty
  | [], τ => τ
  | .fld n :: p, τ => tyP p (fldT τ n)
  | .idx _ :: p, τ => tyP p (elT τ)
def offP : List Step → Ty → Nat
  | [], _ => 0
  | .fld n :: p, τ => offF τ n + offP p (fldT τ n)
  | .idx i :: p, τ => i * (elT τ).size + offP p (elT τ)
/-- The indexes of a path lie in their arrays. -/
def InbP : List Step → Ty → Prop
  | [], _ => True
  | .fld n :: p, τ => InbP p (fldT τ n)
  | .idx i :: p, τ => (∃ n e, τ = .arr n e ∧ i < n) ∧ InbP p (elT τ)

theorem Fld.eq {τ : Ty} {x : τ.den} {n : Nat} {υ : Ty} {y : υ.den} {o : Nat} (h : Fld τ x n υ y o) : υ = fldT τ n ∧ o = offF τ n := by
  induction h with
  | here x => exact ⟨rfl, rfl⟩
  | there x h ih => obtain ⟨rfl, rfl⟩ := ih; exact ⟨rfl, rfl⟩

theorem Pth.eq {p : List Step} {τ : Ty} {x : τ.den} {υ : Ty} {y : υ.den} {o : Nat} (h : Pth p τ x υ y o) : υ = tyP p τ ∧ o = offP p τ := by
  induction h with
  | nil x => exact ⟨rfl, rfl⟩
  | fld h r ih =>
    obtain ⟨h1, h2⟩ := h.eq
    obtain ⟨h3, h4⟩ := ih
    subst h1 h2 h3 h4
    exact ⟨rfl, rfl⟩
  | idx r ih =>
    obtain ⟨h3, h4⟩ := ih
    subst h3 h4
    exact ⟨rfl, rfl⟩

theorem tyP_append (p q : List Step) : ∀ τ, tyP (p ++ q) τ = tyP q (tyP p τ) := by
  induction p with
  | nil => intro τ; rfl
  | cons s p ih => intro τ; cases s <;> simp [tyP, ih]
theorem offP_append (p q : List Step) : ∀ τ, offP (p ++ q) τ = offP p τ + offP q (tyP p τ) := by
  induction p with
  | nil => intro τ; simp [offP, tyP]
  | cons s p ih => intro τ; cases s <;> simp [offP, tyP, ih, Nat.add_assoc]
theorem InbP_append (p q : List Step) : ∀ τ, InbP (p ++ q) τ ↔ InbP p τ ∧ InbP q (tyP p τ) := by
  induction p with
  | nil => intro τ; simp [InbP, tyP]
  | cons s p ih => intro τ; cases s <;> simp [InbP, tyP, ih, and_assoc]

theorem getElem_getD {α : Type} (l : List α) (i : Nat) (d : α) (h : i < l.length) : l.getD i d = l[i] := by simp [List.getD, List.getElem?_eq_getElem h]

/-- The cells of an array's element. -/
theorem drop_flatten {α : Type} (n : Nat) : ∀ (l : List (List α)) (i : Nat) (h : i < l.length), (∀ j (hj : j < l.length), l[j].length = n) → (l.flatten.drop (i * n)).take n = l[i]
  | a :: l, 0, _, hn => by
    have := hn 0 (by simp)
    simp only [List.getElem_cons_zero] at this
    simp [← this]
  | a :: l, i + 1, h, hn => by
    have h0 := hn 0 (by simp)
    simp only [List.getElem_cons_zero] at h0
    rw [List.flatten_cons, Nat.add_mul, Nat.one_mul, Nat.add_comm (i * n) n, ← List.drop_drop, List.drop_left' h0]
    exact drop_flatten n l i (by simpa using h) (fun j hj => hn (j + 1) (by simp; omega))

theorem Rd.idx {w : World} {M : Nat → Prop} {n : Nat} {e : Ty} {cs : List Value} {x : (Ty.arr n e).den} (h : Rd w M (.arr n e) cs x) {i : Nat} (hi : i < n) :
    Rd w M e ((cs.drop (i * e.size)).take e.size) (List.getD x i e.zero) := by
  simp only [Rd] at h
  obtain ⟨hn, css, hc, rfl, hr⟩ := h
  rw [drop_flatten e.size css i (by omega) (fun j hj => (hr j (by omega) hj).length), getElem_getD x i e.zero (by omega)]
  exact hr i (by omega) (by omega)

theorem Pth.bound {p : List Step} {τ : Ty} {x : τ.den} {υ : Ty} {y : υ.den} {o : Nat} (h : Pth p τ x υ y o) : InbP p τ → o + υ.size ≤ τ.size := by
  induction h with
  | nil x => intro _; simp
  | fld h r ih =>
    intro hi
    obtain ⟨h1, h2⟩ := h.eq
    subst h1
    have := ih hi
    have := h.bound
    omega
  | @idx p n e σ x i z q r ih =>
    intro hi
    obtain ⟨⟨n', e', he, hin⟩, hi'⟩ := hi
    cases he
    have := ih hi'
    have h2 : (i + 1) * e.size ≤ n * e.size := Nat.mul_le_mul_right _ hin
    rw [Nat.add_mul] at h2
    simp only [Ty.size]
    omega

theorem Pth.rd {w : World} {M : Nat → Prop} {p : List Step} {τ : Ty} {x : τ.den} {υ : Ty} {y : υ.den} {o : Nat} (h : Pth p τ x υ y o) :
    InbP p τ → ∀ {cs : List Value}, Rd w M τ cs x → Rd w M υ ((cs.drop o).take υ.size) y := by
  induction h with
  | nil x => intro _ cs hr; rw [List.drop_zero, List.take_of_length_le (by rw [hr.length]; exact Nat.le_refl _)]; exact hr
  | fld h r ih =>
    intro hi cs hr
    obtain ⟨h1, h2⟩ := h.eq
    subst h1
    have := ih hi (h.rd hr)
    have hb := Pth.bound r hi
    rw [List.drop_take, List.drop_drop, List.take_take, Nat.min_eq_left (by omega)] at this
    exact this
  | @idx p n e σ x i z q r ih =>
    intro hi cs hr
    obtain ⟨⟨n', e', he, hin⟩, hi'⟩ := hi
    cases he
    have := ih hi' (hr.idx hin)
    have hb := Pth.bound r hi'
    rw [List.drop_take, List.drop_drop, List.take_take, Nat.min_eq_left (by omega)] at this
    exact this

/-! ### Cells in the middle -/
/-- Some cells in the middle, replaced. -/
def spl {α : Type} (cs : List α) (o : Nat) (new : List α) : List α := cs.take o ++ new ++ cs.drop (o + new.length)

theorem spl_left {α : Type} {a b : List α} {o : Nat} {new : List α} (h : o + new.length ≤ a.length) : spl (a ++ b) o new = spl a o new ++ b := by
  unfold spl
  rw [List.take_append_of_le_length (by omega), List.drop_append_of_le_length (by omega)]
  simp only [List.append_assoc]
theorem spl_right {α : Type} {a b : List α} {o : Nat} {new : List α} : spl (a ++ b) (a.length + o) new = a ++ spl b o new := by
  unfold spl
  rw [List.take_append, List.take_of_length_le (by omega), Nat.add_sub_cancel_left, Nat.add_assoc, List.drop_append, List.drop_of_length_le (by omega), Nat.add_sub_cancel_left]
  simp
theorem length_spl {α : Type} {a : List α} {o : Nat} {new : List α} (h : o + new.length ≤ a.length) : (spl a o new).length = a.length := by
  unfold spl; simp; omega
/-- Outside of what is replaced. -/
theorem spl_out {α : Type} {a : List α} {o i n : Nat} {new : List α} (h : i + n ≤ o ∨ o + new.length ≤ i) (hl : o + new.length ≤ a.length) : ((spl a o new).drop i).take n = (a.drop i).take n := by
  apply List.ext_getElem?
  intro j
  simp only [List.getElem?_take, List.getElem?_drop]
  split
  · rename_i hj
    unfold spl
    rcases h with h | h
    · rw [List.append_assoc, List.getElem?_append_left (by simp; omega), List.getElem?_take, if_pos (by omega)]
    · rw [List.getElem?_append_right (by simp; omega)]
      simp only [List.length_append, List.length_take, Nat.min_eq_left (show o ≤ a.length by omega), List.getElem?_drop]
      congr 1; omega
  · rfl
theorem spl_in {α : Type} {a : List α} {o : Nat} {new : List α} (hl : o + new.length ≤ a.length) : ((spl a o new).drop o).take new.length = new := by
  unfold spl
  rw [List.append_assoc, List.drop_left' (by simp; omega), List.take_left' rfl]

theorem spl_self {α : Type} {l : List α} {o : Nat} {u : α} (h : l[o]? = some u) : spl l o [u] = l := by
  obtain ⟨hlt, rfl⟩ := List.getElem?_eq_some_iff.1 h
  unfold spl
  simp
theorem spl_get {α : Type} {l : List α} {o : Nat} {u : α} (h : o < l.length) : (spl l o [u])[o]? = some u := by
  unfold spl
  rw [List.append_assoc, List.getElem?_append_right (by simp; omega)]
  simp [Nat.min_eq_left (Nat.le_of_lt h)]

/-! ### Links -/
theorem fldQ_fld {τ : Ty} : ∀ {n : Nat} {a : Ty}, fldQ τ n = some a → ∀ x : τ.den, ∃ y o, Fld τ x n a y o := by
  induction τ with
  | pair a b _ ihb =>
    intro n c h x
    cases n with
    | zero => cases h; exact ⟨_, _, .here x⟩
    | succ n =>
      obtain ⟨y, o, hf⟩ := ihb (n := n) (a := c) h x.2
      exact ⟨y, _, .there x hf⟩
  | _ => intro n c h; simp [fldQ] at h

/-- A path of fields is one of any value. -/
theorem pathQ_pth : ∀ {p : List Step} {τ υ : Ty}, pathQ p τ υ = true → ∀ x : τ.den, ∃ y o, Pth p τ x υ y o
  | [], τ, υ, h, x => by
    have h := of_decide_eq_true h
    subst h
    exact ⟨x, 0, .nil x⟩
  | .fld n :: p, τ, υ, h, x => by
    unfold pathQ at h
    split at h
    · rename_i a ha
      obtain ⟨y, o, hf⟩ := fldQ_fld ha x
      obtain ⟨z, q, hp⟩ := pathQ_pth h y
      exact ⟨z, _, .fld hf hp⟩
    · cases h
  | .idx _ :: _, _, _, h, _ => by simp [pathQ] at h

theorem pathQ_inb : ∀ {p : List Step} {τ υ : Ty}, pathQ p τ υ = true → InbP p τ ∧ tyP p τ = υ
  | [], τ, υ, h => ⟨trivial, of_decide_eq_true h⟩
  | .fld n :: p, τ, υ, h => by
    have h0 := h
    unfold pathQ at h
    split at h
    · rename_i a ha
      obtain ⟨y, o, hf⟩ := fldQ_fld ha τ.zero
      obtain ⟨h1, h2⟩ := pathQ_inb h
      have := hf.eq.1
      subst this
      exact ⟨h1, h2⟩
    · cases h
  | .idx _ :: _, _, _, h => by simp [pathQ] at h

theorem peq_eq : ∀ {p q : List Step}, peq p q = true → p = q
  | [], [], _ => rfl
  | .fld a :: p, .fld b :: q, h => by
    simp only [peq, Bool.and_eq_true] at h
    rw [Nat.eq_of_beq_eq_true h.1, peq_eq h.2]
  | [], _ :: _, h | .fld _ :: _, [], h | .idx _ :: _, _, h | .fld _ :: _, .idx _ :: _, h => by simp [peq] at h

/-- Two fields lie apart. -/
theorem Fld.apart {τ : Ty} {x : τ.den} {n : Nat} {υ : Ty} {y : υ.den} {o : Nat} (h : Fld τ x n υ y o) : ∀ {x' : τ.den} {n' : Nat} {υ' : Ty} {y' : υ'.den} {o' : Nat}, Fld τ x' n' υ' y' o' → n ≠ n' → o + υ.size ≤ o' ∨ o' + υ'.size ≤ o := by
  induction h with
  | here x =>
    intro x' n' υ' y' o' h' hne
    cases h' with
    | here => exact absurd rfl hne
    | there _ h' => left; omega
  | there x h ih =>
    intro x' n' υ' y' o' h' hne
    cases h' with
    | here => right; omega
    | there _ h' => rcases ih h' (fun e => hne (by rw [e])) with h1 | h1 <;> omega

/-- A path that does not lead on to a link leads past it. -/
theorem Pth.apart {p : List Step} {τ : Ty} {x : τ.den} {υ : Ty} {y : υ.den} {o : Nat} (h : Pth p τ x υ y o) : InbP p τ → ∀ {q : List Step} {e : Ty}, pathQ q τ (.slice e) = true → ppre p q = false → offP q τ < o ∨ o + υ.size ≤ offP q τ := by
  induction h with
  | nil x => intro _ q e _ h; simp [ppre] at h
  | @fld p τ υ σ x n o y z q hf r ih =>
    intro hi q' e hq hp
    obtain ⟨h1, h2⟩ := hf.eq
    subst h1 h2
    cases q' with
    | nil =>
      have := of_decide_eq_true hq
      subst this
      cases hf
    | cons s q' =>
      cases s with
      | idx i => simp [pathQ] at hq
      | fld m =>
        unfold pathQ at hq
        split at hq
        · rename_i a ha
          obtain ⟨y', o', hf'⟩ := fldQ_fld ha x
          obtain ⟨h3, h4⟩ := hf'.eq
          subst h3 h4
          have hb := r.bound hi
          obtain ⟨h5, h6⟩ := pathQ_inb hq
          obtain ⟨z', o2, hp'⟩ := pathQ_pth hq y'
          have hb' := hp'.bound h5
          have ho2 := hp'.eq.2
          subst ho2
          simp only [offP]
          by_cases hnm : n = m
          · subst hnm
            have hpp : ppre p q' = false := by
              simp only [ppre, Bool.and_eq_false_iff] at hp
              rcases hp with hp | hp
              · rw [Nat.beq_refl] at hp; cases hp
              · exact hp
            rcases ih hi hq hpp with h7 | h7 <;> omega
          · rcases hf.apart hf' hnm with h7 | h7
            · right; omega
            · left
              have : 1 ≤ (Ty.slice e).size := Nat.le_refl _
              omega
        · cases hq
  | @idx p n e' σ x i z q r ih =>
    intro hi q' e hq hp
    cases q' with
    | nil => have := of_decide_eq_true hq; cases this
    | cons s q' =>
      cases s with
      | idx i => simp [pathQ] at hq
      | fld m => simp [pathQ, fldQ] at hq

/-! ### Entries -/
/-- The block that a header tells. -/
def blk : Value → Option Nat
  | .pointer (some a) => some a.block
  | .slice (some a) _ cap => if cap = 0 then none else some a.block
  | _ => none

def Ent.mut : Ent → Prop
  | .obj _ _ | .own _ _ | .lnk _ _ _ _ => True
  | _ => False

/-- An entry, as it lies in memory; 'v': the pointer or the slice that tells it. -/
def ER (w : World) (M : Nat → Prop) (v : Value) : Ent → Prop
  | .obj τ x => ∃ b cs t, v = .pointer (some ⟨b, 0, none⟩) ∧ w.heap[b]? = some (.cells cs t (0, 0)) ∧ M b ∧ Rd w M τ cs.toList x
  | .lnk τ x p _ => ∃ b cs t cs0 u, v = .pointer (some ⟨b, 0, none⟩) ∧ w.heap[b]? = some (.cells cs t (0, 0)) ∧ M b ∧ Rd w M τ cs0 x ∧ cs.toList = spl cs0 (offP p τ) [u] ∧ u.oneCell' = true ∧ ∃ e, pathQ p τ (.slice e) = true
  | .own e l => (l = [] ∧ ∃ a, v = .slice a 0 0) ∨
      ∃ b cs t cap, v = .slice (some ⟨b, 0, none⟩) l.length cap ∧ w.heap[b]? = some (.cells cs t (0, 0)) ∧ M b ∧ 0 < cap ∧ l.length ≤ cap ∧ cap ≤ maxLen ∧ cs.size = cap * e.size ∧
        ∀ i (h : i < l.length), Rd w M e ((cs.toList.drop (i * e.size)).take e.size) l[i]
  | .frz e l => Rd w M (.slice e) [v] l ∧ ((l = [] ∧ ∃ a n c, v = .slice a n c) ∨ ∃ b n c, v = .slice (some ⟨b, 0, none⟩) n c)
  | .gone => True

/-- An address into an entry. -/
def AR (v : Value) (p : List Step) (u : Value) : Ent → Prop
  | .obj τ _ | .lnk τ _ _ _ => InbP p τ ∧ ∃ b, v = .pointer (some ⟨b, 0, none⟩) ∧ u = .pointer (some ⟨b, offP p τ, none⟩)
  | .own e l | .frz e l => ∃ i q, p = .idx i :: q ∧ i < l.length ∧ InbP q e ∧ ∃ b n c, v = .slice (some ⟨b, 0, none⟩) n c ∧ u = .pointer (some ⟨b, i * e.size + offP q e, none⟩)
  | .gone => ∃ a, u = .pointer (some a)

mutual
/-- What a temporary holds. -/
def VR (w : World) (M : Nat → Prop) (H : Nat → Option Ent) (ν : Nat → Value) : AVal → Value → Prop
  | .any, _ => True
  | .und, v => v = undef
  | .val τ x, v => V w M τ v x
  | .nval τ x n, v => V w M τ v x ∧ ∃ cs a, v = .agg cs ∧ cs.toList[offF τ n]? = some (.slice a 0 0)
  | .emp, v => ∃ a, v = .slice a 0 0
  | .ref id, v => H id ≠ none ∧ v = ν id
  | .adr id p, v => ∃ e, H id = some e ∧ AR (ν id) p v e
  | .iadr τ x, v => ∃ b off, v = .pointer (some ⟨b, off, none⟩) ∧ b < w.heap.size ∧ ¬ M b ∧ ∃ cs, At w b off cs ∧ Rd w M τ cs x
  | .tup vs, v => ∃ us : List Value, v = .tuple us.toArray ∧ VRs w M H ν vs us
  | .clo f caps, v => ∃ cs : List Value, v = .func (.func f) #[] cs.toArray ∧ VRs w M H ν caps cs
def VRs (w : World) (M : Nat → Prop) (H : Nat → Option Ent) (ν : Nat → Value) : List AVal → List Value → Prop
  | [], [] => True
  | a :: as, v :: vs => VR w M H ν a v ∧ VRs w M H ν as vs
  | _, _ => False
end

/-- One entry as another one, as far as addresses see it. -/
def Ent.like : Ent → Ent → Prop
  | .obj τ _, .obj υ _ | .obj τ _, .lnk υ _ _ _ | .lnk τ _ _ _, .obj υ _ | .lnk τ _ _ _, .lnk υ _ _ _ => τ = υ
  | .own e l, .own f k | .own e l, .frz f k | .frz e l, .frz f k => e = f ∧ l.length = k.length
  | _, .gone => True
  | _, _ => False

/-- How entries may go on. -/
structure Goes (H : Nat → Option Ent) (ν : Nat → Value) (H' : Nat → Option Ent) (ν' : Nat → Value) : Prop where
  ent : ∀ i e, H i = some e → ∃ e', H' i = some e' ∧ e.like e'
  head : ∀ i, H i ≠ none → ν' i = ν i

theorem AR.ptr {v : Value} {p : List Step} {u : Value} {e : Ent} (h : AR v p u e) : ∃ a, u = .pointer (some a) := by
  cases e <;> simp only [AR] at h
  · obtain ⟨_, b, _, h⟩ := h; exact ⟨_, h⟩
  · obtain ⟨_, b, _, h⟩ := h; exact ⟨_, h⟩
  · obtain ⟨i, q, _, _, _, b, n, c, _, h⟩ := h; exact ⟨_, h⟩
  · obtain ⟨i, q, _, _, _, b, n, c, _, h⟩ := h; exact ⟨_, h⟩
  · exact h

theorem AR.like {v : Value} {p : List Step} {u : Value} {e e' : Ent} (h : AR v p u e) (l : e.like e') : AR v p u e' := by
  have hp := h.ptr
  cases e <;> cases e' <;> simp only [Ent.like] at l <;> simp only [AR] at h ⊢ <;> try exact hp
  · subst l; exact h
  · subst l; exact h
  · subst l; exact h
  · subst l; exact h
  · obtain ⟨rfl, hl⟩ := l; obtain ⟨i, q, hp, hi, r⟩ := h; exact ⟨i, q, hp, by omega, r⟩
  · obtain ⟨rfl, hl⟩ := l; obtain ⟨i, q, hp, hi, r⟩ := h; exact ⟨i, q, hp, by omega, r⟩
  · obtain ⟨rfl, hl⟩ := l; obtain ⟨i, q, hp, hi, r⟩ := h; exact ⟨i, q, hp, by omega, r⟩

theorem Ent.like.refl (e : Ent) : e.like e := by cases e <;> simp [Ent.like]

theorem Goes.refl (H : Nat → Option Ent) (ν : Nat → Value) : Goes H ν H ν := ⟨fun _ e h => ⟨e, h, .refl e⟩, fun _ _ => rfl⟩

mutual
theorem VR.keep {w w' : World} {M M' : Nat → Prop} {H H' : Nat → Option Ent} {ν ν' : Nat → Value} (k : Keeps w M w' M') (g : Goes H ν H' ν') :
    ∀ {a : AVal} {v : Value}, VR w M H ν a v → VR w' M' H' ν' a v
  | .any, _, _ => by simp [VR]
  | .und, _, h => by simpa [VR] using h
  | .val τ x, v, h => by simp only [VR] at h ⊢; exact h.keep k
  | .nval τ x n, v, h => by simp only [VR] at h ⊢; exact ⟨h.1.keep k, h.2⟩
  | .emp, _, h => by simpa [VR] using h
  | .ref id, _, h => by
    simp only [VR] at h ⊢
    obtain ⟨h1, h2⟩ := h
    obtain ⟨e, he⟩ := Option.ne_none_iff_exists'.1 h1
    obtain ⟨e', he', _⟩ := g.ent id e he
    exact ⟨by simp [he'], by rw [g.head id h1]; exact h2⟩
  | .adr id p, _, h => by
    simp only [VR] at h ⊢
    obtain ⟨e, he, ha⟩ := h
    obtain ⟨e', he', hl⟩ := g.ent id e he
    exact ⟨e', he', by rw [g.head id (by simp [he])]; exact ha.like hl⟩
  | .iadr τ x, _, h => by
    simp only [VR] at h ⊢
    obtain ⟨b, off, rfl, hb, hm, cs, ha, hr⟩ := h
    exact ⟨b, off, rfl, Nat.lt_of_lt_of_le hb k.size, fun h' => hm (k.less b hb h'), cs, ha.keep (k.block b hb hm), hr.keep k⟩
  | .tup vs, _, h => by
    simp only [VR] at h ⊢
    obtain ⟨us, rfl, h⟩ := h
    exact ⟨us, rfl, VRs.keep k g h⟩
  | .clo f caps, _, h => by
    simp only [VR] at h ⊢
    obtain ⟨us, rfl, h⟩ := h
    exact ⟨us, rfl, VRs.keep k g h⟩
theorem VRs.keep {w w' : World} {M M' : Nat → Prop} {H H' : Nat → Option Ent} {ν ν' : Nat → Value} (k : Keeps w M w' M') (g : Goes H ν H' ν') :
    ∀ {as : List AVal} {vs : List Value}, VRs w M H ν as vs → VRs w' M' H' ν' as vs
  | [], [], _ => by simp [VRs]
  | a :: as, v :: vs, h => by simp only [VRs] at h ⊢; exact ⟨VR.keep k g h.1, VRs.keep k g h.2⟩
  | [], _ :: _, h => by simp [VRs] at h
  | _ :: _, [], h => by simp [VRs] at h
end

end VM
end

