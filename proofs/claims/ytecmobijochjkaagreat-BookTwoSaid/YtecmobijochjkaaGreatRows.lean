/-
  No cell of these rows narrows 'for every input' (looked for: loops, veiled, ifaces, maps, wideKeys, modest, calm, conditions, laid).
  DERIVED. THE GIVEN ROWS OF THIS SEAT. 12 by the template 'for every input the law returns true; each argument reads behind the call as it read before'; 0 by the template 'total and deterministic' (their statements: YtecmobijochjkaaGreatTotals.lean).
  GIVEN WITH THE SEED: the statements are not yours to turn. If you find one false, say at which input.
  Laid BY PROGRAM, IN A SANDBOX (cutbox-rows.mjs): the forced cells as the released guide's own fill.sh prints them over the translation c087eb028cf571e4… (all of the seat's roots in one cut). By AI agents, Wed Nov 11 2026. No macro, syntax, notation, axiom, sorry.
-/
import Derived.Test.YtecmobijochjkaaGreatChecked
import GoSem.Claim
import GoSem.ClaimJoined
import GoSem.ClaimMapViews
import Derived.JoinedTies
import Derived.KernelRfl
namespace Go.Proofs.YtecmobijochjkaaGreat
/- THE CELL 'sum', in the pinned program and in every row, IS THE sha256 OF THE DUMP (.gsa) THAT YtecmobijochjkaaGreatProg.lean LOADS. Nothing in Lean hashes anything: it is a label: what it is worth is what the hold of that sum in a sandbox is worth. -/
noncomputable def Tryz.pinned : Pinned := { name := "ytecmobijochjkaagreat", sum := "c087eb028cf571e44c83fbeb3f1283c51ed53d69b774e5dfec8e794bc336632d", checked := Tryz.checked }
namespace Rows
def none {H : Type} : Left H := { results := [], args := [] }

/-- 'novationlaw21.WindDrawn': WHATEVER THE INPUT: true; the input reads as it did. -/
def windDrawnSpec : ChangeSpec := { name := "windDrawn", fn := fun _ => fun
  | [d] => { results := [.lit (.bool true)], args := [d] }
  | _ => none }
def windDrawnRow : OpenClaim := { program := "ytecmobijochjkaagreat", sum := "c087eb028cf571e44c83fbeb3f1283c51ed53d69b774e5dfec8e794bc336632d", func := "novation/novationlaw21.WindDrawn", spec := "windDrawn", inPlace := ["math/bits.Add64", "math/bits.Sub64", "slices.overlaps[novation/api.Pos]", "slices.overlaps[novation/api.Row]"], unfollowed := true, recurses := true, apart := false }
def WindDrawnSaid : Prop := windDrawnRow.holds Tryz.pinned (OpenSpec.ofChange windDrawnSpec)

/-- ITS FALSE NEIGHBOUR: 'it returns false'. Refute it at one input. -/
def windDrawnWrong : ChangeSpec := { name := "windDrawn", fn := fun _ => fun
  | [d] => { results := [.lit (.bool false)], args := [d] }
  | _ => none }
def WindDrawnWrongFalsely : Prop := windDrawnRow.holds Tryz.pinned (OpenSpec.ofChange windDrawnWrong)

/-- 'novationlaw21.WindEmpty': WHATEVER THE INPUT: true; the input reads as it did. -/
def windEmptySpec : ChangeSpec := { name := "windEmpty", fn := fun _ => fun
  | [d1, d2] => { results := [.lit (.bool true)], args := [d1, d2] }
  | _ => none }
def windEmptyRow : OpenClaim := { program := "ytecmobijochjkaagreat", sum := "c087eb028cf571e44c83fbeb3f1283c51ed53d69b774e5dfec8e794bc336632d", func := "novation/novationlaw21.WindEmpty", spec := "windEmpty", inPlace := ["math/bits.Add64", "math/bits.Sub64", "slices.overlaps[novation/api.Pos]", "slices.overlaps[novation/api.Row]"], unfollowed := true, recurses := true, apart := false }
def WindEmptySaid : Prop := windEmptyRow.holds Tryz.pinned (OpenSpec.ofChange windEmptySpec)

/-- ITS FALSE NEIGHBOUR: 'it returns false'. Refute it at one input. -/
def windEmptyWrong : ChangeSpec := { name := "windEmpty", fn := fun _ => fun
  | [d1, d2] => { results := [.lit (.bool false)], args := [d1, d2] }
  | _ => none }
def WindEmptyWrongFalsely : Prop := windEmptyRow.holds Tryz.pinned (OpenSpec.ofChange windEmptyWrong)

/-- 'novationlaw21.WindBears': WHATEVER THE INPUT: true; the input reads as it did. -/
def windBearsSpec : ChangeSpec := { name := "windBears", fn := fun _ => fun
  | [d1, d2] => { results := [.lit (.bool true)], args := [d1, d2] }
  | _ => none }
def windBearsRow : OpenClaim := { program := "ytecmobijochjkaagreat", sum := "c087eb028cf571e44c83fbeb3f1283c51ed53d69b774e5dfec8e794bc336632d", func := "novation/novationlaw21.WindBears", spec := "windBears", inPlace := ["math/bits.Add64", "math/bits.Sub64", "slices.overlaps[novation/api.Pos]", "slices.overlaps[novation/api.Row]"], unfollowed := true, recurses := true, apart := false }
def WindBearsSaid : Prop := windBearsRow.holds Tryz.pinned (OpenSpec.ofChange windBearsSpec)

/-- ITS FALSE NEIGHBOUR: 'it returns false'. Refute it at one input. -/
def windBearsWrong : ChangeSpec := { name := "windBears", fn := fun _ => fun
  | [d1, d2] => { results := [.lit (.bool false)], args := [d1, d2] }
  | _ => none }
def WindBearsWrongFalsely : Prop := windBearsRow.holds Tryz.pinned (OpenSpec.ofChange windBearsWrong)

/-- 'novationlaw21.WindTwice': WHATEVER THE INPUT: true; the input reads as it did. -/
def windTwiceSpec : ChangeSpec := { name := "windTwice", fn := fun _ => fun
  | [d1, d2] => { results := [.lit (.bool true)], args := [d1, d2] }
  | _ => none }
def windTwiceRow : OpenClaim := { program := "ytecmobijochjkaagreat", sum := "c087eb028cf571e44c83fbeb3f1283c51ed53d69b774e5dfec8e794bc336632d", func := "novation/novationlaw21.WindTwice", spec := "windTwice", inPlace := ["math/bits.Add64", "math/bits.Sub64", "slices.overlaps[novation/api.Pos]", "slices.overlaps[novation/api.Row]"], unfollowed := true, recurses := true, apart := false }
def WindTwiceSaid : Prop := windTwiceRow.holds Tryz.pinned (OpenSpec.ofChange windTwiceSpec)

/-- ITS FALSE NEIGHBOUR: 'it returns false'. Refute it at one input. -/
def windTwiceWrong : ChangeSpec := { name := "windTwice", fn := fun _ => fun
  | [d1, d2] => { results := [.lit (.bool false)], args := [d1, d2] }
  | _ => none }
def WindTwiceWrongFalsely : Prop := windTwiceRow.holds Tryz.pinned (OpenSpec.ofChange windTwiceWrong)

/-- 'novationlaw18.BookAtOnce': WHATEVER THE INPUT: true; the input reads as it did. -/
def bookAtOnceSpec : ChangeSpec := { name := "bookAtOnce", fn := fun _ => fun
  | [d] => { results := [.lit (.bool true)], args := [d] }
  | _ => none }
def bookAtOnceRow : OpenClaim := { program := "ytecmobijochjkaagreat", sum := "c087eb028cf571e44c83fbeb3f1283c51ed53d69b774e5dfec8e794bc336632d", func := "novation/novationlaw18.BookAtOnce", spec := "bookAtOnce", inPlace := ["math/bits.Add64", "math/bits.Sub64", "slices.overlaps[novation/api.Pos]", "slices.overlaps[novation/api.Row]"], unfollowed := true, recurses := true, apart := false }
def BookAtOnceSaid : Prop := bookAtOnceRow.holds Tryz.pinned (OpenSpec.ofChange bookAtOnceSpec)

/-- ITS FALSE NEIGHBOUR: 'it returns false'. Refute it at one input. -/
def bookAtOnceWrong : ChangeSpec := { name := "bookAtOnce", fn := fun _ => fun
  | [d] => { results := [.lit (.bool false)], args := [d] }
  | _ => none }
def BookAtOnceWrongFalsely : Prop := bookAtOnceRow.holds Tryz.pinned (OpenSpec.ofChange bookAtOnceWrong)

/-- 'novationlaw18.BookDrawn': WHATEVER THE INPUT: true; the input reads as it did. -/
def bookDrawnSpec : ChangeSpec := { name := "bookDrawn", fn := fun _ => fun
  | [d1, d2] => { results := [.lit (.bool true)], args := [d1, d2] }
  | _ => none }
def bookDrawnRow : OpenClaim := { program := "ytecmobijochjkaagreat", sum := "c087eb028cf571e44c83fbeb3f1283c51ed53d69b774e5dfec8e794bc336632d", func := "novation/novationlaw18.BookDrawn", spec := "bookDrawn", inPlace := ["math/bits.Add64", "math/bits.Sub64", "slices.overlaps[novation/api.Pos]", "slices.overlaps[novation/api.Row]"], unfollowed := true, recurses := true, apart := false }
def BookDrawnSaid : Prop := bookDrawnRow.holds Tryz.pinned (OpenSpec.ofChange bookDrawnSpec)

/-- ITS FALSE NEIGHBOUR: 'it returns false'. Refute it at one input. -/
def bookDrawnWrong : ChangeSpec := { name := "bookDrawn", fn := fun _ => fun
  | [d1, d2] => { results := [.lit (.bool false)], args := [d1, d2] }
  | _ => none }
def BookDrawnWrongFalsely : Prop := bookDrawnRow.holds Tryz.pinned (OpenSpec.ofChange bookDrawnWrong)

/-- 'novationlaw18.BookTurned': WHATEVER THE INPUT: true; the input reads as it did. -/
def bookTurnedSpec : ChangeSpec := { name := "bookTurned", fn := fun _ => fun
  | [d1, d2, d3] => { results := [.lit (.bool true)], args := [d1, d2, d3] }
  | _ => none }
def bookTurnedRow : OpenClaim := { program := "ytecmobijochjkaagreat", sum := "c087eb028cf571e44c83fbeb3f1283c51ed53d69b774e5dfec8e794bc336632d", func := "novation/novationlaw18.BookTurned", spec := "bookTurned", inPlace := ["math/bits.Add64", "math/bits.Sub64", "slices.overlaps[novation/api.Pos]", "slices.overlaps[novation/api.Row]"], unfollowed := true, recurses := true, apart := false }
def BookTurnedSaid : Prop := bookTurnedRow.holds Tryz.pinned (OpenSpec.ofChange bookTurnedSpec)

/-- ITS FALSE NEIGHBOUR: 'it returns false'. Refute it at one input. -/
def bookTurnedWrong : ChangeSpec := { name := "bookTurned", fn := fun _ => fun
  | [d1, d2, d3] => { results := [.lit (.bool false)], args := [d1, d2, d3] }
  | _ => none }
def BookTurnedWrongFalsely : Prop := bookTurnedRow.holds Tryz.pinned (OpenSpec.ofChange bookTurnedWrong)

/-- 'novationlaw18.BookTwo': WHATEVER THE INPUT: true; the input reads as it did. -/
def bookTwoSpec : ChangeSpec := { name := "bookTwo", fn := fun _ => fun
  | [d1, d2] => { results := [.lit (.bool true)], args := [d1, d2] }
  | _ => none }
def bookTwoRow : OpenClaim := { program := "ytecmobijochjkaagreat", sum := "c087eb028cf571e44c83fbeb3f1283c51ed53d69b774e5dfec8e794bc336632d", func := "novation/novationlaw18.BookTwo", spec := "bookTwo", inPlace := ["math/bits.Add64", "math/bits.Sub64", "slices.overlaps[novation/api.Pos]", "slices.overlaps[novation/api.Row]"], unfollowed := true, recurses := true, apart := false }
def BookTwoSaid : Prop := bookTwoRow.holds Tryz.pinned (OpenSpec.ofChange bookTwoSpec)

/-- ITS FALSE NEIGHBOUR: 'it returns false'. Refute it at one input. -/
def bookTwoWrong : ChangeSpec := { name := "bookTwo", fn := fun _ => fun
  | [d1, d2] => { results := [.lit (.bool false)], args := [d1, d2] }
  | _ => none }
def BookTwoWrongFalsely : Prop := bookTwoRow.holds Tryz.pinned (OpenSpec.ofChange bookTwoWrong)

/-- 'novationlaw19.GateSusp': WHATEVER THE INPUT: true; the input reads as it did. -/
def gateSuspSpec : ChangeSpec := { name := "gateSusp", fn := fun _ => fun
  | [d] => { results := [.lit (.bool true)], args := [d] }
  | _ => none }
def gateSuspRow : OpenClaim := { program := "ytecmobijochjkaagreat", sum := "c087eb028cf571e44c83fbeb3f1283c51ed53d69b774e5dfec8e794bc336632d", func := "novation/novationlaw19.GateSusp", spec := "gateSusp", inPlace := ["math/bits.Add64", "slices.overlaps[novation/api.Open]", "math/bits.Sub64", "slices.overlaps[novation/api.Order]", "slices.overlaps[novation/api.Pos]", "slices.overlaps[novation/api.Row]"], unfollowed := true, recurses := true, apart := false }
def GateSuspSaid : Prop := gateSuspRow.holds Tryz.pinned (OpenSpec.ofChange gateSuspSpec)

/-- ITS FALSE NEIGHBOUR: 'it returns false'. Refute it at one input. -/
def gateSuspWrong : ChangeSpec := { name := "gateSusp", fn := fun _ => fun
  | [d] => { results := [.lit (.bool false)], args := [d] }
  | _ => none }
def GateSuspWrongFalsely : Prop := gateSuspRow.holds Tryz.pinned (OpenSpec.ofChange gateSuspWrong)

/-- 'novationlaw19.GateWithin': WHATEVER THE INPUT: true; the input reads as it did. -/
def gateWithinSpec : ChangeSpec := { name := "gateWithin", fn := fun _ => fun
  | [d] => { results := [.lit (.bool true)], args := [d] }
  | _ => none }
def gateWithinRow : OpenClaim := { program := "ytecmobijochjkaagreat", sum := "c087eb028cf571e44c83fbeb3f1283c51ed53d69b774e5dfec8e794bc336632d", func := "novation/novationlaw19.GateWithin", spec := "gateWithin", inPlace := ["math/bits.Add64", "slices.overlaps[novation/api.Open]", "math/bits.Sub64", "slices.overlaps[novation/api.Order]", "slices.overlaps[novation/api.Pos]", "slices.overlaps[novation/api.Row]"], unfollowed := true, recurses := true, apart := false }
def GateWithinSaid : Prop := gateWithinRow.holds Tryz.pinned (OpenSpec.ofChange gateWithinSpec)

/-- ITS FALSE NEIGHBOUR: 'it returns false'. Refute it at one input. -/
def gateWithinWrong : ChangeSpec := { name := "gateWithin", fn := fun _ => fun
  | [d] => { results := [.lit (.bool false)], args := [d] }
  | _ => none }
def GateWithinWrongFalsely : Prop := gateWithinRow.holds Tryz.pinned (OpenSpec.ofChange gateWithinWrong)

/-- 'novationlaw19.GateDrawn': WHATEVER THE INPUT: true; the input reads as it did. -/
def gateDrawnSpec : ChangeSpec := { name := "gateDrawn", fn := fun _ => fun
  | [d] => { results := [.lit (.bool true)], args := [d] }
  | _ => none }
def gateDrawnRow : OpenClaim := { program := "ytecmobijochjkaagreat", sum := "c087eb028cf571e44c83fbeb3f1283c51ed53d69b774e5dfec8e794bc336632d", func := "novation/novationlaw19.GateDrawn", spec := "gateDrawn", inPlace := ["math/bits.Add64", "slices.overlaps[novation/api.Open]", "math/bits.Sub64", "slices.overlaps[novation/api.Order]", "slices.overlaps[novation/api.Pos]", "slices.overlaps[novation/api.Row]"], unfollowed := true, recurses := true, apart := false }
def GateDrawnSaid : Prop := gateDrawnRow.holds Tryz.pinned (OpenSpec.ofChange gateDrawnSpec)

/-- ITS FALSE NEIGHBOUR: 'it returns false'. Refute it at one input. -/
def gateDrawnWrong : ChangeSpec := { name := "gateDrawn", fn := fun _ => fun
  | [d] => { results := [.lit (.bool false)], args := [d] }
  | _ => none }
def GateDrawnWrongFalsely : Prop := gateDrawnRow.holds Tryz.pinned (OpenSpec.ofChange gateDrawnWrong)

/-- 'novationlaw19.GateTrades': WHATEVER THE INPUT: true; the input reads as it did. -/
def gateTradesSpec : ChangeSpec := { name := "gateTrades", fn := fun _ => fun
  | [d] => { results := [.lit (.bool true)], args := [d] }
  | _ => none }
def gateTradesRow : OpenClaim := { program := "ytecmobijochjkaagreat", sum := "c087eb028cf571e44c83fbeb3f1283c51ed53d69b774e5dfec8e794bc336632d", func := "novation/novationlaw19.GateTrades", spec := "gateTrades", inPlace := ["math/bits.Add64", "slices.overlaps[novation/api.Open]", "math/bits.Sub64", "slices.overlaps[novation/api.Order]", "slices.overlaps[novation/api.Pos]", "slices.overlaps[novation/api.Row]"], unfollowed := true, recurses := true, apart := false }
def GateTradesSaid : Prop := gateTradesRow.holds Tryz.pinned (OpenSpec.ofChange gateTradesSpec)

/-- ITS FALSE NEIGHBOUR: 'it returns false'. Refute it at one input. -/
def gateTradesWrong : ChangeSpec := { name := "gateTrades", fn := fun _ => fun
  | [d] => { results := [.lit (.bool false)], args := [d] }
  | _ => none }
def GateTradesWrongFalsely : Prop := gateTradesRow.holds Tryz.pinned (OpenSpec.ofChange gateTradesWrong)

/- THE SECOND FORM. 'bulk': how many values and letters a reading holds, each counted each time it is reached (what is shared counts as often as it is met; a slice's spare places count too). A statement '..UptoSaid' is the law's where the arguments, and the package variables that the reading takes, are together of bulk at most 1048576: NARROWER than '..Said'. Prove '..Said' where nothing that the law and all that it calls make is longer than what came in: it says more and counts as full. Else prove '..UptoSaid'. A law counts once. -/
mutual
def uptoBulk {H : Type} : DataW H → Nat
  | .lit (.string bytes) => bytes.length + 1
  | .lit _ => 1
  | .nil => 1
  | .ptr d => uptoBulk d + 1
  | .slice elems spare => uptoBulkAll elems + uptoBulkAll spare + 1
  | .agg parts => uptoBulkAll parts + 1
  | .iface _ d => uptoBulk d + 1
  | .map entries => uptoBulkEntries entries + 1
  | .held _ => 1
def uptoBulkAll {H : Type} : List (DataW H) → Nat
  | [] => 0
  | d :: r => uptoBulk d + uptoBulkAll r
def uptoBulkEntries {H : Type} : List (Lit × DataW H) → Nat
  | [] => 0
  | x :: r => uptoBulkEntry x + uptoBulkEntries r
def uptoBulkEntry {H : Type} : Lit × DataW H → Nat
  | (.string bytes, d) => bytes.length + uptoBulk d + 1
  | (_, d) => uptoBulk d + 1
 end
def uptoSmall : (H : Type) → List (DataW H) → Bool := fun _ ds => decide (uptoBulkAll ds ≤ 1048576)
def OpenSpec.upto (s : _root_.Go.ChangeSpec) : _root_.Go.OpenSpec := { _root_.Go.OpenSpec.ofChange s with cond := some uptoSmall }

/-- 'novationlaw21.WindDrawn', WHERE WHAT IT READS IS OF BULK AT MOST 1048576: true; the input reads as it did. -/
def windDrawnUptoRow : OpenClaim := { program := "ytecmobijochjkaagreat", sum := "c087eb028cf571e44c83fbeb3f1283c51ed53d69b774e5dfec8e794bc336632d", func := "novation/novationlaw21.WindDrawn", spec := "windDrawn", inPlace := ["math/bits.Add64", "math/bits.Sub64", "slices.overlaps[novation/api.Pos]", "slices.overlaps[novation/api.Row]"], unfollowed := true, recurses := true, apart := false, narrowed := true }
def WindDrawnUptoSaid : Prop := windDrawnUptoRow.holds Tryz.pinned (OpenSpec.upto windDrawnSpec)

/-- 'novationlaw21.WindEmpty', WHERE WHAT IT READS IS OF BULK AT MOST 1048576: true; the input reads as it did. -/
def windEmptyUptoRow : OpenClaim := { program := "ytecmobijochjkaagreat", sum := "c087eb028cf571e44c83fbeb3f1283c51ed53d69b774e5dfec8e794bc336632d", func := "novation/novationlaw21.WindEmpty", spec := "windEmpty", inPlace := ["math/bits.Add64", "math/bits.Sub64", "slices.overlaps[novation/api.Pos]", "slices.overlaps[novation/api.Row]"], unfollowed := true, recurses := true, apart := false, narrowed := true }
def WindEmptyUptoSaid : Prop := windEmptyUptoRow.holds Tryz.pinned (OpenSpec.upto windEmptySpec)

/-- 'novationlaw21.WindBears', WHERE WHAT IT READS IS OF BULK AT MOST 1048576: true; the input reads as it did. -/
def windBearsUptoRow : OpenClaim := { program := "ytecmobijochjkaagreat", sum := "c087eb028cf571e44c83fbeb3f1283c51ed53d69b774e5dfec8e794bc336632d", func := "novation/novationlaw21.WindBears", spec := "windBears", inPlace := ["math/bits.Add64", "math/bits.Sub64", "slices.overlaps[novation/api.Pos]", "slices.overlaps[novation/api.Row]"], unfollowed := true, recurses := true, apart := false, narrowed := true }
def WindBearsUptoSaid : Prop := windBearsUptoRow.holds Tryz.pinned (OpenSpec.upto windBearsSpec)

/-- 'novationlaw21.WindTwice', WHERE WHAT IT READS IS OF BULK AT MOST 1048576: true; the input reads as it did. -/
def windTwiceUptoRow : OpenClaim := { program := "ytecmobijochjkaagreat", sum := "c087eb028cf571e44c83fbeb3f1283c51ed53d69b774e5dfec8e794bc336632d", func := "novation/novationlaw21.WindTwice", spec := "windTwice", inPlace := ["math/bits.Add64", "math/bits.Sub64", "slices.overlaps[novation/api.Pos]", "slices.overlaps[novation/api.Row]"], unfollowed := true, recurses := true, apart := false, narrowed := true }
def WindTwiceUptoSaid : Prop := windTwiceUptoRow.holds Tryz.pinned (OpenSpec.upto windTwiceSpec)

/-- 'novationlaw18.BookAtOnce', WHERE WHAT IT READS IS OF BULK AT MOST 1048576: true; the input reads as it did. -/
def bookAtOnceUptoRow : OpenClaim := { program := "ytecmobijochjkaagreat", sum := "c087eb028cf571e44c83fbeb3f1283c51ed53d69b774e5dfec8e794bc336632d", func := "novation/novationlaw18.BookAtOnce", spec := "bookAtOnce", inPlace := ["math/bits.Add64", "math/bits.Sub64", "slices.overlaps[novation/api.Pos]", "slices.overlaps[novation/api.Row]"], unfollowed := true, recurses := true, apart := false, narrowed := true }
def BookAtOnceUptoSaid : Prop := bookAtOnceUptoRow.holds Tryz.pinned (OpenSpec.upto bookAtOnceSpec)

/-- 'novationlaw18.BookDrawn', WHERE WHAT IT READS IS OF BULK AT MOST 1048576: true; the input reads as it did. -/
def bookDrawnUptoRow : OpenClaim := { program := "ytecmobijochjkaagreat", sum := "c087eb028cf571e44c83fbeb3f1283c51ed53d69b774e5dfec8e794bc336632d", func := "novation/novationlaw18.BookDrawn", spec := "bookDrawn", inPlace := ["math/bits.Add64", "math/bits.Sub64", "slices.overlaps[novation/api.Pos]", "slices.overlaps[novation/api.Row]"], unfollowed := true, recurses := true, apart := false, narrowed := true }
def BookDrawnUptoSaid : Prop := bookDrawnUptoRow.holds Tryz.pinned (OpenSpec.upto bookDrawnSpec)

/-- 'novationlaw18.BookTurned', WHERE WHAT IT READS IS OF BULK AT MOST 1048576: true; the input reads as it did. -/
def bookTurnedUptoRow : OpenClaim := { program := "ytecmobijochjkaagreat", sum := "c087eb028cf571e44c83fbeb3f1283c51ed53d69b774e5dfec8e794bc336632d", func := "novation/novationlaw18.BookTurned", spec := "bookTurned", inPlace := ["math/bits.Add64", "math/bits.Sub64", "slices.overlaps[novation/api.Pos]", "slices.overlaps[novation/api.Row]"], unfollowed := true, recurses := true, apart := false, narrowed := true }
def BookTurnedUptoSaid : Prop := bookTurnedUptoRow.holds Tryz.pinned (OpenSpec.upto bookTurnedSpec)

/-- 'novationlaw18.BookTwo', WHERE WHAT IT READS IS OF BULK AT MOST 1048576: true; the input reads as it did. -/
def bookTwoUptoRow : OpenClaim := { program := "ytecmobijochjkaagreat", sum := "c087eb028cf571e44c83fbeb3f1283c51ed53d69b774e5dfec8e794bc336632d", func := "novation/novationlaw18.BookTwo", spec := "bookTwo", inPlace := ["math/bits.Add64", "math/bits.Sub64", "slices.overlaps[novation/api.Pos]", "slices.overlaps[novation/api.Row]"], unfollowed := true, recurses := true, apart := false, narrowed := true }
def BookTwoUptoSaid : Prop := bookTwoUptoRow.holds Tryz.pinned (OpenSpec.upto bookTwoSpec)

/-- 'novationlaw19.GateSusp', WHERE WHAT IT READS IS OF BULK AT MOST 1048576: true; the input reads as it did. -/
def gateSuspUptoRow : OpenClaim := { program := "ytecmobijochjkaagreat", sum := "c087eb028cf571e44c83fbeb3f1283c51ed53d69b774e5dfec8e794bc336632d", func := "novation/novationlaw19.GateSusp", spec := "gateSusp", inPlace := ["math/bits.Add64", "slices.overlaps[novation/api.Open]", "math/bits.Sub64", "slices.overlaps[novation/api.Order]", "slices.overlaps[novation/api.Pos]", "slices.overlaps[novation/api.Row]"], unfollowed := true, recurses := true, apart := false, narrowed := true }
def GateSuspUptoSaid : Prop := gateSuspUptoRow.holds Tryz.pinned (OpenSpec.upto gateSuspSpec)

/-- 'novationlaw19.GateWithin', WHERE WHAT IT READS IS OF BULK AT MOST 1048576: true; the input reads as it did. -/
def gateWithinUptoRow : OpenClaim := { program := "ytecmobijochjkaagreat", sum := "c087eb028cf571e44c83fbeb3f1283c51ed53d69b774e5dfec8e794bc336632d", func := "novation/novationlaw19.GateWithin", spec := "gateWithin", inPlace := ["math/bits.Add64", "slices.overlaps[novation/api.Open]", "math/bits.Sub64", "slices.overlaps[novation/api.Order]", "slices.overlaps[novation/api.Pos]", "slices.overlaps[novation/api.Row]"], unfollowed := true, recurses := true, apart := false, narrowed := true }
def GateWithinUptoSaid : Prop := gateWithinUptoRow.holds Tryz.pinned (OpenSpec.upto gateWithinSpec)

/-- 'novationlaw19.GateDrawn', WHERE WHAT IT READS IS OF BULK AT MOST 1048576: true; the input reads as it did. -/
def gateDrawnUptoRow : OpenClaim := { program := "ytecmobijochjkaagreat", sum := "c087eb028cf571e44c83fbeb3f1283c51ed53d69b774e5dfec8e794bc336632d", func := "novation/novationlaw19.GateDrawn", spec := "gateDrawn", inPlace := ["math/bits.Add64", "slices.overlaps[novation/api.Open]", "math/bits.Sub64", "slices.overlaps[novation/api.Order]", "slices.overlaps[novation/api.Pos]", "slices.overlaps[novation/api.Row]"], unfollowed := true, recurses := true, apart := false, narrowed := true }
def GateDrawnUptoSaid : Prop := gateDrawnUptoRow.holds Tryz.pinned (OpenSpec.upto gateDrawnSpec)

/-- 'novationlaw19.GateTrades', WHERE WHAT IT READS IS OF BULK AT MOST 1048576: true; the input reads as it did. -/
def gateTradesUptoRow : OpenClaim := { program := "ytecmobijochjkaagreat", sum := "c087eb028cf571e44c83fbeb3f1283c51ed53d69b774e5dfec8e794bc336632d", func := "novation/novationlaw19.GateTrades", spec := "gateTrades", inPlace := ["math/bits.Add64", "slices.overlaps[novation/api.Open]", "math/bits.Sub64", "slices.overlaps[novation/api.Order]", "slices.overlaps[novation/api.Pos]", "slices.overlaps[novation/api.Row]"], unfollowed := true, recurses := true, apart := false, narrowed := true }
def GateTradesUptoSaid : Prop := gateTradesUptoRow.holds Tryz.pinned (OpenSpec.upto gateTradesSpec)

end Rows
end Go.Proofs.YtecmobijochjkaaGreat
