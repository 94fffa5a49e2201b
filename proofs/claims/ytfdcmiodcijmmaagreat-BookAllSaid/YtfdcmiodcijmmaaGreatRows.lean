/-
  No cell of these rows narrows 'for every input' (looked for: loops, veiled, ifaces, maps, wideKeys, modest, calm, conditions, laid).
  DERIVED. THE GIVEN ROWS OF THIS SEAT. 11 by the template 'for every input the law returns true; each argument reads behind the call as it read before'; 0 by the template 'total and deterministic' (their statements: YtfdcmiodcijmmaaGreatTotals.lean).
  GIVEN WITH THE SEED: the statements are not yours to turn. If you find one false, say at which input.
  Laid BY PROGRAM, IN A SANDBOX (cutbox-rows.mjs): the forced cells as the released guide's own fill.sh prints them over the translation 2c5711e28cbce425… (all of the seat's roots in one cut). By AI agents, Wed Nov 11 2026. No macro, syntax, notation, axiom, sorry.
-/
import Derived.Test.YtfdcmiodcijmmaaGreatChecked
import GoSem.Claim
import GoSem.ClaimJoined
import GoSem.ClaimMapViews
import Derived.JoinedTies
import Derived.KernelRfl
namespace Go.Proofs.YtfdcmiodcijmmaaGreat
/- THE CELL 'sum', in the pinned program and in every row, IS THE sha256 OF THE DUMP (.gsa) THAT YtfdcmiodcijmmaaGreatProg.lean LOADS. Nothing in Lean hashes anything: it is a label: what it is worth is what the hold of that sum in a sandbox is worth. -/
noncomputable def Tryz.pinned : Pinned := { name := "ytfdcmiodcijmmaagreat", sum := "2c5711e28cbce4259c15b16bfeeef5647994d4d871b8ca346f8cb2c87fb5c968", checked := Tryz.checked }
namespace Rows
def none {H : Type} : Left H := { results := [], args := [] }

/-- 'novationlaw23.LotAll': WHATEVER THE INPUT: true; the input reads as it did. -/
def lotAllSpec : ChangeSpec := { name := "lotAll", fn := fun _ => fun
  | [d1, d2, d3, d4, d5] => { results := [.lit (.bool true)], args := [d1, d2, d3, d4, d5] }
  | _ => none }
def lotAllRow : OpenClaim := { program := "ytfdcmiodcijmmaagreat", sum := "2c5711e28cbce4259c15b16bfeeef5647994d4d871b8ca346f8cb2c87fb5c968", func := "novation/novationlaw23.LotAll", spec := "lotAll", inPlace := ["math/bits.Add64", "math/bits.Sub64", "slices.overlaps[int]"], unfollowed := true, recurses := true, named := ["math/bits.divideError", "math/bits.overflowError"], apart := false }
def LotAllSaid : Prop := lotAllRow.holds Tryz.pinned (OpenSpec.ofChange lotAllSpec)

/-- ITS FALSE NEIGHBOUR: 'it returns false'. Refute it at one input. -/
def lotAllWrong : ChangeSpec := { name := "lotAll", fn := fun _ => fun
  | [d1, d2, d3, d4, d5] => { results := [.lit (.bool false)], args := [d1, d2, d3, d4, d5] }
  | _ => none }
def LotAllWrongFalsely : Prop := lotAllRow.holds Tryz.pinned (OpenSpec.ofChange lotAllWrong)

/-- 'novationlaw23.LotDrawn': WHATEVER THE INPUT: true; the input reads as it did. -/
def lotDrawnSpec : ChangeSpec := { name := "lotDrawn", fn := fun _ => fun
  | [d1, d2, d3, d4] => { results := [.lit (.bool true)], args := [d1, d2, d3, d4] }
  | _ => none }
def lotDrawnRow : OpenClaim := { program := "ytfdcmiodcijmmaagreat", sum := "2c5711e28cbce4259c15b16bfeeef5647994d4d871b8ca346f8cb2c87fb5c968", func := "novation/novationlaw23.LotDrawn", spec := "lotDrawn", inPlace := ["math/bits.Add64", "math/bits.Sub64", "slices.overlaps[int]"], unfollowed := true, recurses := true, named := ["math/bits.divideError", "math/bits.overflowError"], apart := false }
def LotDrawnSaid : Prop := lotDrawnRow.holds Tryz.pinned (OpenSpec.ofChange lotDrawnSpec)

/-- ITS FALSE NEIGHBOUR: 'it returns false'. Refute it at one input. -/
def lotDrawnWrong : ChangeSpec := { name := "lotDrawn", fn := fun _ => fun
  | [d1, d2, d3, d4] => { results := [.lit (.bool false)], args := [d1, d2, d3, d4] }
  | _ => none }
def LotDrawnWrongFalsely : Prop := lotDrawnRow.holds Tryz.pinned (OpenSpec.ofChange lotDrawnWrong)

/-- 'novationlaw23.LotWhole': WHATEVER THE INPUT: true; the input reads as it did. -/
def lotWholeSpec : ChangeSpec := { name := "lotWhole", fn := fun _ => fun
  | [d] => { results := [.lit (.bool true)], args := [d] }
  | _ => none }
def lotWholeRow : OpenClaim := { program := "ytfdcmiodcijmmaagreat", sum := "2c5711e28cbce4259c15b16bfeeef5647994d4d871b8ca346f8cb2c87fb5c968", func := "novation/novationlaw23.LotWhole", spec := "lotWhole", inPlace := ["math/bits.Add64", "math/bits.Sub64", "slices.overlaps[int]"], unfollowed := true, recurses := true, named := ["math/bits.divideError", "math/bits.overflowError"], apart := false }
def LotWholeSaid : Prop := lotWholeRow.holds Tryz.pinned (OpenSpec.ofChange lotWholeSpec)

/-- ITS FALSE NEIGHBOUR: 'it returns false'. Refute it at one input. -/
def lotWholeWrong : ChangeSpec := { name := "lotWhole", fn := fun _ => fun
  | [d] => { results := [.lit (.bool false)], args := [d] }
  | _ => none }
def LotWholeWrongFalsely : Prop := lotWholeRow.holds Tryz.pinned (OpenSpec.ofChange lotWholeWrong)

/-- 'novationlaw23.LotEven': WHATEVER THE INPUT: true; the input reads as it did. -/
def lotEvenSpec : ChangeSpec := { name := "lotEven", fn := fun _ => fun
  | [d] => { results := [.lit (.bool true)], args := [d] }
  | _ => none }
def lotEvenRow : OpenClaim := { program := "ytfdcmiodcijmmaagreat", sum := "2c5711e28cbce4259c15b16bfeeef5647994d4d871b8ca346f8cb2c87fb5c968", func := "novation/novationlaw23.LotEven", spec := "lotEven", inPlace := ["math/bits.Add64", "math/bits.Sub64", "slices.overlaps[int]"], unfollowed := true, recurses := true, named := ["math/bits.divideError", "math/bits.overflowError"], apart := false }
def LotEvenSaid : Prop := lotEvenRow.holds Tryz.pinned (OpenSpec.ofChange lotEvenSpec)

/-- ITS FALSE NEIGHBOUR: 'it returns false'. Refute it at one input. -/
def lotEvenWrong : ChangeSpec := { name := "lotEven", fn := fun _ => fun
  | [d] => { results := [.lit (.bool false)], args := [d] }
  | _ => none }
def LotEvenWrongFalsely : Prop := lotEvenRow.holds Tryz.pinned (OpenSpec.ofChange lotEvenWrong)

/-- 'novationlaw18.BookAll': WHATEVER THE INPUT: true; the input reads as it did. -/
def bookAllSpec : ChangeSpec := { name := "bookAll", fn := fun _ => fun
  | [d1, d2, d3, d4, d5, d6, d7] => { results := [.lit (.bool true)], args := [d1, d2, d3, d4, d5, d6, d7] }
  | _ => none }
def bookAllRow : OpenClaim := { program := "ytfdcmiodcijmmaagreat", sum := "2c5711e28cbce4259c15b16bfeeef5647994d4d871b8ca346f8cb2c87fb5c968", func := "novation/novationlaw18.BookAll", spec := "bookAll", inPlace := ["math/bits.Add64", "math/bits.Sub64", "slices.overlaps[novation/api.Pos]", "slices.overlaps[novation/api.Row]"], unfollowed := true, recurses := true, apart := false }
def BookAllSaid : Prop := bookAllRow.holds Tryz.pinned (OpenSpec.ofChange bookAllSpec)

/-- ITS FALSE NEIGHBOUR: 'it returns false'. Refute it at one input. -/
def bookAllWrong : ChangeSpec := { name := "bookAll", fn := fun _ => fun
  | [d1, d2, d3, d4, d5, d6, d7] => { results := [.lit (.bool false)], args := [d1, d2, d3, d4, d5, d6, d7] }
  | _ => none }
def BookAllWrongFalsely : Prop := bookAllRow.holds Tryz.pinned (OpenSpec.ofChange bookAllWrong)

/-- 'novationlaw19.GateAll': WHATEVER THE INPUT: true; the input reads as it did. -/
def gateAllSpec : ChangeSpec := { name := "gateAll", fn := fun _ => fun
  | [d1, d2, d3, d4, d5, d6] => { results := [.lit (.bool true)], args := [d1, d2, d3, d4, d5, d6] }
  | _ => none }
def gateAllRow : OpenClaim := { program := "ytfdcmiodcijmmaagreat", sum := "2c5711e28cbce4259c15b16bfeeef5647994d4d871b8ca346f8cb2c87fb5c968", func := "novation/novationlaw19.GateAll", spec := "gateAll", inPlace := ["math/bits.Add64", "slices.overlaps[novation/api.Open]", "math/bits.Sub64", "slices.overlaps[novation/api.Order]", "slices.overlaps[novation/api.Pos]", "slices.overlaps[novation/api.Row]"], unfollowed := true, recurses := true, apart := false }
def GateAllSaid : Prop := gateAllRow.holds Tryz.pinned (OpenSpec.ofChange gateAllSpec)

/-- ITS FALSE NEIGHBOUR: 'it returns false'. Refute it at one input. -/
def gateAllWrong : ChangeSpec := { name := "gateAll", fn := fun _ => fun
  | [d1, d2, d3, d4, d5, d6] => { results := [.lit (.bool false)], args := [d1, d2, d3, d4, d5, d6] }
  | _ => none }
def GateAllWrongFalsely : Prop := gateAllRow.holds Tryz.pinned (OpenSpec.ofChange gateAllWrong)

/-- 'novationlaw28.FallDrawn': WHATEVER THE INPUT: true; the input reads as it did. -/
def fallDrawnSpec : ChangeSpec := { name := "fallDrawn", fn := fun _ => fun
  | [d1, d2, d3, d4] => { results := [.lit (.bool true)], args := [d1, d2, d3, d4] }
  | _ => none }
def fallDrawnRow : OpenClaim := { program := "ytfdcmiodcijmmaagreat", sum := "2c5711e28cbce4259c15b16bfeeef5647994d4d871b8ca346f8cb2c87fb5c968", func := "novation/novationlaw28.FallDrawn", spec := "fallDrawn", inPlace := ["math/bits.Add64", "math/bits.Sub64", "slices.overlaps[int]", "slices.overlaps[novation/api.Pos]", "slices.overlaps[novation/api.Row]"], unfollowed := true, recurses := true, named := ["math/bits.divideError", "math/bits.overflowError"], apart := false }
def FallDrawnSaid : Prop := fallDrawnRow.holds Tryz.pinned (OpenSpec.ofChange fallDrawnSpec)

/-- ITS FALSE NEIGHBOUR: 'it returns false'. Refute it at one input. -/
def fallDrawnWrong : ChangeSpec := { name := "fallDrawn", fn := fun _ => fun
  | [d1, d2, d3, d4] => { results := [.lit (.bool false)], args := [d1, d2, d3, d4] }
  | _ => none }
def FallDrawnWrongFalsely : Prop := fallDrawnRow.holds Tryz.pinned (OpenSpec.ofChange fallDrawnWrong)

/-- 'novationlaw28.FallWater': WHATEVER THE INPUT: true; the input reads as it did. -/
def fallWaterSpec : ChangeSpec := { name := "fallWater", fn := fun _ => fun
  | [d1, d2] => { results := [.lit (.bool true)], args := [d1, d2] }
  | _ => none }
def fallWaterRow : OpenClaim := { program := "ytfdcmiodcijmmaagreat", sum := "2c5711e28cbce4259c15b16bfeeef5647994d4d871b8ca346f8cb2c87fb5c968", func := "novation/novationlaw28.FallWater", spec := "fallWater", inPlace := ["math/bits.Add64", "math/bits.Sub64", "slices.overlaps[int]", "slices.overlaps[novation/api.Pos]", "slices.overlaps[novation/api.Row]"], unfollowed := true, recurses := true, named := ["math/bits.divideError", "math/bits.overflowError"], apart := false }
def FallWaterSaid : Prop := fallWaterRow.holds Tryz.pinned (OpenSpec.ofChange fallWaterSpec)

/-- ITS FALSE NEIGHBOUR: 'it returns false'. Refute it at one input. -/
def fallWaterWrong : ChangeSpec := { name := "fallWater", fn := fun _ => fun
  | [d1, d2] => { results := [.lit (.bool false)], args := [d1, d2] }
  | _ => none }
def FallWaterWrongFalsely : Prop := fallWaterRow.holds Tryz.pinned (OpenSpec.ofChange fallWaterWrong)

/-- 'novationlaw28.FallParts': WHATEVER THE INPUT: true; the input reads as it did. -/
def fallPartsSpec : ChangeSpec := { name := "fallParts", fn := fun _ => fun
  | [d1, d2, d3] => { results := [.lit (.bool true)], args := [d1, d2, d3] }
  | _ => none }
def fallPartsRow : OpenClaim := { program := "ytfdcmiodcijmmaagreat", sum := "2c5711e28cbce4259c15b16bfeeef5647994d4d871b8ca346f8cb2c87fb5c968", func := "novation/novationlaw28.FallParts", spec := "fallParts", inPlace := ["math/bits.Add64", "math/bits.Sub64", "slices.overlaps[int]", "slices.overlaps[novation/api.Pos]", "slices.overlaps[novation/api.Row]"], unfollowed := true, recurses := true, named := ["math/bits.divideError", "math/bits.overflowError"], apart := false }
def FallPartsSaid : Prop := fallPartsRow.holds Tryz.pinned (OpenSpec.ofChange fallPartsSpec)

/-- ITS FALSE NEIGHBOUR: 'it returns false'. Refute it at one input. -/
def fallPartsWrong : ChangeSpec := { name := "fallParts", fn := fun _ => fun
  | [d1, d2, d3] => { results := [.lit (.bool false)], args := [d1, d2, d3] }
  | _ => none }
def FallPartsWrongFalsely : Prop := fallPartsRow.holds Tryz.pinned (OpenSpec.ofChange fallPartsWrong)

/-- 'novationlaw28.FallSettles': WHATEVER THE INPUT: true; the input reads as it did. -/
def fallSettlesSpec : ChangeSpec := { name := "fallSettles", fn := fun _ => fun
  | [d] => { results := [.lit (.bool true)], args := [d] }
  | _ => none }
def fallSettlesRow : OpenClaim := { program := "ytfdcmiodcijmmaagreat", sum := "2c5711e28cbce4259c15b16bfeeef5647994d4d871b8ca346f8cb2c87fb5c968", func := "novation/novationlaw28.FallSettles", spec := "fallSettles", inPlace := ["math/bits.Add64", "math/bits.Sub64", "slices.overlaps[int]", "slices.overlaps[novation/api.Pos]", "slices.overlaps[novation/api.Row]"], unfollowed := true, recurses := true, named := ["math/bits.divideError", "math/bits.overflowError"], apart := false }
def FallSettlesSaid : Prop := fallSettlesRow.holds Tryz.pinned (OpenSpec.ofChange fallSettlesSpec)

/-- ITS FALSE NEIGHBOUR: 'it returns false'. Refute it at one input. -/
def fallSettlesWrong : ChangeSpec := { name := "fallSettles", fn := fun _ => fun
  | [d] => { results := [.lit (.bool false)], args := [d] }
  | _ => none }
def FallSettlesWrongFalsely : Prop := fallSettlesRow.holds Tryz.pinned (OpenSpec.ofChange fallSettlesWrong)

/-- 'novationlaw28.FallZero': WHATEVER THE INPUT: true; the input reads as it did. -/
def fallZeroSpec : ChangeSpec := { name := "fallZero", fn := fun _ => fun
  | [d1, d2] => { results := [.lit (.bool true)], args := [d1, d2] }
  | _ => none }
def fallZeroRow : OpenClaim := { program := "ytfdcmiodcijmmaagreat", sum := "2c5711e28cbce4259c15b16bfeeef5647994d4d871b8ca346f8cb2c87fb5c968", func := "novation/novationlaw28.FallZero", spec := "fallZero", inPlace := ["math/bits.Add64", "math/bits.Sub64", "slices.overlaps[int]", "slices.overlaps[novation/api.Pos]", "slices.overlaps[novation/api.Row]"], unfollowed := true, recurses := true, named := ["math/bits.divideError", "math/bits.overflowError"], apart := false }
def FallZeroSaid : Prop := fallZeroRow.holds Tryz.pinned (OpenSpec.ofChange fallZeroSpec)

/-- ITS FALSE NEIGHBOUR: 'it returns false'. Refute it at one input. -/
def fallZeroWrong : ChangeSpec := { name := "fallZero", fn := fun _ => fun
  | [d1, d2] => { results := [.lit (.bool false)], args := [d1, d2] }
  | _ => none }
def FallZeroWrongFalsely : Prop := fallZeroRow.holds Tryz.pinned (OpenSpec.ofChange fallZeroWrong)

/- THE SECOND FORM. 'bulk': how many values and letters a reading holds, each counted each time it is reached (what is shared counts as often as it is met; a slice's spare places count too). A statement '..UptoSaid' is the law's where the arguments, and the package variables that the reading takes, are together of bulk at most 1048576: NARROWER than '..Said'. Prove '..Said' where nothing that the law and all that it calls make is longer than what came in: it says more and counts as full. Else prove '..UptoSaid'. A law counts once. -/
mutual
def uptoBulk {H : Type} : DataW H → Nat
  | .lit (.string bytes) => bytes.length + 1
  | .lit _ => 1
  | .nil => 1
  | .ptr d => uptoBulk d + 1
  | .slice elems spare => uptoBulkAll elems + uptoBulkAll spare + 1
  | .agg parts => uptoBulkAll parts + 1
  | .iface _ d => uptoBulk d + 1
  | .map entries => uptoBulkEntries entries + 1
  | .held _ => 1
def uptoBulkAll {H : Type} : List (DataW H) → Nat
  | [] => 0
  | d :: r => uptoBulk d + uptoBulkAll r
def uptoBulkEntries {H : Type} : List (Lit × DataW H) → Nat
  | [] => 0
  | x :: r => uptoBulkEntry x + uptoBulkEntries r
def uptoBulkEntry {H : Type} : Lit × DataW H → Nat
  | (.string bytes, d) => bytes.length + uptoBulk d + 1
  | (_, d) => uptoBulk d + 1
 end
def uptoSmall : (H : Type) → List (DataW H) → Bool := fun _ ds => decide (uptoBulkAll ds ≤ 1048576)
def OpenSpec.upto (s : _root_.Go.ChangeSpec) : _root_.Go.OpenSpec := { _root_.Go.OpenSpec.ofChange s with cond := some uptoSmall }

/-- 'novationlaw23.LotAll', WHERE WHAT IT READS IS OF BULK AT MOST 1048576: true; the input reads as it did. -/
def lotAllUptoRow : OpenClaim := { program := "ytfdcmiodcijmmaagreat", sum := "2c5711e28cbce4259c15b16bfeeef5647994d4d871b8ca346f8cb2c87fb5c968", func := "novation/novationlaw23.LotAll", spec := "lotAll", inPlace := ["math/bits.Add64", "math/bits.Sub64", "slices.overlaps[int]"], unfollowed := true, recurses := true, named := ["math/bits.divideError", "math/bits.overflowError"], apart := false, narrowed := true }
def LotAllUptoSaid : Prop := lotAllUptoRow.holds Tryz.pinned (OpenSpec.upto lotAllSpec)

/-- 'novationlaw23.LotDrawn', WHERE WHAT IT READS IS OF BULK AT MOST 1048576: true; the input reads as it did. -/
def lotDrawnUptoRow : OpenClaim := { program := "ytfdcmiodcijmmaagreat", sum := "2c5711e28cbce4259c15b16bfeeef5647994d4d871b8ca346f8cb2c87fb5c968", func := "novation/novationlaw23.LotDrawn", spec := "lotDrawn", inPlace := ["math/bits.Add64", "math/bits.Sub64", "slices.overlaps[int]"], unfollowed := true, recurses := true, named := ["math/bits.divideError", "math/bits.overflowError"], apart := false, narrowed := true }
def LotDrawnUptoSaid : Prop := lotDrawnUptoRow.holds Tryz.pinned (OpenSpec.upto lotDrawnSpec)

/-- 'novationlaw23.LotWhole', WHERE WHAT IT READS IS OF BULK AT MOST 1048576: true; the input reads as it did. -/
def lotWholeUptoRow : OpenClaim := { program := "ytfdcmiodcijmmaagreat", sum := "2c5711e28cbce4259c15b16bfeeef5647994d4d871b8ca346f8cb2c87fb5c968", func := "novation/novationlaw23.LotWhole", spec := "lotWhole", inPlace := ["math/bits.Add64", "math/bits.Sub64", "slices.overlaps[int]"], unfollowed := true, recurses := true, named := ["math/bits.divideError", "math/bits.overflowError"], apart := false, narrowed := true }
def LotWholeUptoSaid : Prop := lotWholeUptoRow.holds Tryz.pinned (OpenSpec.upto lotWholeSpec)

/-- 'novationlaw23.LotEven', WHERE WHAT IT READS IS OF BULK AT MOST 1048576: true; the input reads as it did. -/
def lotEvenUptoRow : OpenClaim := { program := "ytfdcmiodcijmmaagreat", sum := "2c5711e28cbce4259c15b16bfeeef5647994d4d871b8ca346f8cb2c87fb5c968", func := "novation/novationlaw23.LotEven", spec := "lotEven", inPlace := ["math/bits.Add64", "math/bits.Sub64", "slices.overlaps[int]"], unfollowed := true, recurses := true, named := ["math/bits.divideError", "math/bits.overflowError"], apart := false, narrowed := true }
def LotEvenUptoSaid : Prop := lotEvenUptoRow.holds Tryz.pinned (OpenSpec.upto lotEvenSpec)

/-- 'novationlaw18.BookAll', WHERE WHAT IT READS IS OF BULK AT MOST 1048576: true; the input reads as it did. -/
def bookAllUptoRow : OpenClaim := { program := "ytfdcmiodcijmmaagreat", sum := "2c5711e28cbce4259c15b16bfeeef5647994d4d871b8ca346f8cb2c87fb5c968", func := "novation/novationlaw18.BookAll", spec := "bookAll", inPlace := ["math/bits.Add64", "math/bits.Sub64", "slices.overlaps[novation/api.Pos]", "slices.overlaps[novation/api.Row]"], unfollowed := true, recurses := true, apart := false, narrowed := true }
def BookAllUptoSaid : Prop := bookAllUptoRow.holds Tryz.pinned (OpenSpec.upto bookAllSpec)

/-- 'novationlaw19.GateAll', WHERE WHAT IT READS IS OF BULK AT MOST 1048576: true; the input reads as it did. -/
def gateAllUptoRow : OpenClaim := { program := "ytfdcmiodcijmmaagreat", sum := "2c5711e28cbce4259c15b16bfeeef5647994d4d871b8ca346f8cb2c87fb5c968", func := "novation/novationlaw19.GateAll", spec := "gateAll", inPlace := ["math/bits.Add64", "slices.overlaps[novation/api.Open]", "math/bits.Sub64", "slices.overlaps[novation/api.Order]", "slices.overlaps[novation/api.Pos]", "slices.overlaps[novation/api.Row]"], unfollowed := true, recurses := true, apart := false, narrowed := true }
def GateAllUptoSaid : Prop := gateAllUptoRow.holds Tryz.pinned (OpenSpec.upto gateAllSpec)

/-- 'novationlaw28.FallDrawn', WHERE WHAT IT READS IS OF BULK AT MOST 1048576: true; the input reads as it did. -/
def fallDrawnUptoRow : OpenClaim := { program := "ytfdcmiodcijmmaagreat", sum := "2c5711e28cbce4259c15b16bfeeef5647994d4d871b8ca346f8cb2c87fb5c968", func := "novation/novationlaw28.FallDrawn", spec := "fallDrawn", inPlace := ["math/bits.Add64", "math/bits.Sub64", "slices.overlaps[int]", "slices.overlaps[novation/api.Pos]", "slices.overlaps[novation/api.Row]"], unfollowed := true, recurses := true, named := ["math/bits.divideError", "math/bits.overflowError"], apart := false, narrowed := true }
def FallDrawnUptoSaid : Prop := fallDrawnUptoRow.holds Tryz.pinned (OpenSpec.upto fallDrawnSpec)

/-- 'novationlaw28.FallWater', WHERE WHAT IT READS IS OF BULK AT MOST 1048576: true; the input reads as it did. -/
def fallWaterUptoRow : OpenClaim := { program := "ytfdcmiodcijmmaagreat", sum := "2c5711e28cbce4259c15b16bfeeef5647994d4d871b8ca346f8cb2c87fb5c968", func := "novation/novationlaw28.FallWater", spec := "fallWater", inPlace := ["math/bits.Add64", "math/bits.Sub64", "slices.overlaps[int]", "slices.overlaps[novation/api.Pos]", "slices.overlaps[novation/api.Row]"], unfollowed := true, recurses := true, named := ["math/bits.divideError", "math/bits.overflowError"], apart := false, narrowed := true }
def FallWaterUptoSaid : Prop := fallWaterUptoRow.holds Tryz.pinned (OpenSpec.upto fallWaterSpec)

/-- 'novationlaw28.FallParts', WHERE WHAT IT READS IS OF BULK AT MOST 1048576: true; the input reads as it did. -/
def fallPartsUptoRow : OpenClaim := { program := "ytfdcmiodcijmmaagreat", sum := "2c5711e28cbce4259c15b16bfeeef5647994d4d871b8ca346f8cb2c87fb5c968", func := "novation/novationlaw28.FallParts", spec := "fallParts", inPlace := ["math/bits.Add64", "math/bits.Sub64", "slices.overlaps[int]", "slices.overlaps[novation/api.Pos]", "slices.overlaps[novation/api.Row]"], unfollowed := true, recurses := true, named := ["math/bits.divideError", "math/bits.overflowError"], apart := false, narrowed := true }
def FallPartsUptoSaid : Prop := fallPartsUptoRow.holds Tryz.pinned (OpenSpec.upto fallPartsSpec)

/-- 'novationlaw28.FallSettles', WHERE WHAT IT READS IS OF BULK AT MOST 1048576: true; the input reads as it did. -/
def fallSettlesUptoRow : OpenClaim := { program := "ytfdcmiodcijmmaagreat", sum := "2c5711e28cbce4259c15b16bfeeef5647994d4d871b8ca346f8cb2c87fb5c968", func := "novation/novationlaw28.FallSettles", spec := "fallSettles", inPlace := ["math/bits.Add64", "math/bits.Sub64", "slices.overlaps[int]", "slices.overlaps[novation/api.Pos]", "slices.overlaps[novation/api.Row]"], unfollowed := true, recurses := true, named := ["math/bits.divideError", "math/bits.overflowError"], apart := false, narrowed := true }
def FallSettlesUptoSaid : Prop := fallSettlesUptoRow.holds Tryz.pinned (OpenSpec.upto fallSettlesSpec)

/-- 'novationlaw28.FallZero', WHERE WHAT IT READS IS OF BULK AT MOST 1048576: true; the input reads as it did. -/
def fallZeroUptoRow : OpenClaim := { program := "ytfdcmiodcijmmaagreat", sum := "2c5711e28cbce4259c15b16bfeeef5647994d4d871b8ca346f8cb2c87fb5c968", func := "novation/novationlaw28.FallZero", spec := "fallZero", inPlace := ["math/bits.Add64", "math/bits.Sub64", "slices.overlaps[int]", "slices.overlaps[novation/api.Pos]", "slices.overlaps[novation/api.Row]"], unfollowed := true, recurses := true, named := ["math/bits.divideError", "math/bits.overflowError"], apart := false, narrowed := true }
def FallZeroUptoSaid : Prop := fallZeroUptoRow.holds Tryz.pinned (OpenSpec.upto fallZeroSpec)

end Rows
end Go.Proofs.YtfdcmiodcijmmaaGreat
