/-
  No cell of these rows narrows 'for every input' (looked for: loops, veiled, ifaces, maps, wideKeys, modest, calm, conditions, laid).
  DERIVED. THE GIVEN ROWS OF THIS SEAT. 4 by the template 'for every input the law returns true; each argument reads behind the call as it read before'; 0 by the template 'total and deterministic' (their statements: YthpchkeghefokaaGreatTotals.lean).
  GIVEN WITH THE SEED: the statements are not yours to turn. If you find one false, say at which input.
  Laid BY PROGRAM, IN A SANDBOX (cutbox-rows.mjs): the forced cells as the released guide's own fill.sh prints them over the translation ff42d7fa1f4a44b0… (all of the seat's roots in one cut). By AI agents, Wed Nov 11 2026. No macro, syntax, notation, axiom, sorry.
-/
import Derived.Test.YthpchkeghefokaaGreatChecked
import GoSem.Claim
import GoSem.ClaimJoined
import GoSem.ClaimMapViews
import Derived.JoinedTies
import Derived.KernelRfl
namespace Go.Proofs.YthpchkeghefokaaGreat
/- THE CELL 'sum', in the pinned program and in every row, IS THE sha256 OF THE DUMP (.gsa) THAT YthpchkeghefokaaGreatProg.lean LOADS. Nothing in Lean hashes anything: it is a label: what it is worth is what the hold of that sum in a sandbox is worth. -/
noncomputable def Tryz.pinned : Pinned := { name := "ythpchkeghefokaagreat", sum := "ff42d7fa1f4a44b0441052243deb83582a4569a690bfbdc646bc3ba5e23b8c77", checked := Tryz.checked }
namespace Rows
def none {H : Type} : Left H := { results := [], args := [] }

/-- 'novationlaw23.LotAll': WHATEVER THE INPUT: true; the input reads as it did. -/
def lotAllSpec : ChangeSpec := { name := "lotAll", fn := fun _ => fun
  | [d1, d2, d3, d4, d5] => { results := [.lit (.bool true)], args := [d1, d2, d3, d4, d5] }
  | _ => none }
def lotAllRow : OpenClaim := { program := "ythpchkeghefokaagreat", sum := "ff42d7fa1f4a44b0441052243deb83582a4569a690bfbdc646bc3ba5e23b8c77", func := "novation/novationlaw23.LotAll", spec := "lotAll", inPlace := ["math/bits.Add64", "math/bits.Sub64", "slices.overlaps[int]"], unfollowed := true, recurses := true, named := ["math/bits.divideError", "math/bits.overflowError"], apart := false }
def LotAllSaid : Prop := lotAllRow.holds Tryz.pinned (OpenSpec.ofChange lotAllSpec)

/-- ITS FALSE NEIGHBOUR: 'it returns false'. Refute it at one input. -/
def lotAllWrong : ChangeSpec := { name := "lotAll", fn := fun _ => fun
  | [d1, d2, d3, d4, d5] => { results := [.lit (.bool false)], args := [d1, d2, d3, d4, d5] }
  | _ => none }
def LotAllWrongFalsely : Prop := lotAllRow.holds Tryz.pinned (OpenSpec.ofChange lotAllWrong)

/-- 'novationlaw18.BookAll': WHATEVER THE INPUT: true; the input reads as it did. -/
def bookAllSpec : ChangeSpec := { name := "bookAll", fn := fun _ => fun
  | [d1, d2, d3, d4, d5, d6, d7] => { results := [.lit (.bool true)], args := [d1, d2, d3, d4, d5, d6, d7] }
  | _ => none }
def bookAllRow : OpenClaim := { program := "ythpchkeghefokaagreat", sum := "ff42d7fa1f4a44b0441052243deb83582a4569a690bfbdc646bc3ba5e23b8c77", func := "novation/novationlaw18.BookAll", spec := "bookAll", inPlace := ["math/bits.Add64", "math/bits.Sub64", "slices.overlaps[novation/api.Pos]", "slices.overlaps[novation/api.Row]"], unfollowed := true, recurses := true, apart := false }
def BookAllSaid : Prop := bookAllRow.holds Tryz.pinned (OpenSpec.ofChange bookAllSpec)

/-- ITS FALSE NEIGHBOUR: 'it returns false'. Refute it at one input. -/
def bookAllWrong : ChangeSpec := { name := "bookAll", fn := fun _ => fun
  | [d1, d2, d3, d4, d5, d6, d7] => { results := [.lit (.bool false)], args := [d1, d2, d3, d4, d5, d6, d7] }
  | _ => none }
def BookAllWrongFalsely : Prop := bookAllRow.holds Tryz.pinned (OpenSpec.ofChange bookAllWrong)

/-- 'novationlaw19.GateAll': WHATEVER THE INPUT: true; the input reads as it did. -/
def gateAllSpec : ChangeSpec := { name := "gateAll", fn := fun _ => fun
  | [d1, d2, d3, d4, d5, d6] => { results := [.lit (.bool true)], args := [d1, d2, d3, d4, d5, d6] }
  | _ => none }
def gateAllRow : OpenClaim := { program := "ythpchkeghefokaagreat", sum := "ff42d7fa1f4a44b0441052243deb83582a4569a690bfbdc646bc3ba5e23b8c77", func := "novation/novationlaw19.GateAll", spec := "gateAll", inPlace := ["math/bits.Add64", "slices.overlaps[novation/api.Open]", "math/bits.Sub64", "slices.overlaps[novation/api.Order]", "slices.overlaps[novation/api.Pos]", "slices.overlaps[novation/api.Row]"], unfollowed := true, recurses := true, apart := false }
def GateAllSaid : Prop := gateAllRow.holds Tryz.pinned (OpenSpec.ofChange gateAllSpec)

/-- ITS FALSE NEIGHBOUR: 'it returns false'. Refute it at one input. -/
def gateAllWrong : ChangeSpec := { name := "gateAll", fn := fun _ => fun
  | [d1, d2, d3, d4, d5, d6] => { results := [.lit (.bool false)], args := [d1, d2, d3, d4, d5, d6] }
  | _ => none }
def GateAllWrongFalsely : Prop := gateAllRow.holds Tryz.pinned (OpenSpec.ofChange gateAllWrong)

/-- 'novationlaw22.HedgeAll': WHATEVER THE INPUT: true; the input reads as it did. -/
def hedgeAllSpec : ChangeSpec := { name := "hedgeAll", fn := fun _ => fun
  | [d1, d2, d3, d4, d5, d6, d7] => { results := [.lit (.bool true)], args := [d1, d2, d3, d4, d5, d6, d7] }
  | _ => none }
def hedgeAllRow : OpenClaim := { program := "ythpchkeghefokaagreat", sum := "ff42d7fa1f4a44b0441052243deb83582a4569a690bfbdc646bc3ba5e23b8c77", func := "novation/novationlaw22.HedgeAll", spec := "hedgeAll", inPlace := ["math/bits.Add64", "math/bits.Sub64", "slices.overlaps[novation/api.Open]", "slices.overlaps[novation/api.Pos]", "slices.overlaps[novation/api.Row]"], unfollowed := true, recurses := true, named := ["math/bits.divideError", "math/bits.overflowError"], apart := false }
def HedgeAllSaid : Prop := hedgeAllRow.holds Tryz.pinned (OpenSpec.ofChange hedgeAllSpec)

/-- ITS FALSE NEIGHBOUR: 'it returns false'. Refute it at one input. -/
def hedgeAllWrong : ChangeSpec := { name := "hedgeAll", fn := fun _ => fun
  | [d1, d2, d3, d4, d5, d6, d7] => { results := [.lit (.bool false)], args := [d1, d2, d3, d4, d5, d6, d7] }
  | _ => none }
def HedgeAllWrongFalsely : Prop := hedgeAllRow.holds Tryz.pinned (OpenSpec.ofChange hedgeAllWrong)

/- THE SECOND FORM. 'bulk': how many values and letters a reading holds, each counted each time it is reached (what is shared counts as often as it is met; a slice's spare places count too). A statement '..UptoSaid' is the law's where the arguments, and the package variables that the reading takes, are together of bulk at most 1048576: NARROWER than '..Said'. Prove '..Said' where nothing that the law and all that it calls make is longer than what came in: it says more and counts as full. Else prove '..UptoSaid'. A law counts once. -/
mutual
def uptoBulk {H : Type} : DataW H → Nat
  | .lit (.string bytes) => bytes.length + 1
  | .lit _ => 1
  | .nil => 1
  | .ptr d => uptoBulk d + 1
  | .slice elems spare => uptoBulkAll elems + uptoBulkAll spare + 1
  | .agg parts => uptoBulkAll parts + 1
  | .iface _ d => uptoBulk d + 1
  | .map entries => uptoBulkEntries entries + 1
  | .held _ => 1
def uptoBulkAll {H : Type} : List (DataW H) → Nat
  | [] => 0
  | d :: r => uptoBulk d + uptoBulkAll r
def uptoBulkEntries {H : Type} : List (Lit × DataW H) → Nat
  | [] => 0
  | x :: r => uptoBulkEntry x + uptoBulkEntries r
def uptoBulkEntry {H : Type} : Lit × DataW H → Nat
  | (.string bytes, d) => bytes.length + uptoBulk d + 1
  | (_, d) => uptoBulk d + 1
 end
def uptoSmall : (H : Type) → List (DataW H) → Bool := fun _ ds => decide (uptoBulkAll ds ≤ 1048576)
def OpenSpec.upto (s : _root_.Go.ChangeSpec) : _root_.Go.OpenSpec := { _root_.Go.OpenSpec.ofChange s with cond := some uptoSmall }

/-- 'novationlaw23.LotAll', WHERE WHAT IT READS IS OF BULK AT MOST 1048576: true; the input reads as it did. -/
def lotAllUptoRow : OpenClaim := { program := "ythpchkeghefokaagreat", sum := "ff42d7fa1f4a44b0441052243deb83582a4569a690bfbdc646bc3ba5e23b8c77", func := "novation/novationlaw23.LotAll", spec := "lotAll", inPlace := ["math/bits.Add64", "math/bits.Sub64", "slices.overlaps[int]"], unfollowed := true, recurses := true, named := ["math/bits.divideError", "math/bits.overflowError"], apart := false, narrowed := true }
def LotAllUptoSaid : Prop := lotAllUptoRow.holds Tryz.pinned (OpenSpec.upto lotAllSpec)

/-- 'novationlaw18.BookAll', WHERE WHAT IT READS IS OF BULK AT MOST 1048576: true; the input reads as it did. -/
def bookAllUptoRow : OpenClaim := { program := "ythpchkeghefokaagreat", sum := "ff42d7fa1f4a44b0441052243deb83582a4569a690bfbdc646bc3ba5e23b8c77", func := "novation/novationlaw18.BookAll", spec := "bookAll", inPlace := ["math/bits.Add64", "math/bits.Sub64", "slices.overlaps[novation/api.Pos]", "slices.overlaps[novation/api.Row]"], unfollowed := true, recurses := true, apart := false, narrowed := true }
def BookAllUptoSaid : Prop := bookAllUptoRow.holds Tryz.pinned (OpenSpec.upto bookAllSpec)

/-- 'novationlaw19.GateAll', WHERE WHAT IT READS IS OF BULK AT MOST 1048576: true; the input reads as it did. -/
def gateAllUptoRow : OpenClaim := { program := "ythpchkeghefokaagreat", sum := "ff42d7fa1f4a44b0441052243deb83582a4569a690bfbdc646bc3ba5e23b8c77", func := "novation/novationlaw19.GateAll", spec := "gateAll", inPlace := ["math/bits.Add64", "slices.overlaps[novation/api.Open]", "math/bits.Sub64", "slices.overlaps[novation/api.Order]", "slices.overlaps[novation/api.Pos]", "slices.overlaps[novation/api.Row]"], unfollowed := true, recurses := true, apart := false, narrowed := true }
def GateAllUptoSaid : Prop := gateAllUptoRow.holds Tryz.pinned (OpenSpec.upto gateAllSpec)

/-- 'novationlaw22.HedgeAll', WHERE WHAT IT READS IS OF BULK AT MOST 1048576: true; the input reads as it did. -/
def hedgeAllUptoRow : OpenClaim := { program := "ythpchkeghefokaagreat", sum := "ff42d7fa1f4a44b0441052243deb83582a4569a690bfbdc646bc3ba5e23b8c77", func := "novation/novationlaw22.HedgeAll", spec := "hedgeAll", inPlace := ["math/bits.Add64", "math/bits.Sub64", "slices.overlaps[novation/api.Open]", "slices.overlaps[novation/api.Pos]", "slices.overlaps[novation/api.Row]"], unfollowed := true, recurses := true, named := ["math/bits.divideError", "math/bits.overflowError"], apart := false, narrowed := true }
def HedgeAllUptoSaid : Prop := hedgeAllUptoRow.holds Tryz.pinned (OpenSpec.upto hedgeAllSpec)

end Rows
end Go.Proofs.YthpchkeghefokaaGreat
