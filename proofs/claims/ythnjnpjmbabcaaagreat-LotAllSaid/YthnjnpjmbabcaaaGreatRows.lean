/-
  No cell of these rows narrows 'for every input' (looked for: loops, veiled, ifaces, maps, wideKeys, modest, calm, conditions, laid).
  DERIVED. THE GIVEN ROWS OF THIS SEAT. 4 by the template 'for every input the law returns true; each argument reads behind the call as it read before'; 0 by the template 'total and deterministic' (their statements: YthnjnpjmbabcaaaGreatTotals.lean).
  GIVEN WITH THE SEED: the statements are not yours to turn. If you find one false, say at which input.
  Laid BY PROGRAM, IN A SANDBOX (cutbox-rows.mjs): the forced cells as the released guide's own fill.sh prints them over the translation 3965353a4ed1b6f1… (all of the seat's roots in one cut). By AI agents, Wed Nov 11 2026. No macro, syntax, notation, axiom, sorry.
-/
import Derived.Test.YthnjnpjmbabcaaaGreatChecked
import GoSem.Claim
import GoSem.ClaimJoined
import GoSem.ClaimMapViews
import Derived.JoinedTies
import Derived.KernelRfl
namespace Go.Proofs.YthnjnpjmbabcaaaGreat
/- THE CELL 'sum', in the pinned program and in every row, IS THE sha256 OF THE DUMP (.gsa) THAT YthnjnpjmbabcaaaGreatProg.lean LOADS. Nothing in Lean hashes anything: it is a label: what it is worth is what the hold of that sum in a sandbox is worth. -/
noncomputable def Tryz.pinned : Pinned := { name := "ythnjnpjmbabcaaagreat", sum := "3965353a4ed1b6f105bea332ecef1f55358415cfe8a623274ede9d810c9723db", checked := Tryz.checked }
namespace Rows
def none {H : Type} : Left H := { results := [], args := [] }

/-- 'novationlaw23.LotAll': WHATEVER THE INPUT: true; the input reads as it did. -/
def lotAllSpec : ChangeSpec := { name := "lotAll", fn := fun _ => fun
  | [d1, d2, d3, d4, d5] => { results := [.lit (.bool true)], args := [d1, d2, d3, d4, d5] }
  | _ => none }
def lotAllRow : OpenClaim := { program := "ythnjnpjmbabcaaagreat", sum := "3965353a4ed1b6f105bea332ecef1f55358415cfe8a623274ede9d810c9723db", func := "novation/novationlaw23.LotAll", spec := "lotAll", inPlace := ["math/bits.Add64", "math/bits.Sub64", "slices.overlaps[int]"], unfollowed := true, recurses := true, named := ["math/bits.divideError", "math/bits.overflowError"], apart := false }
def LotAllSaid : Prop := lotAllRow.holds Tryz.pinned (OpenSpec.ofChange lotAllSpec)

/-- ITS FALSE NEIGHBOUR: 'it returns false'. Refute it at one input. -/
def lotAllWrong : ChangeSpec := { name := "lotAll", fn := fun _ => fun
  | [d1, d2, d3, d4, d5] => { results := [.lit (.bool false)], args := [d1, d2, d3, d4, d5] }
  | _ => none }
def LotAllWrongFalsely : Prop := lotAllRow.holds Tryz.pinned (OpenSpec.ofChange lotAllWrong)

/-- 'novationlaw23.LotDrawn': WHATEVER THE INPUT: true; the input reads as it did. -/
def lotDrawnSpec : ChangeSpec := { name := "lotDrawn", fn := fun _ => fun
  | [d1, d2, d3, d4] => { results := [.lit (.bool true)], args := [d1, d2, d3, d4] }
  | _ => none }
def lotDrawnRow : OpenClaim := { program := "ythnjnpjmbabcaaagreat", sum := "3965353a4ed1b6f105bea332ecef1f55358415cfe8a623274ede9d810c9723db", func := "novation/novationlaw23.LotDrawn", spec := "lotDrawn", inPlace := ["math/bits.Add64", "math/bits.Sub64", "slices.overlaps[int]"], unfollowed := true, recurses := true, named := ["math/bits.divideError", "math/bits.overflowError"], apart := false }
def LotDrawnSaid : Prop := lotDrawnRow.holds Tryz.pinned (OpenSpec.ofChange lotDrawnSpec)

/-- ITS FALSE NEIGHBOUR: 'it returns false'. Refute it at one input. -/
def lotDrawnWrong : ChangeSpec := { name := "lotDrawn", fn := fun _ => fun
  | [d1, d2, d3, d4] => { results := [.lit (.bool false)], args := [d1, d2, d3, d4] }
  | _ => none }
def LotDrawnWrongFalsely : Prop := lotDrawnRow.holds Tryz.pinned (OpenSpec.ofChange lotDrawnWrong)

/-- 'novationlaw23.LotWhole': WHATEVER THE INPUT: true; the input reads as it did. -/
def lotWholeSpec : ChangeSpec := { name := "lotWhole", fn := fun _ => fun
  | [d] => { results := [.lit (.bool true)], args := [d] }
  | _ => none }
def lotWholeRow : OpenClaim := { program := "ythnjnpjmbabcaaagreat", sum := "3965353a4ed1b6f105bea332ecef1f55358415cfe8a623274ede9d810c9723db", func := "novation/novationlaw23.LotWhole", spec := "lotWhole", inPlace := ["math/bits.Add64", "math/bits.Sub64", "slices.overlaps[int]"], unfollowed := true, recurses := true, named := ["math/bits.divideError", "math/bits.overflowError"], apart := false }
def LotWholeSaid : Prop := lotWholeRow.holds Tryz.pinned (OpenSpec.ofChange lotWholeSpec)

/-- ITS FALSE NEIGHBOUR: 'it returns false'. Refute it at one input. -/
def lotWholeWrong : ChangeSpec := { name := "lotWhole", fn := fun _ => fun
  | [d] => { results := [.lit (.bool false)], args := [d] }
  | _ => none }
def LotWholeWrongFalsely : Prop := lotWholeRow.holds Tryz.pinned (OpenSpec.ofChange lotWholeWrong)

/-- 'novationlaw23.LotEven': WHATEVER THE INPUT: true; the input reads as it did. -/
def lotEvenSpec : ChangeSpec := { name := "lotEven", fn := fun _ => fun
  | [d] => { results := [.lit (.bool true)], args := [d] }
  | _ => none }
def lotEvenRow : OpenClaim := { program := "ythnjnpjmbabcaaagreat", sum := "3965353a4ed1b6f105bea332ecef1f55358415cfe8a623274ede9d810c9723db", func := "novation/novationlaw23.LotEven", spec := "lotEven", inPlace := ["math/bits.Add64", "math/bits.Sub64", "slices.overlaps[int]"], unfollowed := true, recurses := true, named := ["math/bits.divideError", "math/bits.overflowError"], apart := false }
def LotEvenSaid : Prop := lotEvenRow.holds Tryz.pinned (OpenSpec.ofChange lotEvenSpec)

/-- ITS FALSE NEIGHBOUR: 'it returns false'. Refute it at one input. -/
def lotEvenWrong : ChangeSpec := { name := "lotEven", fn := fun _ => fun
  | [d] => { results := [.lit (.bool false)], args := [d] }
  | _ => none }
def LotEvenWrongFalsely : Prop := lotEvenRow.holds Tryz.pinned (OpenSpec.ofChange lotEvenWrong)

/- THE SECOND FORM. 'bulk': how many values and letters a reading holds, each counted each time it is reached (what is shared counts as often as it is met; a slice's spare places count too). A statement '..UptoSaid' is the law's where the arguments, and the package variables that the reading takes, are together of bulk at most 1048576: NARROWER than '..Said'. Prove '..Said' where nothing that the law and all that it calls make is longer than what came in: it says more and counts as full. Else prove '..UptoSaid'. A law counts once. -/
mutual
def uptoBulk {H : Type} : DataW H → Nat
  | .lit (.string bytes) => bytes.length + 1
  | .lit _ => 1
  | .nil => 1
  | .ptr d => uptoBulk d + 1
  | .slice elems spare => uptoBulkAll elems + uptoBulkAll spare + 1
  | .agg parts => uptoBulkAll parts + 1
  | .iface _ d => uptoBulk d + 1
  | .map entries => uptoBulkEntries entries + 1
  | .held _ => 1
def uptoBulkAll {H : Type} : List (DataW H) → Nat
  | [] => 0
  | d :: r => uptoBulk d + uptoBulkAll r
def uptoBulkEntries {H : Type} : List (Lit × DataW H) → Nat
  | [] => 0
  | x :: r => uptoBulkEntry x + uptoBulkEntries r
def uptoBulkEntry {H : Type} : Lit × DataW H → Nat
  | (.string bytes, d) => bytes.length + uptoBulk d + 1
  | (_, d) => uptoBulk d + 1
 end
def uptoSmall : (H : Type) → List (DataW H) → Bool := fun _ ds => decide (uptoBulkAll ds ≤ 1048576)
def OpenSpec.upto (s : _root_.Go.ChangeSpec) : _root_.Go.OpenSpec := { _root_.Go.OpenSpec.ofChange s with cond := some uptoSmall }

/-- 'novationlaw23.LotAll', WHERE WHAT IT READS IS OF BULK AT MOST 1048576: true; the input reads as it did. -/
def lotAllUptoRow : OpenClaim := { program := "ythnjnpjmbabcaaagreat", sum := "3965353a4ed1b6f105bea332ecef1f55358415cfe8a623274ede9d810c9723db", func := "novation/novationlaw23.LotAll", spec := "lotAll", inPlace := ["math/bits.Add64", "math/bits.Sub64", "slices.overlaps[int]"], unfollowed := true, recurses := true, named := ["math/bits.divideError", "math/bits.overflowError"], apart := false, narrowed := true }
def LotAllUptoSaid : Prop := lotAllUptoRow.holds Tryz.pinned (OpenSpec.upto lotAllSpec)

/-- 'novationlaw23.LotDrawn', WHERE WHAT IT READS IS OF BULK AT MOST 1048576: true; the input reads as it did. -/
def lotDrawnUptoRow : OpenClaim := { program := "ythnjnpjmbabcaaagreat", sum := "3965353a4ed1b6f105bea332ecef1f55358415cfe8a623274ede9d810c9723db", func := "novation/novationlaw23.LotDrawn", spec := "lotDrawn", inPlace := ["math/bits.Add64", "math/bits.Sub64", "slices.overlaps[int]"], unfollowed := true, recurses := true, named := ["math/bits.divideError", "math/bits.overflowError"], apart := false, narrowed := true }
def LotDrawnUptoSaid : Prop := lotDrawnUptoRow.holds Tryz.pinned (OpenSpec.upto lotDrawnSpec)

/-- 'novationlaw23.LotWhole', WHERE WHAT IT READS IS OF BULK AT MOST 1048576: true; the input reads as it did. -/
def lotWholeUptoRow : OpenClaim := { program := "ythnjnpjmbabcaaagreat", sum := "3965353a4ed1b6f105bea332ecef1f55358415cfe8a623274ede9d810c9723db", func := "novation/novationlaw23.LotWhole", spec := "lotWhole", inPlace := ["math/bits.Add64", "math/bits.Sub64", "slices.overlaps[int]"], unfollowed := true, recurses := true, named := ["math/bits.divideError", "math/bits.overflowError"], apart := false, narrowed := true }
def LotWholeUptoSaid : Prop := lotWholeUptoRow.holds Tryz.pinned (OpenSpec.upto lotWholeSpec)

/-- 'novationlaw23.LotEven', WHERE WHAT IT READS IS OF BULK AT MOST 1048576: true; the input reads as it did. -/
def lotEvenUptoRow : OpenClaim := { program := "ythnjnpjmbabcaaagreat", sum := "3965353a4ed1b6f105bea332ecef1f55358415cfe8a623274ede9d810c9723db", func := "novation/novationlaw23.LotEven", spec := "lotEven", inPlace := ["math/bits.Add64", "math/bits.Sub64", "slices.overlaps[int]"], unfollowed := true, recurses := true, named := ["math/bits.divideError", "math/bits.overflowError"], apart := false, narrowed := true }
def LotEvenUptoSaid : Prop := lotEvenUptoRow.holds Tryz.pinned (OpenSpec.upto lotEvenSpec)

end Rows
end Go.Proofs.YthnjnpjmbabcaaaGreat
