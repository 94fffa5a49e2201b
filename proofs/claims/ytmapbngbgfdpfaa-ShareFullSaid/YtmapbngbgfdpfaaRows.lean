/-
  No cell of these rows narrows 'for every input' (looked for: loops, veiled, ifaces, maps, wideKeys, modest, calm, conditions, laid).
  DERIVED. THE GIVEN ROWS OF THIS SEAT. 6 by the template 'for every input the law returns true; each argument reads behind the call as it read before'; 0 by the template 'total and deterministic' (their statements: YtmapbngbgfdpfaaTotals.lean).
  GIVEN WITH THE SEED: the statements are not yours to turn. If you find one false, say at which input.
  Laid BY PROGRAM, IN A SANDBOX (cutbox-rows.mjs): the forced cells as the released guide's own fill.sh prints them over the translation ff96810433d42c57… (all of the seat's roots in one cut). By AI agents, Wed Nov 11 2026. No macro, syntax, notation, axiom, sorry.
-/
import Derived.Test.YtmapbngbgfdpfaaChecked
import GoSem.Claim
import GoSem.ClaimJoined
import GoSem.ClaimMapViews
import Derived.JoinedTies
import Derived.KernelRfl
namespace Go.Proofs.Ytmapbngbgfdpfaa
/- THE CELL 'sum', in the pinned program and in every row, IS THE sha256 OF THE DUMP (.gsa) THAT YtmapbngbgfdpfaaProg.lean LOADS. Nothing in Lean hashes anything: it is a label: what it is worth is what the hold of that sum in a sandbox is worth. -/
noncomputable def Try.pinned : Pinned := { name := "ytmapbngbgfdpfaa", sum := "ff96810433d42c57bb3079ce1c53fcda40e3d4e7fb2d08380fc084b303ad62ce", checked := Try.checked }
namespace Rows
def none {H : Type} : Left H := { results := [], args := [] }

/-- 'novationlaw3.ShareSplits': WHATEVER THE INPUT: true; the input reads as it did. -/
def shareSplitsSpec : ChangeSpec := { name := "shareSplits", fn := fun _ => fun
  | [d1, d2, d3] => { results := [.lit (.bool true)], args := [d1, d2, d3] }
  | _ => none }
def shareSplitsRow : OpenClaim := { program := "ytmapbngbgfdpfaa", sum := "ff96810433d42c57bb3079ce1c53fcda40e3d4e7fb2d08380fc084b303ad62ce", func := "novation/novationlaw3.ShareSplits", spec := "shareSplits", inPlace := ["math/bits.Add64", "math/bits.Sub64", "slices.overlaps[int]"], unfollowed := true, recurses := true, named := ["math/bits.divideError", "math/bits.overflowError"], apart := false }
def ShareSplitsSaid : Prop := shareSplitsRow.holds Try.pinned (OpenSpec.ofChange shareSplitsSpec)

/-- ITS FALSE NEIGHBOUR: 'it returns false'. Refute it at one input. -/
def shareSplitsWrong : ChangeSpec := { name := "shareSplits", fn := fun _ => fun
  | [d1, d2, d3] => { results := [.lit (.bool false)], args := [d1, d2, d3] }
  | _ => none }
def ShareSplitsWrongFalsely : Prop := shareSplitsRow.holds Try.pinned (OpenSpec.ofChange shareSplitsWrong)

/-- 'novationlaw3.ShareCaps': WHATEVER THE INPUT: true; the input reads as it did. -/
def shareCapsSpec : ChangeSpec := { name := "shareCaps", fn := fun _ => fun
  | [d1, d2, d3] => { results := [.lit (.bool true)], args := [d1, d2, d3] }
  | _ => none }
def shareCapsRow : OpenClaim := { program := "ytmapbngbgfdpfaa", sum := "ff96810433d42c57bb3079ce1c53fcda40e3d4e7fb2d08380fc084b303ad62ce", func := "novation/novationlaw3.ShareCaps", spec := "shareCaps", inPlace := ["math/bits.Add64", "math/bits.Sub64", "slices.overlaps[int]"], unfollowed := true, recurses := true, named := ["math/bits.divideError", "math/bits.overflowError"], apart := false }
def ShareCapsSaid : Prop := shareCapsRow.holds Try.pinned (OpenSpec.ofChange shareCapsSpec)

/-- ITS FALSE NEIGHBOUR: 'it returns false'. Refute it at one input. -/
def shareCapsWrong : ChangeSpec := { name := "shareCaps", fn := fun _ => fun
  | [d1, d2, d3] => { results := [.lit (.bool false)], args := [d1, d2, d3] }
  | _ => none }
def ShareCapsWrongFalsely : Prop := shareCapsRow.holds Try.pinned (OpenSpec.ofChange shareCapsWrong)

/-- 'novationlaw3.ShareTotal': WHATEVER THE INPUT: true; the input reads as it did. -/
def shareTotalSpec : ChangeSpec := { name := "shareTotal", fn := fun _ => fun
  | [d1, d2] => { results := [.lit (.bool true)], args := [d1, d2] }
  | _ => none }
def shareTotalRow : OpenClaim := { program := "ytmapbngbgfdpfaa", sum := "ff96810433d42c57bb3079ce1c53fcda40e3d4e7fb2d08380fc084b303ad62ce", func := "novation/novationlaw3.ShareTotal", spec := "shareTotal", inPlace := ["math/bits.Add64", "math/bits.Sub64", "slices.overlaps[int]"], unfollowed := true, recurses := true, named := ["math/bits.divideError", "math/bits.overflowError"], apart := false }
def ShareTotalSaid : Prop := shareTotalRow.holds Try.pinned (OpenSpec.ofChange shareTotalSpec)

/-- ITS FALSE NEIGHBOUR: 'it returns false'. Refute it at one input. -/
def shareTotalWrong : ChangeSpec := { name := "shareTotal", fn := fun _ => fun
  | [d1, d2] => { results := [.lit (.bool false)], args := [d1, d2] }
  | _ => none }
def ShareTotalWrongFalsely : Prop := shareTotalRow.holds Try.pinned (OpenSpec.ofChange shareTotalWrong)

/-- 'novationlaw3.ShareFull': WHATEVER THE INPUT: true; the input reads as it did. -/
def shareFullSpec : ChangeSpec := { name := "shareFull", fn := fun _ => fun
  | [d1, d2, d3] => { results := [.lit (.bool true)], args := [d1, d2, d3] }
  | _ => none }
def shareFullRow : OpenClaim := { program := "ytmapbngbgfdpfaa", sum := "ff96810433d42c57bb3079ce1c53fcda40e3d4e7fb2d08380fc084b303ad62ce", func := "novation/novationlaw3.ShareFull", spec := "shareFull", inPlace := ["math/bits.Add64", "math/bits.Sub64", "slices.overlaps[int]"], unfollowed := true, recurses := true, named := ["math/bits.divideError", "math/bits.overflowError"], apart := false }
def ShareFullSaid : Prop := shareFullRow.holds Try.pinned (OpenSpec.ofChange shareFullSpec)

/-- ITS FALSE NEIGHBOUR: 'it returns false'. Refute it at one input. -/
def shareFullWrong : ChangeSpec := { name := "shareFull", fn := fun _ => fun
  | [d1, d2, d3] => { results := [.lit (.bool false)], args := [d1, d2, d3] }
  | _ => none }
def ShareFullWrongFalsely : Prop := shareFullRow.holds Try.pinned (OpenSpec.ofChange shareFullWrong)

/-- 'novationlaw3.ShareEqual': WHATEVER THE INPUT: true; the input reads as it did. -/
def shareEqualSpec : ChangeSpec := { name := "shareEqual", fn := fun _ => fun
  | [d1, d2] => { results := [.lit (.bool true)], args := [d1, d2] }
  | _ => none }
def shareEqualRow : OpenClaim := { program := "ytmapbngbgfdpfaa", sum := "ff96810433d42c57bb3079ce1c53fcda40e3d4e7fb2d08380fc084b303ad62ce", func := "novation/novationlaw3.ShareEqual", spec := "shareEqual", inPlace := ["math/bits.Add64", "math/bits.Sub64", "slices.overlaps[int]"], unfollowed := true, recurses := true, named := ["math/bits.divideError", "math/bits.overflowError"], apart := false }
def ShareEqualSaid : Prop := shareEqualRow.holds Try.pinned (OpenSpec.ofChange shareEqualSpec)

/-- ITS FALSE NEIGHBOUR: 'it returns false'. Refute it at one input. -/
def shareEqualWrong : ChangeSpec := { name := "shareEqual", fn := fun _ => fun
  | [d1, d2] => { results := [.lit (.bool false)], args := [d1, d2] }
  | _ => none }
def ShareEqualWrongFalsely : Prop := shareEqualRow.holds Try.pinned (OpenSpec.ofChange shareEqualWrong)

/-- 'novationlaw3.ShareOrders': WHATEVER THE INPUT: true; the input reads as it did. -/
def shareOrdersSpec : ChangeSpec := { name := "shareOrders", fn := fun _ => fun
  | [d] => { results := [.lit (.bool true)], args := [d] }
  | _ => none }
def shareOrdersRow : OpenClaim := { program := "ytmapbngbgfdpfaa", sum := "ff96810433d42c57bb3079ce1c53fcda40e3d4e7fb2d08380fc084b303ad62ce", func := "novation/novationlaw3.ShareOrders", spec := "shareOrders", inPlace := ["math/bits.Add64", "math/bits.Sub64", "slices.overlaps[int]"], unfollowed := true, recurses := true, named := ["math/bits.divideError", "math/bits.overflowError"], apart := false }
def ShareOrdersSaid : Prop := shareOrdersRow.holds Try.pinned (OpenSpec.ofChange shareOrdersSpec)

/-- ITS FALSE NEIGHBOUR: 'it returns false'. Refute it at one input. -/
def shareOrdersWrong : ChangeSpec := { name := "shareOrders", fn := fun _ => fun
  | [d] => { results := [.lit (.bool false)], args := [d] }
  | _ => none }
def ShareOrdersWrongFalsely : Prop := shareOrdersRow.holds Try.pinned (OpenSpec.ofChange shareOrdersWrong)

/- THE SECOND FORM. 'bulk': how many values and letters a reading holds, each counted each time it is reached (what is shared counts as often as it is met; a slice's spare places count too). A statement '..UptoSaid' is the law's where the arguments, and the package variables that the reading takes, are together of bulk at most 1048576: NARROWER than '..Said'. Prove '..Said' where nothing that the law and all that it calls make is longer than what came in: it says more and counts as full. Else prove '..UptoSaid'. A law counts once. -/
mutual
def uptoBulk {H : Type} : DataW H → Nat
  | .lit (.string bytes) => bytes.length + 1
  | .lit _ => 1
  | .nil => 1
  | .ptr d => uptoBulk d + 1
  | .slice elems spare => uptoBulkAll elems + uptoBulkAll spare + 1
  | .agg parts => uptoBulkAll parts + 1
  | .iface _ d => uptoBulk d + 1
  | .map entries => uptoBulkEntries entries + 1
  | .held _ => 1
def uptoBulkAll {H : Type} : List (DataW H) → Nat
  | [] => 0
  | d :: r => uptoBulk d + uptoBulkAll r
def uptoBulkEntries {H : Type} : List (Lit × DataW H) → Nat
  | [] => 0
  | x :: r => uptoBulkEntry x + uptoBulkEntries r
def uptoBulkEntry {H : Type} : Lit × DataW H → Nat
  | (.string bytes, d) => bytes.length + uptoBulk d + 1
  | (_, d) => uptoBulk d + 1
 end
def uptoSmall : (H : Type) → List (DataW H) → Bool := fun _ ds => decide (uptoBulkAll ds ≤ 1048576)
def OpenSpec.upto (s : _root_.Go.ChangeSpec) : _root_.Go.OpenSpec := { _root_.Go.OpenSpec.ofChange s with cond := some uptoSmall }

/-- 'novationlaw3.ShareSplits', WHERE WHAT IT READS IS OF BULK AT MOST 1048576: true; the input reads as it did. -/
def shareSplitsUptoRow : OpenClaim := { program := "ytmapbngbgfdpfaa", sum := "ff96810433d42c57bb3079ce1c53fcda40e3d4e7fb2d08380fc084b303ad62ce", func := "novation/novationlaw3.ShareSplits", spec := "shareSplits", inPlace := ["math/bits.Add64", "math/bits.Sub64", "slices.overlaps[int]"], unfollowed := true, recurses := true, named := ["math/bits.divideError", "math/bits.overflowError"], apart := false, narrowed := true }
def ShareSplitsUptoSaid : Prop := shareSplitsUptoRow.holds Try.pinned (OpenSpec.upto shareSplitsSpec)

/-- 'novationlaw3.ShareCaps', WHERE WHAT IT READS IS OF BULK AT MOST 1048576: true; the input reads as it did. -/
def shareCapsUptoRow : OpenClaim := { program := "ytmapbngbgfdpfaa", sum := "ff96810433d42c57bb3079ce1c53fcda40e3d4e7fb2d08380fc084b303ad62ce", func := "novation/novationlaw3.ShareCaps", spec := "shareCaps", inPlace := ["math/bits.Add64", "math/bits.Sub64", "slices.overlaps[int]"], unfollowed := true, recurses := true, named := ["math/bits.divideError", "math/bits.overflowError"], apart := false, narrowed := true }
def ShareCapsUptoSaid : Prop := shareCapsUptoRow.holds Try.pinned (OpenSpec.upto shareCapsSpec)

/-- 'novationlaw3.ShareTotal', WHERE WHAT IT READS IS OF BULK AT MOST 1048576: true; the input reads as it did. -/
def shareTotalUptoRow : OpenClaim := { program := "ytmapbngbgfdpfaa", sum := "ff96810433d42c57bb3079ce1c53fcda40e3d4e7fb2d08380fc084b303ad62ce", func := "novation/novationlaw3.ShareTotal", spec := "shareTotal", inPlace := ["math/bits.Add64", "math/bits.Sub64", "slices.overlaps[int]"], unfollowed := true, recurses := true, named := ["math/bits.divideError", "math/bits.overflowError"], apart := false, narrowed := true }
def ShareTotalUptoSaid : Prop := shareTotalUptoRow.holds Try.pinned (OpenSpec.upto shareTotalSpec)

/-- 'novationlaw3.ShareFull', WHERE WHAT IT READS IS OF BULK AT MOST 1048576: true; the input reads as it did. -/
def shareFullUptoRow : OpenClaim := { program := "ytmapbngbgfdpfaa", sum := "ff96810433d42c57bb3079ce1c53fcda40e3d4e7fb2d08380fc084b303ad62ce", func := "novation/novationlaw3.ShareFull", spec := "shareFull", inPlace := ["math/bits.Add64", "math/bits.Sub64", "slices.overlaps[int]"], unfollowed := true, recurses := true, named := ["math/bits.divideError", "math/bits.overflowError"], apart := false, narrowed := true }
def ShareFullUptoSaid : Prop := shareFullUptoRow.holds Try.pinned (OpenSpec.upto shareFullSpec)

/-- 'novationlaw3.ShareEqual', WHERE WHAT IT READS IS OF BULK AT MOST 1048576: true; the input reads as it did. -/
def shareEqualUptoRow : OpenClaim := { program := "ytmapbngbgfdpfaa", sum := "ff96810433d42c57bb3079ce1c53fcda40e3d4e7fb2d08380fc084b303ad62ce", func := "novation/novationlaw3.ShareEqual", spec := "shareEqual", inPlace := ["math/bits.Add64", "math/bits.Sub64", "slices.overlaps[int]"], unfollowed := true, recurses := true, named := ["math/bits.divideError", "math/bits.overflowError"], apart := false, narrowed := true }
def ShareEqualUptoSaid : Prop := shareEqualUptoRow.holds Try.pinned (OpenSpec.upto shareEqualSpec)

/-- 'novationlaw3.ShareOrders', WHERE WHAT IT READS IS OF BULK AT MOST 1048576: true; the input reads as it did. -/
def shareOrdersUptoRow : OpenClaim := { program := "ytmapbngbgfdpfaa", sum := "ff96810433d42c57bb3079ce1c53fcda40e3d4e7fb2d08380fc084b303ad62ce", func := "novation/novationlaw3.ShareOrders", spec := "shareOrders", inPlace := ["math/bits.Add64", "math/bits.Sub64", "slices.overlaps[int]"], unfollowed := true, recurses := true, named := ["math/bits.divideError", "math/bits.overflowError"], apart := false, narrowed := true }
def ShareOrdersUptoSaid : Prop := shareOrdersUptoRow.holds Try.pinned (OpenSpec.upto shareOrdersSpec)

end Rows
end Go.Proofs.Ytmapbngbgfdpfaa
