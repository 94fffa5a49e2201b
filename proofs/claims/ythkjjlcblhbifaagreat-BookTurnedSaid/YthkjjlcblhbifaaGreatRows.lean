/-
  No cell of these rows narrows 'for every input' (looked for: loops, veiled, ifaces, maps, wideKeys, modest, calm, conditions, laid).
  DERIVED. THE GIVEN ROWS OF THIS SEAT. 2 by the template 'for every input the law returns true; each argument reads behind the call as it read before'; 0 by the template 'total and deterministic' (their statements: YthkjjlcblhbifaaGreatTotals.lean).
  GIVEN WITH THE SEED: the statements are not yours to turn. If you find one false, say at which input.
  Laid BY PROGRAM, IN A SANDBOX (cutbox-rows.mjs): the forced cells as the released guide's own fill.sh prints them over the translation f21c10ab95d58b24… (all of the seat's roots in one cut). By AI agents, Wed Nov 11 2026. No macro, syntax, notation, axiom, sorry.
-/
import Derived.Test.YthkjjlcblhbifaaGreatChecked
import GoSem.Claim
import GoSem.ClaimJoined
import GoSem.ClaimMapViews
import Derived.JoinedTies
import Derived.KernelRfl
namespace Go.Proofs.YthkjjlcblhbifaaGreat
/- THE CELL 'sum', in the pinned program and in every row, IS THE sha256 OF THE DUMP (.gsa) THAT YthkjjlcblhbifaaGreatProg.lean LOADS. Nothing in Lean hashes anything: it is a label: what it is worth is what the hold of that sum in a sandbox is worth. -/
noncomputable def Tryz.pinned : Pinned := { name := "ythkjjlcblhbifaagreat", sum := "f21c10ab95d58b241158b2c649f4eeb018d744d29227eea47cede038c39b0c98", checked := Tryz.checked }
namespace Rows
def none {H : Type} : Left H := { results := [], args := [] }

/-- 'novationlaw18.BookTurned': WHATEVER THE INPUT: true; the input reads as it did. -/
def bookTurnedSpec : ChangeSpec := { name := "bookTurned", fn := fun _ => fun
  | [d1, d2, d3] => { results := [.lit (.bool true)], args := [d1, d2, d3] }
  | _ => none }
def bookTurnedRow : OpenClaim := { program := "ythkjjlcblhbifaagreat", sum := "f21c10ab95d58b241158b2c649f4eeb018d744d29227eea47cede038c39b0c98", func := "novation/novationlaw18.BookTurned", spec := "bookTurned", inPlace := ["math/bits.Add64", "math/bits.Sub64", "slices.overlaps[novation/api.Pos]", "slices.overlaps[novation/api.Row]"], unfollowed := true, recurses := true, apart := false }
def BookTurnedSaid : Prop := bookTurnedRow.holds Tryz.pinned (OpenSpec.ofChange bookTurnedSpec)

/-- ITS FALSE NEIGHBOUR: 'it returns false'. Refute it at one input. -/
def bookTurnedWrong : ChangeSpec := { name := "bookTurned", fn := fun _ => fun
  | [d1, d2, d3] => { results := [.lit (.bool false)], args := [d1, d2, d3] }
  | _ => none }
def BookTurnedWrongFalsely : Prop := bookTurnedRow.holds Tryz.pinned (OpenSpec.ofChange bookTurnedWrong)

/-- 'novationlaw18.BookAtOnce': WHATEVER THE INPUT: true; the input reads as it did. -/
def bookAtOnceSpec : ChangeSpec := { name := "bookAtOnce", fn := fun _ => fun
  | [d] => { results := [.lit (.bool true)], args := [d] }
  | _ => none }
def bookAtOnceRow : OpenClaim := { program := "ythkjjlcblhbifaagreat", sum := "f21c10ab95d58b241158b2c649f4eeb018d744d29227eea47cede038c39b0c98", func := "novation/novationlaw18.BookAtOnce", spec := "bookAtOnce", inPlace := ["math/bits.Add64", "math/bits.Sub64", "slices.overlaps[novation/api.Pos]", "slices.overlaps[novation/api.Row]"], unfollowed := true, recurses := true, apart := false }
def BookAtOnceSaid : Prop := bookAtOnceRow.holds Tryz.pinned (OpenSpec.ofChange bookAtOnceSpec)

/-- ITS FALSE NEIGHBOUR: 'it returns false'. Refute it at one input. -/
def bookAtOnceWrong : ChangeSpec := { name := "bookAtOnce", fn := fun _ => fun
  | [d] => { results := [.lit (.bool false)], args := [d] }
  | _ => none }
def BookAtOnceWrongFalsely : Prop := bookAtOnceRow.holds Tryz.pinned (OpenSpec.ofChange bookAtOnceWrong)

/- THE SECOND FORM. 'bulk': how many values and letters a reading holds, each counted each time it is reached (what is shared counts as often as it is met; a slice's spare places count too). A statement '..UptoSaid' is the law's where the arguments, and the package variables that the reading takes, are together of bulk at most 1048576: NARROWER than '..Said'. Prove '..Said' where nothing that the law and all that it calls make is longer than what came in: it says more and counts as full. Else prove '..UptoSaid'. A law counts once. -/
mutual
def uptoBulk {H : Type} : DataW H → Nat
  | .lit (.string bytes) => bytes.length + 1
  | .lit _ => 1
  | .nil => 1
  | .ptr d => uptoBulk d + 1
  | .slice elems spare => uptoBulkAll elems + uptoBulkAll spare + 1
  | .agg parts => uptoBulkAll parts + 1
  | .iface _ d => uptoBulk d + 1
  | .map entries => uptoBulkEntries entries + 1
  | .held _ => 1
def uptoBulkAll {H : Type} : List (DataW H) → Nat
  | [] => 0
  | d :: r => uptoBulk d + uptoBulkAll r
def uptoBulkEntries {H : Type} : List (Lit × DataW H) → Nat
  | [] => 0
  | x :: r => uptoBulkEntry x + uptoBulkEntries r
def uptoBulkEntry {H : Type} : Lit × DataW H → Nat
  | (.string bytes, d) => bytes.length + uptoBulk d + 1
  | (_, d) => uptoBulk d + 1
 end
def uptoSmall : (H : Type) → List (DataW H) → Bool := fun _ ds => decide (uptoBulkAll ds ≤ 1048576)
def OpenSpec.upto (s : _root_.Go.ChangeSpec) : _root_.Go.OpenSpec := { _root_.Go.OpenSpec.ofChange s with cond := some uptoSmall }

/-- 'novationlaw18.BookTurned', WHERE WHAT IT READS IS OF BULK AT MOST 1048576: true; the input reads as it did. -/
def bookTurnedUptoRow : OpenClaim := { program := "ythkjjlcblhbifaagreat", sum := "f21c10ab95d58b241158b2c649f4eeb018d744d29227eea47cede038c39b0c98", func := "novation/novationlaw18.BookTurned", spec := "bookTurned", inPlace := ["math/bits.Add64", "math/bits.Sub64", "slices.overlaps[novation/api.Pos]", "slices.overlaps[novation/api.Row]"], unfollowed := true, recurses := true, apart := false, narrowed := true }
def BookTurnedUptoSaid : Prop := bookTurnedUptoRow.holds Tryz.pinned (OpenSpec.upto bookTurnedSpec)

/-- 'novationlaw18.BookAtOnce', WHERE WHAT IT READS IS OF BULK AT MOST 1048576: true; the input reads as it did. -/
def bookAtOnceUptoRow : OpenClaim := { program := "ythkjjlcblhbifaagreat", sum := "f21c10ab95d58b241158b2c649f4eeb018d744d29227eea47cede038c39b0c98", func := "novation/novationlaw18.BookAtOnce", spec := "bookAtOnce", inPlace := ["math/bits.Add64", "math/bits.Sub64", "slices.overlaps[novation/api.Pos]", "slices.overlaps[novation/api.Row]"], unfollowed := true, recurses := true, apart := false, narrowed := true }
def BookAtOnceUptoSaid : Prop := bookAtOnceUptoRow.holds Tryz.pinned (OpenSpec.upto bookAtOnceSpec)

end Rows
end Go.Proofs.YthkjjlcblhbifaaGreat
