/-
  No cell of these rows narrows 'for every input' (looked for: loops, veiled, ifaces, maps, wideKeys, modest, calm, conditions, laid).
  DERIVED. THE GIVEN ROWS OF THIS SEAT. 12 by the template 'for every input the law returns true; each argument reads behind the call as it read before'; 0 by the template 'total and deterministic' (their statements: YtnkhdmeoclffaaaGreatTotals.lean).
  GIVEN WITH THE SEED: the statements are not yours to turn. If you find one false, say at which input.
  Laid BY PROGRAM, IN A SANDBOX (cutbox-rows.mjs): the forced cells as the released guide's own fill.sh prints them over the translation 84b24981b4017a55… (all of the seat's roots in one cut). By AI agents, Wed Nov 11 2026. No macro, syntax, notation, axiom, sorry.
-/
import Derived.Test.YtnkhdmeoclffaaaGreatChecked
import GoSem.Claim
import GoSem.ClaimJoined
import GoSem.ClaimMapViews
import Derived.JoinedTies
import Derived.KernelRfl
namespace Go.Proofs.YtnkhdmeoclffaaaGreat
/- THE CELL 'sum', in the pinned program and in every row, IS THE sha256 OF THE DUMP (.gsa) THAT YtnkhdmeoclffaaaGreatProg.lean LOADS. Nothing in Lean hashes anything: it is a label: what it is worth is what the hold of that sum in a sandbox is worth. -/
noncomputable def Tryz.pinned : Pinned := { name := "ytnkhdmeoclffaaagreat", sum := "84b24981b4017a5543c228f5c91d46f47b8e190d3fbc0bb507b544ba78927fed", checked := Tryz.checked }
namespace Rows
def none {H : Type} : Left H := { results := [], args := [] }

/-- 'novationlaw25.AwardAll': WHATEVER THE INPUT: true; the input reads as it did. -/
def awardAllSpec : ChangeSpec := { name := "awardAll", fn := fun _ => fun
  | [d1, d2, d3, d4, d5] => { results := [.lit (.bool true)], args := [d1, d2, d3, d4, d5] }
  | _ => none }
def awardAllRow : OpenClaim := { program := "ytnkhdmeoclffaaagreat", sum := "84b24981b4017a5543c228f5c91d46f47b8e190d3fbc0bb507b544ba78927fed", func := "novation/novationlaw25.AwardAll", spec := "awardAll", inPlace := ["math/bits.Add64", "slices.overlaps[novation/api.Pos]", "slices.overlaps[novation/api.Row]"], unfollowed := true, recurses := true, apart := false }
def AwardAllSaid : Prop := awardAllRow.holds Tryz.pinned (OpenSpec.ofChange awardAllSpec)

/-- ITS FALSE NEIGHBOUR: 'it returns false'. Refute it at one input. -/
def awardAllWrong : ChangeSpec := { name := "awardAll", fn := fun _ => fun
  | [d1, d2, d3, d4, d5] => { results := [.lit (.bool false)], args := [d1, d2, d3, d4, d5] }
  | _ => none }
def AwardAllWrongFalsely : Prop := awardAllRow.holds Tryz.pinned (OpenSpec.ofChange awardAllWrong)

/-- 'novationlaw25.AwardDrawn': WHATEVER THE INPUT: true; the input reads as it did. -/
def awardDrawnSpec : ChangeSpec := { name := "awardDrawn", fn := fun _ => fun
  | [d] => { results := [.lit (.bool true)], args := [d] }
  | _ => none }
def awardDrawnRow : OpenClaim := { program := "ytnkhdmeoclffaaagreat", sum := "84b24981b4017a5543c228f5c91d46f47b8e190d3fbc0bb507b544ba78927fed", func := "novation/novationlaw25.AwardDrawn", spec := "awardDrawn", inPlace := ["math/bits.Add64", "slices.overlaps[novation/api.Pos]", "slices.overlaps[novation/api.Row]"], unfollowed := true, recurses := true, apart := false }
def AwardDrawnSaid : Prop := awardDrawnRow.holds Tryz.pinned (OpenSpec.ofChange awardDrawnSpec)

/-- ITS FALSE NEIGHBOUR: 'it returns false'. Refute it at one input. -/
def awardDrawnWrong : ChangeSpec := { name := "awardDrawn", fn := fun _ => fun
  | [d] => { results := [.lit (.bool false)], args := [d] }
  | _ => none }
def AwardDrawnWrongFalsely : Prop := awardDrawnRow.holds Tryz.pinned (OpenSpec.ofChange awardDrawnWrong)

/-- 'novationlaw25.AwardBest': WHATEVER THE INPUT: true; the input reads as it did. -/
def awardBestSpec : ChangeSpec := { name := "awardBest", fn := fun _ => fun
  | [d] => { results := [.lit (.bool true)], args := [d] }
  | _ => none }
def awardBestRow : OpenClaim := { program := "ytnkhdmeoclffaaagreat", sum := "84b24981b4017a5543c228f5c91d46f47b8e190d3fbc0bb507b544ba78927fed", func := "novation/novationlaw25.AwardBest", spec := "awardBest", inPlace := ["math/bits.Add64", "slices.overlaps[novation/api.Pos]", "slices.overlaps[novation/api.Row]"], unfollowed := true, recurses := true, apart := false }
def AwardBestSaid : Prop := awardBestRow.holds Tryz.pinned (OpenSpec.ofChange awardBestSpec)

/-- ITS FALSE NEIGHBOUR: 'it returns false'. Refute it at one input. -/
def awardBestWrong : ChangeSpec := { name := "awardBest", fn := fun _ => fun
  | [d] => { results := [.lit (.bool false)], args := [d] }
  | _ => none }
def AwardBestWrongFalsely : Prop := awardBestRow.holds Tryz.pinned (OpenSpec.ofChange awardBestWrong)

/-- 'novationlaw25.AwardPays': WHATEVER THE INPUT: true; the input reads as it did. -/
def awardPaysSpec : ChangeSpec := { name := "awardPays", fn := fun _ => fun
  | [d] => { results := [.lit (.bool true)], args := [d] }
  | _ => none }
def awardPaysRow : OpenClaim := { program := "ytnkhdmeoclffaaagreat", sum := "84b24981b4017a5543c228f5c91d46f47b8e190d3fbc0bb507b544ba78927fed", func := "novation/novationlaw25.AwardPays", spec := "awardPays", inPlace := ["math/bits.Add64", "slices.overlaps[novation/api.Pos]", "slices.overlaps[novation/api.Row]"], unfollowed := true, recurses := true, apart := false }
def AwardPaysSaid : Prop := awardPaysRow.holds Tryz.pinned (OpenSpec.ofChange awardPaysSpec)

/-- ITS FALSE NEIGHBOUR: 'it returns false'. Refute it at one input. -/
def awardPaysWrong : ChangeSpec := { name := "awardPays", fn := fun _ => fun
  | [d] => { results := [.lit (.bool false)], args := [d] }
  | _ => none }
def AwardPaysWrongFalsely : Prop := awardPaysRow.holds Tryz.pinned (OpenSpec.ofChange awardPaysWrong)

/-- 'novationlaw21.WindAll': WHATEVER THE INPUT: true; the input reads as it did. -/
def windAllSpec : ChangeSpec := { name := "windAll", fn := fun _ => fun
  | [d1, d2, d3, d4] => { results := [.lit (.bool true)], args := [d1, d2, d3, d4] }
  | _ => none }
def windAllRow : OpenClaim := { program := "ytnkhdmeoclffaaagreat", sum := "84b24981b4017a5543c228f5c91d46f47b8e190d3fbc0bb507b544ba78927fed", func := "novation/novationlaw21.WindAll", spec := "windAll", inPlace := ["math/bits.Add64", "math/bits.Sub64", "slices.overlaps[novation/api.Pos]", "slices.overlaps[novation/api.Row]"], unfollowed := true, recurses := true, apart := false }
def WindAllSaid : Prop := windAllRow.holds Tryz.pinned (OpenSpec.ofChange windAllSpec)

/-- ITS FALSE NEIGHBOUR: 'it returns false'. Refute it at one input. -/
def windAllWrong : ChangeSpec := { name := "windAll", fn := fun _ => fun
  | [d1, d2, d3, d4] => { results := [.lit (.bool false)], args := [d1, d2, d3, d4] }
  | _ => none }
def WindAllWrongFalsely : Prop := windAllRow.holds Tryz.pinned (OpenSpec.ofChange windAllWrong)

/-- 'novationlaw21.WindDrawn': WHATEVER THE INPUT: true; the input reads as it did. -/
def windDrawnSpec : ChangeSpec := { name := "windDrawn", fn := fun _ => fun
  | [d] => { results := [.lit (.bool true)], args := [d] }
  | _ => none }
def windDrawnRow : OpenClaim := { program := "ytnkhdmeoclffaaagreat", sum := "84b24981b4017a5543c228f5c91d46f47b8e190d3fbc0bb507b544ba78927fed", func := "novation/novationlaw21.WindDrawn", spec := "windDrawn", inPlace := ["math/bits.Add64", "math/bits.Sub64", "slices.overlaps[novation/api.Pos]", "slices.overlaps[novation/api.Row]"], unfollowed := true, recurses := true, apart := false }
def WindDrawnSaid : Prop := windDrawnRow.holds Tryz.pinned (OpenSpec.ofChange windDrawnSpec)

/-- ITS FALSE NEIGHBOUR: 'it returns false'. Refute it at one input. -/
def windDrawnWrong : ChangeSpec := { name := "windDrawn", fn := fun _ => fun
  | [d] => { results := [.lit (.bool false)], args := [d] }
  | _ => none }
def WindDrawnWrongFalsely : Prop := windDrawnRow.holds Tryz.pinned (OpenSpec.ofChange windDrawnWrong)

/-- 'novationlaw21.WindEmpty': WHATEVER THE INPUT: true; the input reads as it did. -/
def windEmptySpec : ChangeSpec := { name := "windEmpty", fn := fun _ => fun
  | [d1, d2] => { results := [.lit (.bool true)], args := [d1, d2] }
  | _ => none }
def windEmptyRow : OpenClaim := { program := "ytnkhdmeoclffaaagreat", sum := "84b24981b4017a5543c228f5c91d46f47b8e190d3fbc0bb507b544ba78927fed", func := "novation/novationlaw21.WindEmpty", spec := "windEmpty", inPlace := ["math/bits.Add64", "math/bits.Sub64", "slices.overlaps[novation/api.Pos]", "slices.overlaps[novation/api.Row]"], unfollowed := true, recurses := true, apart := false }
def WindEmptySaid : Prop := windEmptyRow.holds Tryz.pinned (OpenSpec.ofChange windEmptySpec)

/-- ITS FALSE NEIGHBOUR: 'it returns false'. Refute it at one input. -/
def windEmptyWrong : ChangeSpec := { name := "windEmpty", fn := fun _ => fun
  | [d1, d2] => { results := [.lit (.bool false)], args := [d1, d2] }
  | _ => none }
def WindEmptyWrongFalsely : Prop := windEmptyRow.holds Tryz.pinned (OpenSpec.ofChange windEmptyWrong)

/-- 'novationlaw21.WindBears': WHATEVER THE INPUT: true; the input reads as it did. -/
def windBearsSpec : ChangeSpec := { name := "windBears", fn := fun _ => fun
  | [d1, d2] => { results := [.lit (.bool true)], args := [d1, d2] }
  | _ => none }
def windBearsRow : OpenClaim := { program := "ytnkhdmeoclffaaagreat", sum := "84b24981b4017a5543c228f5c91d46f47b8e190d3fbc0bb507b544ba78927fed", func := "novation/novationlaw21.WindBears", spec := "windBears", inPlace := ["math/bits.Add64", "math/bits.Sub64", "slices.overlaps[novation/api.Pos]", "slices.overlaps[novation/api.Row]"], unfollowed := true, recurses := true, apart := false }
def WindBearsSaid : Prop := windBearsRow.holds Tryz.pinned (OpenSpec.ofChange windBearsSpec)

/-- ITS FALSE NEIGHBOUR: 'it returns false'. Refute it at one input. -/
def windBearsWrong : ChangeSpec := { name := "windBears", fn := fun _ => fun
  | [d1, d2] => { results := [.lit (.bool false)], args := [d1, d2] }
  | _ => none }
def WindBearsWrongFalsely : Prop := windBearsRow.holds Tryz.pinned (OpenSpec.ofChange windBearsWrong)

/-- 'novationlaw21.WindTwice': WHATEVER THE INPUT: true; the input reads as it did. -/
def windTwiceSpec : ChangeSpec := { name := "windTwice", fn := fun _ => fun
  | [d1, d2] => { results := [.lit (.bool true)], args := [d1, d2] }
  | _ => none }
def windTwiceRow : OpenClaim := { program := "ytnkhdmeoclffaaagreat", sum := "84b24981b4017a5543c228f5c91d46f47b8e190d3fbc0bb507b544ba78927fed", func := "novation/novationlaw21.WindTwice", spec := "windTwice", inPlace := ["math/bits.Add64", "math/bits.Sub64", "slices.overlaps[novation/api.Pos]", "slices.overlaps[novation/api.Row]"], unfollowed := true, recurses := true, apart := false }
def WindTwiceSaid : Prop := windTwiceRow.holds Tryz.pinned (OpenSpec.ofChange windTwiceSpec)

/-- ITS FALSE NEIGHBOUR: 'it returns false'. Refute it at one input. -/
def windTwiceWrong : ChangeSpec := { name := "windTwice", fn := fun _ => fun
  | [d1, d2] => { results := [.lit (.bool false)], args := [d1, d2] }
  | _ => none }
def WindTwiceWrongFalsely : Prop := windTwiceRow.holds Tryz.pinned (OpenSpec.ofChange windTwiceWrong)

/-- 'novationlaw29.TearAll': WHATEVER THE INPUT: true; the input reads as it did. -/
def tearAllSpec : ChangeSpec := { name := "tearAll", fn := fun _ => fun
  | [d1, d2, d3] => { results := [.lit (.bool true)], args := [d1, d2, d3] }
  | _ => none }
def tearAllRow : OpenClaim := { program := "ytnkhdmeoclffaaagreat", sum := "84b24981b4017a5543c228f5c91d46f47b8e190d3fbc0bb507b544ba78927fed", func := "novation/novationlaw29.TearAll", spec := "tearAll", inPlace := ["math/bits.Add64", "math/bits.Sub64", "slices.overlaps[int]", "slices.overlaps[novation/api.Pos]", "slices.overlaps[novation/api.Row]"], unfollowed := true, recurses := true, named := ["math/bits.divideError", "math/bits.overflowError"], apart := false }
def TearAllSaid : Prop := tearAllRow.holds Tryz.pinned (OpenSpec.ofChange tearAllSpec)

/-- ITS FALSE NEIGHBOUR: 'it returns false'. Refute it at one input. -/
def tearAllWrong : ChangeSpec := { name := "tearAll", fn := fun _ => fun
  | [d1, d2, d3] => { results := [.lit (.bool false)], args := [d1, d2, d3] }
  | _ => none }
def TearAllWrongFalsely : Prop := tearAllRow.holds Tryz.pinned (OpenSpec.ofChange tearAllWrong)

/-- 'novationlaw29.TearDrawn': WHATEVER THE INPUT: true; the input reads as it did. -/
def tearDrawnSpec : ChangeSpec := { name := "tearDrawn", fn := fun _ => fun
  | [d] => { results := [.lit (.bool true)], args := [d] }
  | _ => none }
def tearDrawnRow : OpenClaim := { program := "ytnkhdmeoclffaaagreat", sum := "84b24981b4017a5543c228f5c91d46f47b8e190d3fbc0bb507b544ba78927fed", func := "novation/novationlaw29.TearDrawn", spec := "tearDrawn", inPlace := ["math/bits.Add64", "math/bits.Sub64", "slices.overlaps[int]", "slices.overlaps[novation/api.Pos]", "slices.overlaps[novation/api.Row]"], unfollowed := true, recurses := true, named := ["math/bits.divideError", "math/bits.overflowError"], apart := false }
def TearDrawnSaid : Prop := tearDrawnRow.holds Tryz.pinned (OpenSpec.ofChange tearDrawnSpec)

/-- ITS FALSE NEIGHBOUR: 'it returns false'. Refute it at one input. -/
def tearDrawnWrong : ChangeSpec := { name := "tearDrawn", fn := fun _ => fun
  | [d] => { results := [.lit (.bool false)], args := [d] }
  | _ => none }
def TearDrawnWrongFalsely : Prop := tearDrawnRow.holds Tryz.pinned (OpenSpec.ofChange tearDrawnWrong)

/-- 'novationlaw29.TearFlat': WHATEVER THE INPUT: true; the input reads as it did. -/
def tearFlatSpec : ChangeSpec := { name := "tearFlat", fn := fun _ => fun
  | [d] => { results := [.lit (.bool true)], args := [d] }
  | _ => none }
def tearFlatRow : OpenClaim := { program := "ytnkhdmeoclffaaagreat", sum := "84b24981b4017a5543c228f5c91d46f47b8e190d3fbc0bb507b544ba78927fed", func := "novation/novationlaw29.TearFlat", spec := "tearFlat", inPlace := ["math/bits.Add64", "math/bits.Sub64", "slices.overlaps[int]", "slices.overlaps[novation/api.Pos]", "slices.overlaps[novation/api.Row]"], unfollowed := true, recurses := true, named := ["math/bits.divideError", "math/bits.overflowError"], apart := false }
def TearFlatSaid : Prop := tearFlatRow.holds Tryz.pinned (OpenSpec.ofChange tearFlatSpec)

/-- ITS FALSE NEIGHBOUR: 'it returns false'. Refute it at one input. -/
def tearFlatWrong : ChangeSpec := { name := "tearFlat", fn := fun _ => fun
  | [d] => { results := [.lit (.bool false)], args := [d] }
  | _ => none }
def TearFlatWrongFalsely : Prop := tearFlatRow.holds Tryz.pinned (OpenSpec.ofChange tearFlatWrong)

/- THE SECOND FORM. 'bulk': how many values and letters a reading holds, each counted each time it is reached (what is shared counts as often as it is met; a slice's spare places count too). A statement '..UptoSaid' is the law's where the arguments, and the package variables that the reading takes, are together of bulk at most 1048576: NARROWER than '..Said'. Prove '..Said' where nothing that the law and all that it calls make is longer than what came in: it says more and counts as full. Else prove '..UptoSaid'. A law counts once. -/
mutual
def uptoBulk {H : Type} : DataW H → Nat
  | .lit (.string bytes) => bytes.length + 1
  | .lit _ => 1
  | .nil => 1
  | .ptr d => uptoBulk d + 1
  | .slice elems spare => uptoBulkAll elems + uptoBulkAll spare + 1
  | .agg parts => uptoBulkAll parts + 1
  | .iface _ d => uptoBulk d + 1
  | .map entries => uptoBulkEntries entries + 1
  | .held _ => 1
def uptoBulkAll {H : Type} : List (DataW H) → Nat
  | [] => 0
  | d :: r => uptoBulk d + uptoBulkAll r
def uptoBulkEntries {H : Type} : List (Lit × DataW H) → Nat
  | [] => 0
  | x :: r => uptoBulkEntry x + uptoBulkEntries r
def uptoBulkEntry {H : Type} : Lit × DataW H → Nat
  | (.string bytes, d) => bytes.length + uptoBulk d + 1
  | (_, d) => uptoBulk d + 1
 end
def uptoSmall : (H : Type) → List (DataW H) → Bool := fun _ ds => decide (uptoBulkAll ds ≤ 1048576)
def OpenSpec.upto (s : _root_.Go.ChangeSpec) : _root_.Go.OpenSpec := { _root_.Go.OpenSpec.ofChange s with cond := some uptoSmall }

/-- 'novationlaw25.AwardAll', WHERE WHAT IT READS IS OF BULK AT MOST 1048576: true; the input reads as it did. -/
def awardAllUptoRow : OpenClaim := { program := "ytnkhdmeoclffaaagreat", sum := "84b24981b4017a5543c228f5c91d46f47b8e190d3fbc0bb507b544ba78927fed", func := "novation/novationlaw25.AwardAll", spec := "awardAll", inPlace := ["math/bits.Add64", "slices.overlaps[novation/api.Pos]", "slices.overlaps[novation/api.Row]"], unfollowed := true, recurses := true, apart := false, narrowed := true }
def AwardAllUptoSaid : Prop := awardAllUptoRow.holds Tryz.pinned (OpenSpec.upto awardAllSpec)

/-- 'novationlaw25.AwardDrawn', WHERE WHAT IT READS IS OF BULK AT MOST 1048576: true; the input reads as it did. -/
def awardDrawnUptoRow : OpenClaim := { program := "ytnkhdmeoclffaaagreat", sum := "84b24981b4017a5543c228f5c91d46f47b8e190d3fbc0bb507b544ba78927fed", func := "novation/novationlaw25.AwardDrawn", spec := "awardDrawn", inPlace := ["math/bits.Add64", "slices.overlaps[novation/api.Pos]", "slices.overlaps[novation/api.Row]"], unfollowed := true, recurses := true, apart := false, narrowed := true }
def AwardDrawnUptoSaid : Prop := awardDrawnUptoRow.holds Tryz.pinned (OpenSpec.upto awardDrawnSpec)

/-- 'novationlaw25.AwardBest', WHERE WHAT IT READS IS OF BULK AT MOST 1048576: true; the input reads as it did. -/
def awardBestUptoRow : OpenClaim := { program := "ytnkhdmeoclffaaagreat", sum := "84b24981b4017a5543c228f5c91d46f47b8e190d3fbc0bb507b544ba78927fed", func := "novation/novationlaw25.AwardBest", spec := "awardBest", inPlace := ["math/bits.Add64", "slices.overlaps[novation/api.Pos]", "slices.overlaps[novation/api.Row]"], unfollowed := true, recurses := true, apart := false, narrowed := true }
def AwardBestUptoSaid : Prop := awardBestUptoRow.holds Tryz.pinned (OpenSpec.upto awardBestSpec)

/-- 'novationlaw25.AwardPays', WHERE WHAT IT READS IS OF BULK AT MOST 1048576: true; the input reads as it did. -/
def awardPaysUptoRow : OpenClaim := { program := "ytnkhdmeoclffaaagreat", sum := "84b24981b4017a5543c228f5c91d46f47b8e190d3fbc0bb507b544ba78927fed", func := "novation/novationlaw25.AwardPays", spec := "awardPays", inPlace := ["math/bits.Add64", "slices.overlaps[novation/api.Pos]", "slices.overlaps[novation/api.Row]"], unfollowed := true, recurses := true, apart := false, narrowed := true }
def AwardPaysUptoSaid : Prop := awardPaysUptoRow.holds Tryz.pinned (OpenSpec.upto awardPaysSpec)

/-- 'novationlaw21.WindAll', WHERE WHAT IT READS IS OF BULK AT MOST 1048576: true; the input reads as it did. -/
def windAllUptoRow : OpenClaim := { program := "ytnkhdmeoclffaaagreat", sum := "84b24981b4017a5543c228f5c91d46f47b8e190d3fbc0bb507b544ba78927fed", func := "novation/novationlaw21.WindAll", spec := "windAll", inPlace := ["math/bits.Add64", "math/bits.Sub64", "slices.overlaps[novation/api.Pos]", "slices.overlaps[novation/api.Row]"], unfollowed := true, recurses := true, apart := false, narrowed := true }
def WindAllUptoSaid : Prop := windAllUptoRow.holds Tryz.pinned (OpenSpec.upto windAllSpec)

/-- 'novationlaw21.WindDrawn', WHERE WHAT IT READS IS OF BULK AT MOST 1048576: true; the input reads as it did. -/
def windDrawnUptoRow : OpenClaim := { program := "ytnkhdmeoclffaaagreat", sum := "84b24981b4017a5543c228f5c91d46f47b8e190d3fbc0bb507b544ba78927fed", func := "novation/novationlaw21.WindDrawn", spec := "windDrawn", inPlace := ["math/bits.Add64", "math/bits.Sub64", "slices.overlaps[novation/api.Pos]", "slices.overlaps[novation/api.Row]"], unfollowed := true, recurses := true, apart := false, narrowed := true }
def WindDrawnUptoSaid : Prop := windDrawnUptoRow.holds Tryz.pinned (OpenSpec.upto windDrawnSpec)

/-- 'novationlaw21.WindEmpty', WHERE WHAT IT READS IS OF BULK AT MOST 1048576: true; the input reads as it did. -/
def windEmptyUptoRow : OpenClaim := { program := "ytnkhdmeoclffaaagreat", sum := "84b24981b4017a5543c228f5c91d46f47b8e190d3fbc0bb507b544ba78927fed", func := "novation/novationlaw21.WindEmpty", spec := "windEmpty", inPlace := ["math/bits.Add64", "math/bits.Sub64", "slices.overlaps[novation/api.Pos]", "slices.overlaps[novation/api.Row]"], unfollowed := true, recurses := true, apart := false, narrowed := true }
def WindEmptyUptoSaid : Prop := windEmptyUptoRow.holds Tryz.pinned (OpenSpec.upto windEmptySpec)

/-- 'novationlaw21.WindBears', WHERE WHAT IT READS IS OF BULK AT MOST 1048576: true; the input reads as it did. -/
def windBearsUptoRow : OpenClaim := { program := "ytnkhdmeoclffaaagreat", sum := "84b24981b4017a5543c228f5c91d46f47b8e190d3fbc0bb507b544ba78927fed", func := "novation/novationlaw21.WindBears", spec := "windBears", inPlace := ["math/bits.Add64", "math/bits.Sub64", "slices.overlaps[novation/api.Pos]", "slices.overlaps[novation/api.Row]"], unfollowed := true, recurses := true, apart := false, narrowed := true }
def WindBearsUptoSaid : Prop := windBearsUptoRow.holds Tryz.pinned (OpenSpec.upto windBearsSpec)

/-- 'novationlaw21.WindTwice', WHERE WHAT IT READS IS OF BULK AT MOST 1048576: true; the input reads as it did. -/
def windTwiceUptoRow : OpenClaim := { program := "ytnkhdmeoclffaaagreat", sum := "84b24981b4017a5543c228f5c91d46f47b8e190d3fbc0bb507b544ba78927fed", func := "novation/novationlaw21.WindTwice", spec := "windTwice", inPlace := ["math/bits.Add64", "math/bits.Sub64", "slices.overlaps[novation/api.Pos]", "slices.overlaps[novation/api.Row]"], unfollowed := true, recurses := true, apart := false, narrowed := true }
def WindTwiceUptoSaid : Prop := windTwiceUptoRow.holds Tryz.pinned (OpenSpec.upto windTwiceSpec)

/-- 'novationlaw29.TearAll', WHERE WHAT IT READS IS OF BULK AT MOST 1048576: true; the input reads as it did. -/
def tearAllUptoRow : OpenClaim := { program := "ytnkhdmeoclffaaagreat", sum := "84b24981b4017a5543c228f5c91d46f47b8e190d3fbc0bb507b544ba78927fed", func := "novation/novationlaw29.TearAll", spec := "tearAll", inPlace := ["math/bits.Add64", "math/bits.Sub64", "slices.overlaps[int]", "slices.overlaps[novation/api.Pos]", "slices.overlaps[novation/api.Row]"], unfollowed := true, recurses := true, named := ["math/bits.divideError", "math/bits.overflowError"], apart := false, narrowed := true }
def TearAllUptoSaid : Prop := tearAllUptoRow.holds Tryz.pinned (OpenSpec.upto tearAllSpec)

/-- 'novationlaw29.TearDrawn', WHERE WHAT IT READS IS OF BULK AT MOST 1048576: true; the input reads as it did. -/
def tearDrawnUptoRow : OpenClaim := { program := "ytnkhdmeoclffaaagreat", sum := "84b24981b4017a5543c228f5c91d46f47b8e190d3fbc0bb507b544ba78927fed", func := "novation/novationlaw29.TearDrawn", spec := "tearDrawn", inPlace := ["math/bits.Add64", "math/bits.Sub64", "slices.overlaps[int]", "slices.overlaps[novation/api.Pos]", "slices.overlaps[novation/api.Row]"], unfollowed := true, recurses := true, named := ["math/bits.divideError", "math/bits.overflowError"], apart := false, narrowed := true }
def TearDrawnUptoSaid : Prop := tearDrawnUptoRow.holds Tryz.pinned (OpenSpec.upto tearDrawnSpec)

/-- 'novationlaw29.TearFlat', WHERE WHAT IT READS IS OF BULK AT MOST 1048576: true; the input reads as it did. -/
def tearFlatUptoRow : OpenClaim := { program := "ytnkhdmeoclffaaagreat", sum := "84b24981b4017a5543c228f5c91d46f47b8e190d3fbc0bb507b544ba78927fed", func := "novation/novationlaw29.TearFlat", spec := "tearFlat", inPlace := ["math/bits.Add64", "math/bits.Sub64", "slices.overlaps[int]", "slices.overlaps[novation/api.Pos]", "slices.overlaps[novation/api.Row]"], unfollowed := true, recurses := true, named := ["math/bits.divideError", "math/bits.overflowError"], apart := false, narrowed := true }
def TearFlatUptoSaid : Prop := tearFlatUptoRow.holds Tryz.pinned (OpenSpec.upto tearFlatSpec)

end Rows
end Go.Proofs.YtnkhdmeoclffaaaGreat
