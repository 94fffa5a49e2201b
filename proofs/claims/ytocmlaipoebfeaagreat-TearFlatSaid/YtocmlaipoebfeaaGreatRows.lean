/-
  No cell of these rows narrows 'for every input' (looked for: loops, veiled, ifaces, maps, wideKeys, modest, calm, conditions, laid).
  DERIVED. THE GIVEN ROWS OF THIS SEAT. 9 by the template 'for every input the law returns true; each argument reads behind the call as it read before'; 0 by the template 'total and deterministic' (their statements: YtocmlaipoebfeaaGreatTotals.lean).
  GIVEN WITH THE SEED: the statements are not yours to turn. If you find one false, say at which input.
  Laid BY PROGRAM, IN A SANDBOX (cutbox-rows.mjs): the forced cells as the released guide's own fill.sh prints them over the translation fc93a971e589cbb3… (all of the seat's roots in one cut). By AI agents, Wed Nov 11 2026. No macro, syntax, notation, axiom, sorry.
-/
import Derived.Test.YtocmlaipoebfeaaGreatChecked
import GoSem.Claim
import GoSem.ClaimJoined
import GoSem.ClaimMapViews
import Derived.JoinedTies
import Derived.KernelRfl
namespace Go.Proofs.YtocmlaipoebfeaaGreat
/- THE CELL 'sum', in the pinned program and in every row, IS THE sha256 OF THE DUMP (.gsa) THAT YtocmlaipoebfeaaGreatProg.lean LOADS. Nothing in Lean hashes anything: it is a label: what it is worth is what the hold of that sum in a sandbox is worth. -/
noncomputable def Tryz.pinned : Pinned := { name := "ytocmlaipoebfeaagreat", sum := "fc93a971e589cbb3343fb82290991795c04ce677c1ee3e41ef55e193f9852322", checked := Tryz.checked }
namespace Rows
def none {H : Type} : Left H := { results := [], args := [] }

/-- 'novationlaw25.AwardDrawn': WHATEVER THE INPUT: true; the input reads as it did. -/
def awardDrawnSpec : ChangeSpec := { name := "awardDrawn", fn := fun _ => fun
  | [d] => { results := [.lit (.bool true)], args := [d] }
  | _ => none }
def awardDrawnRow : OpenClaim := { program := "ytocmlaipoebfeaagreat", sum := "fc93a971e589cbb3343fb82290991795c04ce677c1ee3e41ef55e193f9852322", func := "novation/novationlaw25.AwardDrawn", spec := "awardDrawn", inPlace := ["math/bits.Add64", "slices.overlaps[novation/api.Pos]", "slices.overlaps[novation/api.Row]"], unfollowed := true, recurses := true, apart := false }
def AwardDrawnSaid : Prop := awardDrawnRow.holds Tryz.pinned (OpenSpec.ofChange awardDrawnSpec)

/-- ITS FALSE NEIGHBOUR: 'it returns false'. Refute it at one input. -/
def awardDrawnWrong : ChangeSpec := { name := "awardDrawn", fn := fun _ => fun
  | [d] => { results := [.lit (.bool false)], args := [d] }
  | _ => none }
def AwardDrawnWrongFalsely : Prop := awardDrawnRow.holds Tryz.pinned (OpenSpec.ofChange awardDrawnWrong)

/-- 'novationlaw25.AwardBest': WHATEVER THE INPUT: true; the input reads as it did. -/
def awardBestSpec : ChangeSpec := { name := "awardBest", fn := fun _ => fun
  | [d] => { results := [.lit (.bool true)], args := [d] }
  | _ => none }
def awardBestRow : OpenClaim := { program := "ytocmlaipoebfeaagreat", sum := "fc93a971e589cbb3343fb82290991795c04ce677c1ee3e41ef55e193f9852322", func := "novation/novationlaw25.AwardBest", spec := "awardBest", inPlace := ["math/bits.Add64", "slices.overlaps[novation/api.Pos]", "slices.overlaps[novation/api.Row]"], unfollowed := true, recurses := true, apart := false }
def AwardBestSaid : Prop := awardBestRow.holds Tryz.pinned (OpenSpec.ofChange awardBestSpec)

/-- ITS FALSE NEIGHBOUR: 'it returns false'. Refute it at one input. -/
def awardBestWrong : ChangeSpec := { name := "awardBest", fn := fun _ => fun
  | [d] => { results := [.lit (.bool false)], args := [d] }
  | _ => none }
def AwardBestWrongFalsely : Prop := awardBestRow.holds Tryz.pinned (OpenSpec.ofChange awardBestWrong)

/-- 'novationlaw25.AwardPays': WHATEVER THE INPUT: true; the input reads as it did. -/
def awardPaysSpec : ChangeSpec := { name := "awardPays", fn := fun _ => fun
  | [d] => { results := [.lit (.bool true)], args := [d] }
  | _ => none }
def awardPaysRow : OpenClaim := { program := "ytocmlaipoebfeaagreat", sum := "fc93a971e589cbb3343fb82290991795c04ce677c1ee3e41ef55e193f9852322", func := "novation/novationlaw25.AwardPays", spec := "awardPays", inPlace := ["math/bits.Add64", "slices.overlaps[novation/api.Pos]", "slices.overlaps[novation/api.Row]"], unfollowed := true, recurses := true, apart := false }
def AwardPaysSaid : Prop := awardPaysRow.holds Tryz.pinned (OpenSpec.ofChange awardPaysSpec)

/-- ITS FALSE NEIGHBOUR: 'it returns false'. Refute it at one input. -/
def awardPaysWrong : ChangeSpec := { name := "awardPays", fn := fun _ => fun
  | [d] => { results := [.lit (.bool false)], args := [d] }
  | _ => none }
def AwardPaysWrongFalsely : Prop := awardPaysRow.holds Tryz.pinned (OpenSpec.ofChange awardPaysWrong)

/-- 'novationlaw29.TearDrawn': WHATEVER THE INPUT: true; the input reads as it did. -/
def tearDrawnSpec : ChangeSpec := { name := "tearDrawn", fn := fun _ => fun
  | [d] => { results := [.lit (.bool true)], args := [d] }
  | _ => none }
def tearDrawnRow : OpenClaim := { program := "ytocmlaipoebfeaagreat", sum := "fc93a971e589cbb3343fb82290991795c04ce677c1ee3e41ef55e193f9852322", func := "novation/novationlaw29.TearDrawn", spec := "tearDrawn", inPlace := ["math/bits.Add64", "math/bits.Sub64", "slices.overlaps[int]", "slices.overlaps[novation/api.Pos]", "slices.overlaps[novation/api.Row]"], unfollowed := true, recurses := true, named := ["math/bits.divideError", "math/bits.overflowError"], apart := false }
def TearDrawnSaid : Prop := tearDrawnRow.holds Tryz.pinned (OpenSpec.ofChange tearDrawnSpec)

/-- ITS FALSE NEIGHBOUR: 'it returns false'. Refute it at one input. -/
def tearDrawnWrong : ChangeSpec := { name := "tearDrawn", fn := fun _ => fun
  | [d] => { results := [.lit (.bool false)], args := [d] }
  | _ => none }
def TearDrawnWrongFalsely : Prop := tearDrawnRow.holds Tryz.pinned (OpenSpec.ofChange tearDrawnWrong)

/-- 'novationlaw29.TearFlat': WHATEVER THE INPUT: true; the input reads as it did. -/
def tearFlatSpec : ChangeSpec := { name := "tearFlat", fn := fun _ => fun
  | [d] => { results := [.lit (.bool true)], args := [d] }
  | _ => none }
def tearFlatRow : OpenClaim := { program := "ytocmlaipoebfeaagreat", sum := "fc93a971e589cbb3343fb82290991795c04ce677c1ee3e41ef55e193f9852322", func := "novation/novationlaw29.TearFlat", spec := "tearFlat", inPlace := ["math/bits.Add64", "math/bits.Sub64", "slices.overlaps[int]", "slices.overlaps[novation/api.Pos]", "slices.overlaps[novation/api.Row]"], unfollowed := true, recurses := true, named := ["math/bits.divideError", "math/bits.overflowError"], apart := false }
def TearFlatSaid : Prop := tearFlatRow.holds Tryz.pinned (OpenSpec.ofChange tearFlatSpec)

/-- ITS FALSE NEIGHBOUR: 'it returns false'. Refute it at one input. -/
def tearFlatWrong : ChangeSpec := { name := "tearFlat", fn := fun _ => fun
  | [d] => { results := [.lit (.bool false)], args := [d] }
  | _ => none }
def TearFlatWrongFalsely : Prop := tearFlatRow.holds Tryz.pinned (OpenSpec.ofChange tearFlatWrong)

/-- 'novationlaw29.TearShares': WHATEVER THE INPUT: true; the input reads as it did. -/
def tearSharesSpec : ChangeSpec := { name := "tearShares", fn := fun _ => fun
  | [d1, d2] => { results := [.lit (.bool true)], args := [d1, d2] }
  | _ => none }
def tearSharesRow : OpenClaim := { program := "ytocmlaipoebfeaagreat", sum := "fc93a971e589cbb3343fb82290991795c04ce677c1ee3e41ef55e193f9852322", func := "novation/novationlaw29.TearShares", spec := "tearShares", inPlace := ["math/bits.Add64", "math/bits.Sub64", "slices.overlaps[int]", "slices.overlaps[novation/api.Pos]", "slices.overlaps[novation/api.Row]"], unfollowed := true, recurses := true, named := ["math/bits.divideError", "math/bits.overflowError"], apart := false }
def TearSharesSaid : Prop := tearSharesRow.holds Tryz.pinned (OpenSpec.ofChange tearSharesSpec)

/-- ITS FALSE NEIGHBOUR: 'it returns false'. Refute it at one input. -/
def tearSharesWrong : ChangeSpec := { name := "tearShares", fn := fun _ => fun
  | [d1, d2] => { results := [.lit (.bool false)], args := [d1, d2] }
  | _ => none }
def TearSharesWrongFalsely : Prop := tearSharesRow.holds Tryz.pinned (OpenSpec.ofChange tearSharesWrong)

/-- 'novationlaw22.HedgeDrawn': WHATEVER THE INPUT: true; the input reads as it did. -/
def hedgeDrawnSpec : ChangeSpec := { name := "hedgeDrawn", fn := fun _ => fun
  | [d1, d2] => { results := [.lit (.bool true)], args := [d1, d2] }
  | _ => none }
def hedgeDrawnRow : OpenClaim := { program := "ytocmlaipoebfeaagreat", sum := "fc93a971e589cbb3343fb82290991795c04ce677c1ee3e41ef55e193f9852322", func := "novation/novationlaw22.HedgeDrawn", spec := "hedgeDrawn", inPlace := ["math/bits.Add64", "math/bits.Sub64", "slices.overlaps[novation/api.Open]", "slices.overlaps[novation/api.Pos]", "slices.overlaps[novation/api.Row]"], unfollowed := true, recurses := true, named := ["math/bits.divideError", "math/bits.overflowError"], apart := false }
def HedgeDrawnSaid : Prop := hedgeDrawnRow.holds Tryz.pinned (OpenSpec.ofChange hedgeDrawnSpec)

/-- ITS FALSE NEIGHBOUR: 'it returns false'. Refute it at one input. -/
def hedgeDrawnWrong : ChangeSpec := { name := "hedgeDrawn", fn := fun _ => fun
  | [d1, d2] => { results := [.lit (.bool false)], args := [d1, d2] }
  | _ => none }
def HedgeDrawnWrongFalsely : Prop := hedgeDrawnRow.holds Tryz.pinned (OpenSpec.ofChange hedgeDrawnWrong)

/-- 'novationlaw22.HedgeLess': WHATEVER THE INPUT: true; the input reads as it did. -/
def hedgeLessSpec : ChangeSpec := { name := "hedgeLess", fn := fun _ => fun
  | [d] => { results := [.lit (.bool true)], args := [d] }
  | _ => none }
def hedgeLessRow : OpenClaim := { program := "ytocmlaipoebfeaagreat", sum := "fc93a971e589cbb3343fb82290991795c04ce677c1ee3e41ef55e193f9852322", func := "novation/novationlaw22.HedgeLess", spec := "hedgeLess", inPlace := ["math/bits.Add64", "math/bits.Sub64", "slices.overlaps[novation/api.Open]", "slices.overlaps[novation/api.Pos]", "slices.overlaps[novation/api.Row]"], unfollowed := true, recurses := true, named := ["math/bits.divideError", "math/bits.overflowError"], apart := false }
def HedgeLessSaid : Prop := hedgeLessRow.holds Tryz.pinned (OpenSpec.ofChange hedgeLessSpec)

/-- ITS FALSE NEIGHBOUR: 'it returns false'. Refute it at one input. -/
def hedgeLessWrong : ChangeSpec := { name := "hedgeLess", fn := fun _ => fun
  | [d] => { results := [.lit (.bool false)], args := [d] }
  | _ => none }
def HedgeLessWrongFalsely : Prop := hedgeLessRow.holds Tryz.pinned (OpenSpec.ofChange hedgeLessWrong)

/-- 'novationlaw22.HedgeFills': WHATEVER THE INPUT: true; the input reads as it did. -/
def hedgeFillsSpec : ChangeSpec := { name := "hedgeFills", fn := fun _ => fun
  | [d] => { results := [.lit (.bool true)], args := [d] }
  | _ => none }
def hedgeFillsRow : OpenClaim := { program := "ytocmlaipoebfeaagreat", sum := "fc93a971e589cbb3343fb82290991795c04ce677c1ee3e41ef55e193f9852322", func := "novation/novationlaw22.HedgeFills", spec := "hedgeFills", inPlace := ["math/bits.Add64", "math/bits.Sub64", "slices.overlaps[novation/api.Open]", "slices.overlaps[novation/api.Pos]", "slices.overlaps[novation/api.Row]"], unfollowed := true, recurses := true, named := ["math/bits.divideError", "math/bits.overflowError"], apart := false }
def HedgeFillsSaid : Prop := hedgeFillsRow.holds Tryz.pinned (OpenSpec.ofChange hedgeFillsSpec)

/-- ITS FALSE NEIGHBOUR: 'it returns false'. Refute it at one input. -/
def hedgeFillsWrong : ChangeSpec := { name := "hedgeFills", fn := fun _ => fun
  | [d] => { results := [.lit (.bool false)], args := [d] }
  | _ => none }
def HedgeFillsWrongFalsely : Prop := hedgeFillsRow.holds Tryz.pinned (OpenSpec.ofChange hedgeFillsWrong)

/- THE SECOND FORM. 'bulk': how many values and letters a reading holds, each counted each time it is reached (what is shared counts as often as it is met; a slice's spare places count too). A statement '..UptoSaid' is the law's where the arguments, and the package variables that the reading takes, are together of bulk at most 1048576: NARROWER than '..Said'. Prove '..Said' where nothing that the law and all that it calls make is longer than what came in: it says more and counts as full. Else prove '..UptoSaid'. A law counts once. -/
mutual
def uptoBulk {H : Type} : DataW H → Nat
  | .lit (.string bytes) => bytes.length + 1
  | .lit _ => 1
  | .nil => 1
  | .ptr d => uptoBulk d + 1
  | .slice elems spare => uptoBulkAll elems + uptoBulkAll spare + 1
  | .agg parts => uptoBulkAll parts + 1
  | .iface _ d => uptoBulk d + 1
  | .map entries => uptoBulkEntries entries + 1
  | .held _ => 1
def uptoBulkAll {H : Type} : List (DataW H) → Nat
  | [] => 0
  | d :: r => uptoBulk d + uptoBulkAll r
def uptoBulkEntries {H : Type} : List (Lit × DataW H) → Nat
  | [] => 0
  | x :: r => uptoBulkEntry x + uptoBulkEntries r
def uptoBulkEntry {H : Type} : Lit × DataW H → Nat
  | (.string bytes, d) => bytes.length + uptoBulk d + 1
  | (_, d) => uptoBulk d + 1
 end
def uptoSmall : (H : Type) → List (DataW H) → Bool := fun _ ds => decide (uptoBulkAll ds ≤ 1048576)
def OpenSpec.upto (s : _root_.Go.ChangeSpec) : _root_.Go.OpenSpec := { _root_.Go.OpenSpec.ofChange s with cond := some uptoSmall }

/-- 'novationlaw25.AwardDrawn', WHERE WHAT IT READS IS OF BULK AT MOST 1048576: true; the input reads as it did. -/
def awardDrawnUptoRow : OpenClaim := { program := "ytocmlaipoebfeaagreat", sum := "fc93a971e589cbb3343fb82290991795c04ce677c1ee3e41ef55e193f9852322", func := "novation/novationlaw25.AwardDrawn", spec := "awardDrawn", inPlace := ["math/bits.Add64", "slices.overlaps[novation/api.Pos]", "slices.overlaps[novation/api.Row]"], unfollowed := true, recurses := true, apart := false, narrowed := true }
def AwardDrawnUptoSaid : Prop := awardDrawnUptoRow.holds Tryz.pinned (OpenSpec.upto awardDrawnSpec)

/-- 'novationlaw25.AwardBest', WHERE WHAT IT READS IS OF BULK AT MOST 1048576: true; the input reads as it did. -/
def awardBestUptoRow : OpenClaim := { program := "ytocmlaipoebfeaagreat", sum := "fc93a971e589cbb3343fb82290991795c04ce677c1ee3e41ef55e193f9852322", func := "novation/novationlaw25.AwardBest", spec := "awardBest", inPlace := ["math/bits.Add64", "slices.overlaps[novation/api.Pos]", "slices.overlaps[novation/api.Row]"], unfollowed := true, recurses := true, apart := false, narrowed := true }
def AwardBestUptoSaid : Prop := awardBestUptoRow.holds Tryz.pinned (OpenSpec.upto awardBestSpec)

/-- 'novationlaw25.AwardPays', WHERE WHAT IT READS IS OF BULK AT MOST 1048576: true; the input reads as it did. -/
def awardPaysUptoRow : OpenClaim := { program := "ytocmlaipoebfeaagreat", sum := "fc93a971e589cbb3343fb82290991795c04ce677c1ee3e41ef55e193f9852322", func := "novation/novationlaw25.AwardPays", spec := "awardPays", inPlace := ["math/bits.Add64", "slices.overlaps[novation/api.Pos]", "slices.overlaps[novation/api.Row]"], unfollowed := true, recurses := true, apart := false, narrowed := true }
def AwardPaysUptoSaid : Prop := awardPaysUptoRow.holds Tryz.pinned (OpenSpec.upto awardPaysSpec)

/-- 'novationlaw29.TearDrawn', WHERE WHAT IT READS IS OF BULK AT MOST 1048576: true; the input reads as it did. -/
def tearDrawnUptoRow : OpenClaim := { program := "ytocmlaipoebfeaagreat", sum := "fc93a971e589cbb3343fb82290991795c04ce677c1ee3e41ef55e193f9852322", func := "novation/novationlaw29.TearDrawn", spec := "tearDrawn", inPlace := ["math/bits.Add64", "math/bits.Sub64", "slices.overlaps[int]", "slices.overlaps[novation/api.Pos]", "slices.overlaps[novation/api.Row]"], unfollowed := true, recurses := true, named := ["math/bits.divideError", "math/bits.overflowError"], apart := false, narrowed := true }
def TearDrawnUptoSaid : Prop := tearDrawnUptoRow.holds Tryz.pinned (OpenSpec.upto tearDrawnSpec)

/-- 'novationlaw29.TearFlat', WHERE WHAT IT READS IS OF BULK AT MOST 1048576: true; the input reads as it did. -/
def tearFlatUptoRow : OpenClaim := { program := "ytocmlaipoebfeaagreat", sum := "fc93a971e589cbb3343fb82290991795c04ce677c1ee3e41ef55e193f9852322", func := "novation/novationlaw29.TearFlat", spec := "tearFlat", inPlace := ["math/bits.Add64", "math/bits.Sub64", "slices.overlaps[int]", "slices.overlaps[novation/api.Pos]", "slices.overlaps[novation/api.Row]"], unfollowed := true, recurses := true, named := ["math/bits.divideError", "math/bits.overflowError"], apart := false, narrowed := true }
def TearFlatUptoSaid : Prop := tearFlatUptoRow.holds Tryz.pinned (OpenSpec.upto tearFlatSpec)

/-- 'novationlaw29.TearShares', WHERE WHAT IT READS IS OF BULK AT MOST 1048576: true; the input reads as it did. -/
def tearSharesUptoRow : OpenClaim := { program := "ytocmlaipoebfeaagreat", sum := "fc93a971e589cbb3343fb82290991795c04ce677c1ee3e41ef55e193f9852322", func := "novation/novationlaw29.TearShares", spec := "tearShares", inPlace := ["math/bits.Add64", "math/bits.Sub64", "slices.overlaps[int]", "slices.overlaps[novation/api.Pos]", "slices.overlaps[novation/api.Row]"], unfollowed := true, recurses := true, named := ["math/bits.divideError", "math/bits.overflowError"], apart := false, narrowed := true }
def TearSharesUptoSaid : Prop := tearSharesUptoRow.holds Tryz.pinned (OpenSpec.upto tearSharesSpec)

/-- 'novationlaw22.HedgeDrawn', WHERE WHAT IT READS IS OF BULK AT MOST 1048576: true; the input reads as it did. -/
def hedgeDrawnUptoRow : OpenClaim := { program := "ytocmlaipoebfeaagreat", sum := "fc93a971e589cbb3343fb82290991795c04ce677c1ee3e41ef55e193f9852322", func := "novation/novationlaw22.HedgeDrawn", spec := "hedgeDrawn", inPlace := ["math/bits.Add64", "math/bits.Sub64", "slices.overlaps[novation/api.Open]", "slices.overlaps[novation/api.Pos]", "slices.overlaps[novation/api.Row]"], unfollowed := true, recurses := true, named := ["math/bits.divideError", "math/bits.overflowError"], apart := false, narrowed := true }
def HedgeDrawnUptoSaid : Prop := hedgeDrawnUptoRow.holds Tryz.pinned (OpenSpec.upto hedgeDrawnSpec)

/-- 'novationlaw22.HedgeLess', WHERE WHAT IT READS IS OF BULK AT MOST 1048576: true; the input reads as it did. -/
def hedgeLessUptoRow : OpenClaim := { program := "ytocmlaipoebfeaagreat", sum := "fc93a971e589cbb3343fb82290991795c04ce677c1ee3e41ef55e193f9852322", func := "novation/novationlaw22.HedgeLess", spec := "hedgeLess", inPlace := ["math/bits.Add64", "math/bits.Sub64", "slices.overlaps[novation/api.Open]", "slices.overlaps[novation/api.Pos]", "slices.overlaps[novation/api.Row]"], unfollowed := true, recurses := true, named := ["math/bits.divideError", "math/bits.overflowError"], apart := false, narrowed := true }
def HedgeLessUptoSaid : Prop := hedgeLessUptoRow.holds Tryz.pinned (OpenSpec.upto hedgeLessSpec)

/-- 'novationlaw22.HedgeFills', WHERE WHAT IT READS IS OF BULK AT MOST 1048576: true; the input reads as it did. -/
def hedgeFillsUptoRow : OpenClaim := { program := "ytocmlaipoebfeaagreat", sum := "fc93a971e589cbb3343fb82290991795c04ce677c1ee3e41ef55e193f9852322", func := "novation/novationlaw22.HedgeFills", spec := "hedgeFills", inPlace := ["math/bits.Add64", "math/bits.Sub64", "slices.overlaps[novation/api.Open]", "slices.overlaps[novation/api.Pos]", "slices.overlaps[novation/api.Row]"], unfollowed := true, recurses := true, named := ["math/bits.divideError", "math/bits.overflowError"], apart := false, narrowed := true }
def HedgeFillsUptoSaid : Prop := hedgeFillsUptoRow.holds Tryz.pinned (OpenSpec.upto hedgeFillsSpec)

end Rows
end Go.Proofs.YtocmlaipoebfeaaGreat
