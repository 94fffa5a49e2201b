/- A part of the proof of BookTwo of layer 18: closed facts about the translated program. -/
import Derived.Test.YtecmobijochjkaaGreatRows
import Derived.WalkKit
import Derived.ProofKit
import Derived.SizedLaws
set_option linter.all false
namespace VM.IX
open Go Go.Proofs Go.Proofs.YtecmobijochjkaaGreat Go.ChangeShapes Go.WideShapes Go.ChangeAt Go.RowKit
set_option maxRecDepth 100000
theorem laidOut:laidOutB Tryz.prog=true:=by kernel_rfl
theorem aiJ:mapsRowed Tryz.prog=true:=by kernel_rfl
theorem aiK:(Tryz.prog.stops==[])=true:=by kernel_rfl
theorem aiL:(Tryz.prog.stopKnobs==[])=true:=by kernel_rfl
theorem heard:Tryz.prog.stopsHeard=true:=by kernel_rfl
theorem enter:Tryz.prog.mayEnter=true:=by kernel_rfl
theorem plainKeys:(Rows.bookTwoRow.plainKeys==Tryz.prog.plainKeys)=true:=by kernel_rfl
theorem auo:(Rows.bookTwoRow.lifted==Tryz.prog.liftsFinal)=true:=by kernel_rfl
theorem make:(Tryz.prog.make==some Rows.bookTwoRow.make)=true:=by kernel_rfl
end VM.IX
