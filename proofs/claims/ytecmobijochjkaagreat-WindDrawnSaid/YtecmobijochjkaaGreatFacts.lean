/- A part of the proof of WindDrawn of layer 21: closed facts about the translated program. -/
import Derived.Test.YtecmobijochjkaaGreatRows
import Derived.WalkKit
import Derived.ProofKit
import Derived.SizedLaws
set_option linter.all false
namespace VM.GA
open Go Go.Proofs Go.Proofs.YtecmobijochjkaaGreat Go.ChangeShapes Go.WideShapes Go.ChangeAt Go.RowKit
set_option maxRecDepth 100000
theorem laidOut:laidOutB Tryz.prog=true:=by kernel_rfl
theorem afn:mapsRowed Tryz.prog=true:=by kernel_rfl
theorem afo:(Tryz.prog.stops==[])=true:=by kernel_rfl
theorem afp:(Tryz.prog.stopKnobs==[])=true:=by kernel_rfl
theorem heard:Tryz.prog.stopsHeard=true:=by kernel_rfl
theorem enter:Tryz.prog.mayEnter=true:=by kernel_rfl
theorem plainKeys:(Rows.windDrawnRow.plainKeys==Tryz.prog.plainKeys)=true:=by kernel_rfl
theorem apM:(Rows.windDrawnRow.lifted==Tryz.prog.liftsFinal)=true:=by kernel_rfl
theorem make:(Tryz.prog.make==some Rows.windDrawnRow.make)=true:=by kernel_rfl
end VM.GA
