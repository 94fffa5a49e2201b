/- A part of the proof of WindEmpty of layer 21: closed facts about the translated program. -/
import Derived.Test.YtecmobijochjkaaGreatRows
import Derived.WalkKit
import Derived.ProofKit
import Derived.SizedLaws
set_option linter.all false
namespace VM.GY
open Go Go.Proofs Go.Proofs.YtecmobijochjkaaGreat Go.ChangeShapes Go.WideShapes Go.ChangeAt Go.RowKit
set_option maxRecDepth 100000
theorem laidOut:laidOutB Tryz.prog=true:=by kernel_rfl
theorem afF:mapsRowed Tryz.prog=true:=by kernel_rfl
theorem afG:(Tryz.prog.stops==[])=true:=by kernel_rfl
theorem afH:(Tryz.prog.stopKnobs==[])=true:=by kernel_rfl
theorem heard:Tryz.prog.stopsHeard=true:=by kernel_rfl
theorem enter:Tryz.prog.mayEnter=true:=by kernel_rfl
theorem plainKeys:(Rows.windEmptyRow.plainKeys==Tryz.prog.plainKeys)=true:=by kernel_rfl
theorem apW:(Rows.windEmptyRow.lifted==Tryz.prog.liftsFinal)=true:=by kernel_rfl
theorem make:(Tryz.prog.make==some Rows.windEmptyRow.make)=true:=by kernel_rfl
end VM.GY
