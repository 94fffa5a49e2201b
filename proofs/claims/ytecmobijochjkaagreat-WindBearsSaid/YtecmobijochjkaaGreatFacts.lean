/- A part of the proof of WindBears of layer 21: closed facts about the translated program. -/
import Derived.Test.YtecmobijochjkaaGreatRows
import Derived.WalkKit
import Derived.ProofKit
import Derived.SizedLaws
set_option linter.all false
namespace VM.G6
open Go Go.Proofs Go.Proofs.YtecmobijochjkaaGreat Go.ChangeShapes Go.WideShapes Go.ChangeAt Go.RowKit
set_option maxRecDepth 100000
theorem laidOut:laidOutB Tryz.prog=true:=by kernel_rfl
theorem afH:mapsRowed Tryz.prog=true:=by kernel_rfl
theorem afI:(Tryz.prog.stops==[])=true:=by kernel_rfl
theorem afJ:(Tryz.prog.stopKnobs==[])=true:=by kernel_rfl
theorem heard:Tryz.prog.stopsHeard=true:=by kernel_rfl
theorem enter:Tryz.prog.mayEnter=true:=by kernel_rfl
theorem plainKeys:(Rows.windBearsRow.plainKeys==Tryz.prog.plainKeys)=true:=by kernel_rfl
theorem apZ:(Rows.windBearsRow.lifted==Tryz.prog.liftsFinal)=true:=by kernel_rfl
theorem make:(Tryz.prog.make==some Rows.windBearsRow.make)=true:=by kernel_rfl
end VM.G6
