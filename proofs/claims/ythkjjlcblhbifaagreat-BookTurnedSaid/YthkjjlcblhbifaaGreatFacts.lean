/- A part of the proof of BookTurned of layer 18: closed facts about the translated program. -/
import Derived.Test.YthkjjlcblhbifaaGreatRows
import Derived.WalkKit
import Derived.ProofKit
import Derived.SizedLaws
set_option linter.all false
namespace VM.Jh
open Go Go.Proofs Go.Proofs.YthkjjlcblhbifaaGreat Go.ChangeShapes Go.WideShapes Go.ChangeAt Go.RowKit
set_option maxRecDepth 100000
theorem laidOut:laidOutB Tryz.prog=true:=by kernel_rfl
theorem aiB:mapsRowed Tryz.prog=true:=by kernel_rfl
theorem aiC:(Tryz.prog.stops==[])=true:=by kernel_rfl
theorem aiD:(Tryz.prog.stopKnobs==[])=true:=by kernel_rfl
theorem heard:Tryz.prog.stopsHeard=true:=by kernel_rfl
theorem enter:Tryz.prog.mayEnter=true:=by kernel_rfl
theorem plainKeys:(Rows.bookTurnedRow.plainKeys==Tryz.prog.plainKeys)=true:=by kernel_rfl
theorem aup:(Rows.bookTurnedRow.lifted==Tryz.prog.liftsFinal)=true:=by kernel_rfl
theorem make:(Tryz.prog.make==some Rows.bookTurnedRow.make)=true:=by kernel_rfl
end VM.Jh
