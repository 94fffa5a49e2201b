/- A part of the proof of BookAll of layer 18: closed facts about the translated program. -/
import Derived.Test.YtfdcmiodcijmmaaGreatRows
import Derived.WalkKit
import Derived.ProofKit
import Derived.SizedLaws
set_option linter.all false
namespace VM.zM
open Go Go.Proofs Go.Proofs.YtfdcmiodcijmmaaGreat Go.ChangeShapes Go.WideShapes Go.ChangeAt Go.RowKit
set_option maxRecDepth 100000
theorem laidOut:laidOutB Tryz.prog=true:=by kernel_rfl
theorem QS:mapsRowed Tryz.prog=true:=by kernel_rfl
theorem QT:(Tryz.prog.stops==[])=true:=by kernel_rfl
theorem QU:(Tryz.prog.stopKnobs==[])=true:=by kernel_rfl
theorem heard:Tryz.prog.stopsHeard=true:=by kernel_rfl
theorem enter:Tryz.prog.mayEnter=true:=by kernel_rfl
theorem plainKeys:(Rows.bookAllRow.plainKeys==Tryz.prog.plainKeys)=true:=by kernel_rfl
theorem ZU:(Rows.bookAllRow.lifted==Tryz.prog.liftsFinal)=true:=by kernel_rfl
theorem make:(Tryz.prog.make==some Rows.bookAllRow.make)=true:=by kernel_rfl
end VM.zM
