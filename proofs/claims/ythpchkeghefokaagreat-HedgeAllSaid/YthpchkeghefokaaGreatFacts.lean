/- A part of the proof of HedgeAll of layer 22: closed facts about the translated program. -/
import Derived.Test.YthpchkeghefokaaGreatRows
import Derived.WalkKit
import Derived.ProofKit
import Derived.SizedLaws
set_option linter.all false
namespace VM.Seat
open Go Go.Proofs Go.Proofs.YthpchkeghefokaaGreat Go.ChangeShapes Go.WideShapes Go.ChangeAt Go.RowKit
set_option maxRecDepth 100000
theorem laidOut : laidOutB Tryz.prog = true := by kernel_rfl
theorem mapsRow : mapsRowed Tryz.prog = true := by kernel_rfl
theorem noStops : (Tryz.prog.stops == []) = true := by kernel_rfl
theorem noKnobs : (Tryz.prog.stopKnobs == []) = true := by kernel_rfl
theorem heard : Tryz.prog.stopsHeard = true := by kernel_rfl
theorem enter : Tryz.prog.mayEnter = true := by kernel_rfl
theorem plainKeys : (Rows.hedgeAllRow.plainKeys == Tryz.prog.plainKeys) = true := by kernel_rfl
theorem lifts : (Rows.hedgeAllRow.lifted == Tryz.prog.liftsFinal) = true := by kernel_rfl
theorem make : (Tryz.prog.make == some Rows.hedgeAllRow.make) = true := by kernel_rfl
end VM.Seat
