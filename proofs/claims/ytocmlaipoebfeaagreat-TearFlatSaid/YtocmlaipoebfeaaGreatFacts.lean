/- A part of the proof of TearFlat of layer 29: closed facts about the translated program. -/
import Derived.Test.YtocmlaipoebfeaaGreatRows
import Derived.WalkKit
import Derived.ProofKit
import Derived.SizedLaws
set_option linter.all false
namespace VM.Ha
open Go Go.Proofs Go.Proofs.YtocmlaipoebfeaaGreat Go.ChangeShapes Go.WideShapes Go.ChangeAt Go.RowKit
set_option maxRecDepth 100000
theorem laidOut:laidOutB Tryz.prog=true:=by kernel_rfl
theorem afu:mapsRowed Tryz.prog=true:=by kernel_rfl
theorem afv:(Tryz.prog.stops==[])=true:=by kernel_rfl
theorem afw:(Tryz.prog.stopKnobs==[])=true:=by kernel_rfl
theorem heard:Tryz.prog.stopsHeard=true:=by kernel_rfl
theorem enter:Tryz.prog.mayEnter=true:=by kernel_rfl
theorem plainKeys:(Rows.tearFlatRow.plainKeys==Tryz.prog.plainKeys)=true:=by kernel_rfl
theorem aqG:(Rows.tearFlatRow.lifted==Tryz.prog.liftsFinal)=true:=by kernel_rfl
theorem make:(Tryz.prog.make==some Rows.tearFlatRow.make)=true:=by kernel_rfl
end VM.Ha
