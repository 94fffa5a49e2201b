/- A part of the proof of HedgeFills of layer 22: closed facts about the translated program. -/
import Derived.Test.YtocmlaipoebfeaaGreatRows
import Derived.WalkKit
import Derived.ProofKit
import Derived.SizedLaws
set_option linter.all false
namespace VM.By
open Go Go.Proofs Go.Proofs.YtocmlaipoebfeaaGreat Go.ChangeShapes Go.WideShapes Go.ChangeAt Go.RowKit
set_option maxRecDepth 100000
theorem laidOut:laidOutB Tryz.prog=true:=by kernel_rfl
theorem Z3:mapsRowed Tryz.prog=true:=by kernel_rfl
theorem Z4:(Tryz.prog.stops==[])=true:=by kernel_rfl
theorem Z5:(Tryz.prog.stopKnobs==[])=true:=by kernel_rfl
theorem heard:Tryz.prog.stopsHeard=true:=by kernel_rfl
theorem enter:Tryz.prog.mayEnter=true:=by kernel_rfl
theorem plainKeys:(Rows.hedgeFillsRow.plainKeys==Tryz.prog.plainKeys)=true:=by kernel_rfl
theorem alo:(Rows.hedgeFillsRow.lifted==Tryz.prog.liftsFinal)=true:=by kernel_rfl
theorem make:(Tryz.prog.make==some Rows.hedgeFillsRow.make)=true:=by kernel_rfl
end VM.By
