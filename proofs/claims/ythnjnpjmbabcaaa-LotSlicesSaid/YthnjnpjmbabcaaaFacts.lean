/- A part of the proof of LotSlices of layer 23: closed facts about the translated program. -/
import Derived.Test.YthnjnpjmbabcaaaRows
import Derived.WalkKit
import Derived.ProofKit
import Derived.SizedLaws
set_option linter.all false
namespace VM.vp
open Go Go.Proofs Go.Proofs.Ythnjnpjmbabcaaa Go.ChangeShapes Go.WideShapes Go.ChangeAt Go.RowKit
set_option maxRecDepth 100000
theorem laidOut:laidOutB Try.prog=true:=by kernel_rfl
theorem IC:mapsRowed Try.prog=true:=by kernel_rfl
theorem ID:(Try.prog.stops==[])=true:=by kernel_rfl
theorem IE:(Try.prog.stopKnobs==[])=true:=by kernel_rfl
theorem heard:Try.prog.stopsHeard=true:=by kernel_rfl
theorem enter:Try.prog.mayEnter=true:=by kernel_rfl
theorem plainKeys:(Rows.lotSlicesRow.plainKeys==Try.prog.plainKeys)=true:=by kernel_rfl
theorem PS:(Rows.lotSlicesRow.lifted==Try.prog.liftsFinal)=true:=by kernel_rfl
theorem make:(Try.prog.make==some Rows.lotSlicesRow.make)=true:=by kernel_rfl
end VM.vp
