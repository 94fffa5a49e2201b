/- A part of the proof of LotEven of layer 23: closed facts about the translated program. -/
import Derived.Test.YthnjnpjmbabcaaaGreatRows
import Derived.WalkKit
import Derived.ProofKit
import Derived.SizedLaws
set_option linter.all false
namespace VM.HX
open Go Go.Proofs Go.Proofs.YthnjnpjmbabcaaaGreat Go.ChangeShapes Go.WideShapes Go.ChangeAt Go.RowKit
set_option maxRecDepth 100000
theorem laidOut:laidOutB Tryz.prog=true:=by kernel_rfl
theorem afm:mapsRowed Tryz.prog=true:=by kernel_rfl
theorem afn:(Tryz.prog.stops==[])=true:=by kernel_rfl
theorem afo:(Tryz.prog.stopKnobs==[])=true:=by kernel_rfl
theorem heard:Tryz.prog.stopsHeard=true:=by kernel_rfl
theorem enter:Tryz.prog.mayEnter=true:=by kernel_rfl
theorem plainKeys:(Rows.lotEvenRow.plainKeys==Tryz.prog.plainKeys)=true:=by kernel_rfl
theorem aqM:(Rows.lotEvenRow.lifted==Tryz.prog.liftsFinal)=true:=by kernel_rfl
theorem make:(Tryz.prog.make==some Rows.lotEvenRow.make)=true:=by kernel_rfl
end VM.HX
