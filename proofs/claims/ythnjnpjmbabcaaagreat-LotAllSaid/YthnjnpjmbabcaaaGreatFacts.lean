/- A part of the proof of LotAll of layer 23: closed facts about the translated program. -/
import Derived.Test.YthnjnpjmbabcaaaGreatRows
import Derived.WalkKit
import Derived.ProofKit
import Derived.SizedLaws
set_option linter.all false
namespace VM.yC
open Go Go.Proofs Go.Proofs.YthnjnpjmbabcaaaGreat Go.ChangeShapes Go.WideShapes Go.ChangeAt Go.RowKit
set_option maxRecDepth 100000
theorem laidOut:laidOutB Tryz.prog=true:=by kernel_rfl
theorem No:mapsRowed Tryz.prog=true:=by kernel_rfl
theorem Np:(Tryz.prog.stops==[])=true:=by kernel_rfl
theorem Nq:(Tryz.prog.stopKnobs==[])=true:=by kernel_rfl
theorem heard:Tryz.prog.stopsHeard=true:=by kernel_rfl
theorem enter:Tryz.prog.mayEnter=true:=by kernel_rfl
theorem plainKeys:(Rows.lotAllRow.plainKeys==Tryz.prog.plainKeys)=true:=by kernel_rfl
theorem Wg:(Rows.lotAllRow.lifted==Tryz.prog.liftsFinal)=true:=by kernel_rfl
theorem make:(Tryz.prog.make==some Rows.lotAllRow.make)=true:=by kernel_rfl
end VM.yC
