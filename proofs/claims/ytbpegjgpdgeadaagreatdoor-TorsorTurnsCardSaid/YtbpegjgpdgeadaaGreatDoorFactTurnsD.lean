/- A part of the proof: FactTurnsD. Conditions: none. -/
import Derived.Test.YtbpegjgpdgeadaaGreatDoorLawBase
namespace Go.Proofs.YtbpegjgpdgeadaaGreatDoor
open Go
set_option maxRecDepth 100000 in
theorem turnsFact3 : (Tryz.f5.params.all (Tryz.prog.readableRec ·) : Bool) = true := by kernel_rfl
set_option maxRecDepth 100000 in
theorem turnsFact7 : ((Rows.torsorTurnsRow.knobs == []) : Bool) = true := by kernel_rfl
set_option maxRecDepth 100000 in
theorem turnsFact11 : ((Rows.torsorTurnsRow.recurses == Tryz.prog.recurses (5 : FuncId)) : Bool) = true := by kernel_rfl
set_option maxRecDepth 100000 in
theorem turnsFact15 : ((Rows.torsorTurnsRow.mapsOut == Tryz.prog.mapsAmong Tryz.f5.resultTypes.toList) : Bool) = true := by kernel_rfl
set_option maxRecDepth 100000 in
theorem turnsFact19 : (Tryz.f5.resultTypes.all (fun t => Tryz.prog.readableRec t && decide (t < Tryz.prog.types.size)) : Bool) = true := by kernel_rfl
set_option maxRecDepth 100000 in
theorem turnsFact23 : (Rows.torsorTurnsRow.shortTexts.isNone : Bool) = true := by kernel_rfl
set_option maxRecDepth 100000 in
theorem turnsFact27 : ((Tryz.prog.make == some Rows.torsorTurnsRow.make) : Bool) = true := by kernel_rfl
set_option maxRecDepth 100000 in
theorem turnsFact31 : (Rows.torsorTurnsRow.veiledFits Tryz.prog Tryz.f5.params.toList (Tryz.f5.params.toList ++ Rows.torsorTurnsSpec.plain.varTypes Tryz.prog ++ Tryz.f5.resultTypes.toList) : Bool) = true := by kernel_rfl
end Go.Proofs.YtbpegjgpdgeadaaGreatDoor
