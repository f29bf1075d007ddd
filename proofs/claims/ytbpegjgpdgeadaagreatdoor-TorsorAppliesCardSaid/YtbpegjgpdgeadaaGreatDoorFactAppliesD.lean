/- A part of the proof: FactAppliesD. Conditions: none. -/
import Derived.Test.YtbpegjgpdgeadaaGreatDoorLawBase
namespace Go.Proofs.YtbpegjgpdgeadaaGreatDoor
open Go
set_option maxRecDepth 100000 in
theorem appliesFact3 : (Tryz.f3.params.all (Tryz.prog.readableRec ·) : Bool) = true := by kernel_rfl
set_option maxRecDepth 100000 in
theorem appliesFact7 : ((Rows.torsorAppliesRow.knobs == []) : Bool) = true := by kernel_rfl
set_option maxRecDepth 100000 in
theorem appliesFact11 : ((Rows.torsorAppliesRow.recurses == Tryz.prog.recurses (3 : FuncId)) : Bool) = true := by kernel_rfl
set_option maxRecDepth 100000 in
theorem appliesFact15 : ((Rows.torsorAppliesRow.mapsOut == Tryz.prog.mapsAmong Tryz.f3.resultTypes.toList) : Bool) = true := by kernel_rfl
set_option maxRecDepth 100000 in
theorem appliesFact19 : (Tryz.f3.resultTypes.all (fun t => Tryz.prog.readableRec t && decide (t < Tryz.prog.types.size)) : Bool) = true := by kernel_rfl
set_option maxRecDepth 100000 in
theorem appliesFact23 : (Rows.torsorAppliesRow.shortTexts.isNone : Bool) = true := by kernel_rfl
set_option maxRecDepth 100000 in
theorem appliesFact27 : ((Tryz.prog.make == some Rows.torsorAppliesRow.make) : Bool) = true := by kernel_rfl
set_option maxRecDepth 100000 in
theorem appliesFact31 : (Rows.torsorAppliesRow.veiledFits Tryz.prog Tryz.f3.params.toList (Tryz.f3.params.toList ++ Rows.torsorAppliesSpec.plain.varTypes Tryz.prog ++ Tryz.f3.resultTypes.toList) : Bool) = true := by kernel_rfl
end Go.Proofs.YtbpegjgpdgeadaaGreatDoor
