/- A part of the proof: FactKeepsD. Conditions: none. -/
import Derived.Test.YtbpegjgpdgeadaaGreatDoorLawBase
namespace Go.Proofs.YtbpegjgpdgeadaaGreatDoor
open Go
set_option maxRecDepth 100000 in
theorem keepsFact3 : (Tryz.f6.params.all (Tryz.prog.readableRec ·) : Bool) = true := by kernel_rfl
set_option maxRecDepth 100000 in
theorem keepsFact7 : ((Rows.torsorKeepsRow.knobs == []) : Bool) = true := by kernel_rfl
set_option maxRecDepth 100000 in
theorem keepsFact11 : ((Rows.torsorKeepsRow.recurses == Tryz.prog.recurses (6 : FuncId)) : Bool) = true := by kernel_rfl
set_option maxRecDepth 100000 in
theorem keepsFact15 : ((Rows.torsorKeepsRow.mapsOut == Tryz.prog.mapsAmong Tryz.f6.resultTypes.toList) : Bool) = true := by kernel_rfl
set_option maxRecDepth 100000 in
theorem keepsFact19 : (Tryz.f6.resultTypes.all (fun t => Tryz.prog.readableRec t && decide (t < Tryz.prog.types.size)) : Bool) = true := by kernel_rfl
set_option maxRecDepth 100000 in
theorem keepsFact23 : (Rows.torsorKeepsRow.shortTexts.isNone : Bool) = true := by kernel_rfl
set_option maxRecDepth 100000 in
theorem keepsFact27 : ((Tryz.prog.make == some Rows.torsorKeepsRow.make) : Bool) = true := by kernel_rfl
set_option maxRecDepth 100000 in
theorem keepsFact31 : (Rows.torsorKeepsRow.veiledFits Tryz.prog Tryz.f6.params.toList (Tryz.f6.params.toList ++ Rows.torsorKeepsSpec.plain.varTypes Tryz.prog ++ Tryz.f6.resultTypes.toList) : Bool) = true := by kernel_rfl
end Go.Proofs.YtbpegjgpdgeadaaGreatDoor
