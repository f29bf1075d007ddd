/- A part of the proof: FactFormsD. Conditions: none. -/
import Derived.Test.YtbpegjgpdgeadaaGreatDoorLawBase
namespace Go.Proofs.YtbpegjgpdgeadaaGreatDoor
open Go
set_option maxRecDepth 100000 in
theorem formsFact3 : (Tryz.f4.params.all (Tryz.prog.readableRec ·) : Bool) = true := by kernel_rfl
set_option maxRecDepth 100000 in
theorem formsFact7 : ((Rows.torsorFormsRow.knobs == []) : Bool) = true := by kernel_rfl
set_option maxRecDepth 100000 in
theorem formsFact11 : ((Rows.torsorFormsRow.recurses == Tryz.prog.recurses (4 : FuncId)) : Bool) = true := by kernel_rfl
set_option maxRecDepth 100000 in
theorem formsFact15 : ((Rows.torsorFormsRow.mapsOut == Tryz.prog.mapsAmong Tryz.f4.resultTypes.toList) : Bool) = true := by kernel_rfl
set_option maxRecDepth 100000 in
theorem formsFact19 : (Tryz.f4.resultTypes.all (fun t => Tryz.prog.readableRec t && decide (t < Tryz.prog.types.size)) : Bool) = true := by kernel_rfl
set_option maxRecDepth 100000 in
theorem formsFact23 : (Rows.torsorFormsRow.shortTexts.isNone : Bool) = true := by kernel_rfl
set_option maxRecDepth 100000 in
theorem formsFact27 : ((Tryz.prog.make == some Rows.torsorFormsRow.make) : Bool) = true := by kernel_rfl
set_option maxRecDepth 100000 in
theorem formsFact31 : (Rows.torsorFormsRow.veiledFits Tryz.prog Tryz.f4.params.toList (Tryz.f4.params.toList ++ Rows.torsorFormsSpec.plain.varTypes Tryz.prog ++ Tryz.f4.resultTypes.toList) : Bool) = true := by kernel_rfl
end Go.Proofs.YtbpegjgpdgeadaaGreatDoor
