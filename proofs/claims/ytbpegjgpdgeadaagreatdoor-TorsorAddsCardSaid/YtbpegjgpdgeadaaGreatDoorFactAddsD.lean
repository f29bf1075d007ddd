/- A part of the proof: FactAddsD. Conditions: none. -/
import Derived.Test.YtbpegjgpdgeadaaGreatDoorLawBase
namespace Go.Proofs.YtbpegjgpdgeadaaGreatDoor
open Go
set_option maxRecDepth 100000 in
theorem addsFact3 : (Tryz.f7.params.all (Tryz.prog.readableRec ·) : Bool) = true := by kernel_rfl
set_option maxRecDepth 100000 in
theorem addsFact7 : ((Rows.torsorAddsRow.knobs == []) : Bool) = true := by kernel_rfl
set_option maxRecDepth 100000 in
theorem addsFact11 : ((Rows.torsorAddsRow.recurses == Tryz.prog.recurses (7 : FuncId)) : Bool) = true := by kernel_rfl
set_option maxRecDepth 100000 in
theorem addsFact15 : ((Rows.torsorAddsRow.mapsOut == Tryz.prog.mapsAmong Tryz.f7.resultTypes.toList) : Bool) = true := by kernel_rfl
set_option maxRecDepth 100000 in
theorem addsFact19 : (Tryz.f7.resultTypes.all (fun t => Tryz.prog.readableRec t && decide (t < Tryz.prog.types.size)) : Bool) = true := by kernel_rfl
set_option maxRecDepth 100000 in
theorem addsFact23 : (Rows.torsorAddsRow.shortTexts.isNone : Bool) = true := by kernel_rfl
set_option maxRecDepth 100000 in
theorem addsFact27 : ((Tryz.prog.make == some Rows.torsorAddsRow.make) : Bool) = true := by kernel_rfl
set_option maxRecDepth 100000 in
theorem addsFact31 : (Rows.torsorAddsRow.veiledFits Tryz.prog Tryz.f7.params.toList (Tryz.f7.params.toList ++ Rows.torsorAddsSpec.plain.varTypes Tryz.prog ++ Tryz.f7.resultTypes.toList) : Bool) = true := by kernel_rfl
end Go.Proofs.YtbpegjgpdgeadaaGreatDoor
