/- A part of the proof: FactAppliesB. Conditions: none. -/
import Derived.Test.YtbpegjgpdgeadaaGreatDoorLawBase
namespace Go.Proofs.YtbpegjgpdgeadaaGreatDoor
open Go
set_option maxRecDepth 100000 in
theorem appliesFact1 : (laidOutB Tryz.prog : Bool) = true := by kernel_rfl
set_option maxRecDepth 100000 in
theorem appliesFact5 : ((Rows.torsorAppliesRow.stops == []) : Bool) = true := by kernel_rfl
set_option maxRecDepth 100000 in
theorem appliesFact9 : ((Rows.torsorAppliesRow.inPlace == Tryz.prog.inPlace (3 : FuncId)) : Bool) = true := by kernel_rfl
set_option maxRecDepth 100000 in
theorem appliesFact13 : ((Rows.torsorAppliesRow.maps == (Tryz.f3.params.toList ++ Rows.torsorAppliesSpec.plain.varTypes Tryz.prog).any (Tryz.prog.mapsRec ·)) : Bool) = true := by kernel_rfl
set_option maxRecDepth 100000 in
theorem appliesFact17 : ((Rows.torsorAppliesRow.wideKeys == (Tryz.f3.params.toList ++ Rows.torsorAppliesSpec.plain.varTypes Tryz.prog ++ Tryz.f3.resultTypes.toList).any (Tryz.prog.wideKeysFrom ·)) : Bool) = true := by kernel_rfl
set_option maxRecDepth 100000 in
theorem appliesFact21 : ((Rows.torsorAppliesRow.loopsOut == Tryz.f3.resultTypes.toList.any (Tryz.prog.loopsFrom ·)) : Bool) = true := by kernel_rfl
set_option maxRecDepth 100000 in
theorem appliesFact25 : (Tryz.prog.mayEnter : Bool) = true := by kernel_rfl
set_option maxRecDepth 100000 in
theorem appliesFact29 : ((Rows.torsorAppliesRow.pinned == Rows.torsorAppliesRow.pinnedBy) : Bool) = true := by kernel_rfl
end Go.Proofs.YtbpegjgpdgeadaaGreatDoor
