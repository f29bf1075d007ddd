/- A part of the proof: FactKeepsB. Conditions: none. -/
import Derived.Test.YtbpegjgpdgeadaaGreatDoorLawBase
namespace Go.Proofs.YtbpegjgpdgeadaaGreatDoor
open Go
set_option maxRecDepth 100000 in
theorem keepsFact1 : (laidOutB Tryz.prog : Bool) = true := by kernel_rfl
set_option maxRecDepth 100000 in
theorem keepsFact5 : ((Rows.torsorKeepsRow.stops == []) : Bool) = true := by kernel_rfl
set_option maxRecDepth 100000 in
theorem keepsFact9 : ((Rows.torsorKeepsRow.inPlace == Tryz.prog.inPlace (6 : FuncId)) : Bool) = true := by kernel_rfl
set_option maxRecDepth 100000 in
theorem keepsFact13 : ((Rows.torsorKeepsRow.maps == (Tryz.f6.params.toList ++ Rows.torsorKeepsSpec.plain.varTypes Tryz.prog).any (Tryz.prog.mapsRec ·)) : Bool) = true := by kernel_rfl
set_option maxRecDepth 100000 in
theorem keepsFact17 : ((Rows.torsorKeepsRow.wideKeys == (Tryz.f6.params.toList ++ Rows.torsorKeepsSpec.plain.varTypes Tryz.prog ++ Tryz.f6.resultTypes.toList).any (Tryz.prog.wideKeysFrom ·)) : Bool) = true := by kernel_rfl
set_option maxRecDepth 100000 in
theorem keepsFact21 : ((Rows.torsorKeepsRow.loopsOut == Tryz.f6.resultTypes.toList.any (Tryz.prog.loopsFrom ·)) : Bool) = true := by kernel_rfl
set_option maxRecDepth 100000 in
theorem keepsFact25 : (Tryz.prog.mayEnter : Bool) = true := by kernel_rfl
set_option maxRecDepth 100000 in
theorem keepsFact29 : ((Rows.torsorKeepsRow.pinned == Rows.torsorKeepsRow.pinnedBy) : Bool) = true := by kernel_rfl
end Go.Proofs.YtbpegjgpdgeadaaGreatDoor
