/- A part of the proof: FactTurnsB. Conditions: none. -/
import Derived.Test.YtbpegjgpdgeadaaGreatDoorLawBase
namespace Go.Proofs.YtbpegjgpdgeadaaGreatDoor
open Go
set_option maxRecDepth 100000 in
theorem turnsFact1 : (laidOutB Tryz.prog : Bool) = true := by kernel_rfl
set_option maxRecDepth 100000 in
theorem turnsFact5 : ((Rows.torsorTurnsRow.stops == []) : Bool) = true := by kernel_rfl
set_option maxRecDepth 100000 in
theorem turnsFact9 : ((Rows.torsorTurnsRow.inPlace == Tryz.prog.inPlace (5 : FuncId)) : Bool) = true := by kernel_rfl
set_option maxRecDepth 100000 in
theorem turnsFact13 : ((Rows.torsorTurnsRow.maps == (Tryz.f5.params.toList ++ Rows.torsorTurnsSpec.plain.varTypes Tryz.prog).any (Tryz.prog.mapsRec ·)) : Bool) = true := by kernel_rfl
set_option maxRecDepth 100000 in
theorem turnsFact17 : ((Rows.torsorTurnsRow.wideKeys == (Tryz.f5.params.toList ++ Rows.torsorTurnsSpec.plain.varTypes Tryz.prog ++ Tryz.f5.resultTypes.toList).any (Tryz.prog.wideKeysFrom ·)) : Bool) = true := by kernel_rfl
set_option maxRecDepth 100000 in
theorem turnsFact21 : ((Rows.torsorTurnsRow.loopsOut == Tryz.f5.resultTypes.toList.any (Tryz.prog.loopsFrom ·)) : Bool) = true := by kernel_rfl
set_option maxRecDepth 100000 in
theorem turnsFact25 : (Tryz.prog.mayEnter : Bool) = true := by kernel_rfl
set_option maxRecDepth 100000 in
theorem turnsFact29 : ((Rows.torsorTurnsRow.pinned == Rows.torsorTurnsRow.pinnedBy) : Bool) = true := by kernel_rfl
end Go.Proofs.YtbpegjgpdgeadaaGreatDoor
