/- A part of the proof: FactAddsB. Conditions: none. -/
import Derived.Test.YtbpegjgpdgeadaaGreatDoorLawBase
namespace Go.Proofs.YtbpegjgpdgeadaaGreatDoor
open Go
set_option maxRecDepth 100000 in
theorem addsFact1 : (laidOutB Tryz.prog : Bool) = true := by kernel_rfl
set_option maxRecDepth 100000 in
theorem addsFact5 : ((Rows.torsorAddsRow.stops == []) : Bool) = true := by kernel_rfl
set_option maxRecDepth 100000 in
theorem addsFact9 : ((Rows.torsorAddsRow.inPlace == Tryz.prog.inPlace (7 : FuncId)) : Bool) = true := by kernel_rfl
set_option maxRecDepth 100000 in
theorem addsFact13 : ((Rows.torsorAddsRow.maps == (Tryz.f7.params.toList ++ Rows.torsorAddsSpec.plain.varTypes Tryz.prog).any (Tryz.prog.mapsRec ·)) : Bool) = true := by kernel_rfl
set_option maxRecDepth 100000 in
theorem addsFact17 : ((Rows.torsorAddsRow.wideKeys == (Tryz.f7.params.toList ++ Rows.torsorAddsSpec.plain.varTypes Tryz.prog ++ Tryz.f7.resultTypes.toList).any (Tryz.prog.wideKeysFrom ·)) : Bool) = true := by kernel_rfl
set_option maxRecDepth 100000 in
theorem addsFact21 : ((Rows.torsorAddsRow.loopsOut == Tryz.f7.resultTypes.toList.any (Tryz.prog.loopsFrom ·)) : Bool) = true := by kernel_rfl
set_option maxRecDepth 100000 in
theorem addsFact25 : (Tryz.prog.mayEnter : Bool) = true := by kernel_rfl
set_option maxRecDepth 100000 in
theorem addsFact29 : ((Rows.torsorAddsRow.pinned == Rows.torsorAddsRow.pinnedBy) : Bool) = true := by kernel_rfl
end Go.Proofs.YtbpegjgpdgeadaaGreatDoor
