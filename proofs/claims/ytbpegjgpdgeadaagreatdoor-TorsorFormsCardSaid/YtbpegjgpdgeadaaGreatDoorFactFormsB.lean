/- A part of the proof: FactFormsB. Conditions: none. -/
import Derived.Test.YtbpegjgpdgeadaaGreatDoorLawBase
namespace Go.Proofs.YtbpegjgpdgeadaaGreatDoor
open Go
set_option maxRecDepth 100000 in
theorem formsFact1 : (laidOutB Tryz.prog : Bool) = true := by kernel_rfl
set_option maxRecDepth 100000 in
theorem formsFact5 : ((Rows.torsorFormsRow.stops == []) : Bool) = true := by kernel_rfl
set_option maxRecDepth 100000 in
theorem formsFact9 : ((Rows.torsorFormsRow.inPlace == Tryz.prog.inPlace (4 : FuncId)) : Bool) = true := by kernel_rfl
set_option maxRecDepth 100000 in
theorem formsFact13 : ((Rows.torsorFormsRow.maps == (Tryz.f4.params.toList ++ Rows.torsorFormsSpec.plain.varTypes Tryz.prog).any (Tryz.prog.mapsRec ·)) : Bool) = true := by kernel_rfl
set_option maxRecDepth 100000 in
theorem formsFact17 : ((Rows.torsorFormsRow.wideKeys == (Tryz.f4.params.toList ++ Rows.torsorFormsSpec.plain.varTypes Tryz.prog ++ Tryz.f4.resultTypes.toList).any (Tryz.prog.wideKeysFrom ·)) : Bool) = true := by kernel_rfl
set_option maxRecDepth 100000 in
theorem formsFact21 : ((Rows.torsorFormsRow.loopsOut == Tryz.f4.resultTypes.toList.any (Tryz.prog.loopsFrom ·)) : Bool) = true := by kernel_rfl
set_option maxRecDepth 100000 in
theorem formsFact25 : (Tryz.prog.mayEnter : Bool) = true := by kernel_rfl
set_option maxRecDepth 100000 in
theorem formsFact29 : ((Rows.torsorFormsRow.pinned == Rows.torsorFormsRow.pinnedBy) : Bool) = true := by kernel_rfl
end Go.Proofs.YtbpegjgpdgeadaaGreatDoor
