/- A part of the proof: FactAppliesA. Conditions: none. -/
import Derived.Test.YtbpegjgpdgeadaaGreatDoorLawBase
namespace Go.Proofs.YtbpegjgpdgeadaaGreatDoor
open Go
set_option maxRecDepth 100000 in
theorem appliesFact0 : (Rows.torsorAppliesRow.wf (OpenSpec.ofChange Rows.torsorAppliesSpec) : Bool) = true := by kernel_rfl
set_option maxRecDepth 100000 in
theorem appliesFact4 : (namedTie Tryz.prog Rows.torsorAppliesRow.named Rows.torsorAppliesSpec.vars : Bool) = true := by kernel_rfl
set_option maxRecDepth 100000 in
theorem appliesFact8 : ((Tryz.prog.stopKnobs == []) : Bool) = true := by kernel_rfl
set_option maxRecDepth 100000 in
theorem appliesFact12 : ((Rows.torsorAppliesRow.named == Tryz.prog.varsNamed (3 : FuncId)) : Bool) = true := by kernel_rfl
set_option maxRecDepth 100000 in
theorem appliesFact16 : ((Rows.torsorAppliesRow.loops == (Tryz.f3.params.toList ++ Rows.torsorAppliesSpec.plain.varTypes Tryz.prog).any (Tryz.prog.loopsFrom ·)) : Bool) = true := by kernel_rfl
set_option maxRecDepth 100000 in
theorem appliesFact20 : ((Rows.torsorAppliesRow.ifacesOut == Tryz.f3.resultTypes.toList.any (Tryz.prog.ifacesRec ·)) : Bool) = true := by kernel_rfl
set_option maxRecDepth 100000 in
theorem appliesFact24 : (Tryz.prog.stopsHeard : Bool) = true := by kernel_rfl
set_option maxRecDepth 100000 in
theorem appliesFact28 : ((Rows.torsorAppliesRow.kinds == (if Rows.torsorAppliesRow.domain.isEmpty then [] else Tryz.f3.params.toList.map fun t => match Tryz.prog.underlying t with | some (.int k) => some k | _ => none)) : Bool) = true := by kernel_rfl
end Go.Proofs.YtbpegjgpdgeadaaGreatDoor
