/- A part of the proof: FactKeepsA. Conditions: none. -/
import Derived.Test.YtbpegjgpdgeadaaGreatDoorLawBase
namespace Go.Proofs.YtbpegjgpdgeadaaGreatDoor
open Go
set_option maxRecDepth 100000 in
theorem keepsFact0 : (Rows.torsorKeepsRow.wf (OpenSpec.ofChange Rows.torsorKeepsSpec) : Bool) = true := by kernel_rfl
set_option maxRecDepth 100000 in
theorem keepsFact4 : (namedTie Tryz.prog Rows.torsorKeepsRow.named Rows.torsorKeepsSpec.vars : Bool) = true := by kernel_rfl
set_option maxRecDepth 100000 in
theorem keepsFact8 : ((Tryz.prog.stopKnobs == []) : Bool) = true := by kernel_rfl
set_option maxRecDepth 100000 in
theorem keepsFact12 : ((Rows.torsorKeepsRow.named == Tryz.prog.varsNamed (6 : FuncId)) : Bool) = true := by kernel_rfl
set_option maxRecDepth 100000 in
theorem keepsFact16 : ((Rows.torsorKeepsRow.loops == (Tryz.f6.params.toList ++ Rows.torsorKeepsSpec.plain.varTypes Tryz.prog).any (Tryz.prog.loopsFrom ·)) : Bool) = true := by kernel_rfl
set_option maxRecDepth 100000 in
theorem keepsFact20 : ((Rows.torsorKeepsRow.ifacesOut == Tryz.f6.resultTypes.toList.any (Tryz.prog.ifacesRec ·)) : Bool) = true := by kernel_rfl
set_option maxRecDepth 100000 in
theorem keepsFact24 : (Tryz.prog.stopsHeard : Bool) = true := by kernel_rfl
set_option maxRecDepth 100000 in
theorem keepsFact28 : ((Rows.torsorKeepsRow.kinds == (if Rows.torsorKeepsRow.domain.isEmpty then [] else Tryz.f6.params.toList.map fun t => match Tryz.prog.underlying t with | some (.int k) => some k | _ => none)) : Bool) = true := by kernel_rfl
end Go.Proofs.YtbpegjgpdgeadaaGreatDoor
