/- A part of the proof: FactFormsA. Conditions: none. -/
import Derived.Test.YtbpegjgpdgeadaaGreatDoorLawBase
namespace Go.Proofs.YtbpegjgpdgeadaaGreatDoor
open Go
set_option maxRecDepth 100000 in
theorem formsFact0 : (Rows.torsorFormsRow.wf (OpenSpec.ofChange Rows.torsorFormsSpec) : Bool) = true := by kernel_rfl
set_option maxRecDepth 100000 in
theorem formsFact4 : (namedTie Tryz.prog Rows.torsorFormsRow.named Rows.torsorFormsSpec.vars : Bool) = true := by kernel_rfl
set_option maxRecDepth 100000 in
theorem formsFact8 : ((Tryz.prog.stopKnobs == []) : Bool) = true := by kernel_rfl
set_option maxRecDepth 100000 in
theorem formsFact12 : ((Rows.torsorFormsRow.named == Tryz.prog.varsNamed (4 : FuncId)) : Bool) = true := by kernel_rfl
set_option maxRecDepth 100000 in
theorem formsFact16 : ((Rows.torsorFormsRow.loops == (Tryz.f4.params.toList ++ Rows.torsorFormsSpec.plain.varTypes Tryz.prog).any (Tryz.prog.loopsFrom ·)) : Bool) = true := by kernel_rfl
set_option maxRecDepth 100000 in
theorem formsFact20 : ((Rows.torsorFormsRow.ifacesOut == Tryz.f4.resultTypes.toList.any (Tryz.prog.ifacesRec ·)) : Bool) = true := by kernel_rfl
set_option maxRecDepth 100000 in
theorem formsFact24 : (Tryz.prog.stopsHeard : Bool) = true := by kernel_rfl
set_option maxRecDepth 100000 in
theorem formsFact28 : ((Rows.torsorFormsRow.kinds == (if Rows.torsorFormsRow.domain.isEmpty then [] else Tryz.f4.params.toList.map fun t => match Tryz.prog.underlying t with | some (.int k) => some k | _ => none)) : Bool) = true := by kernel_rfl
end Go.Proofs.YtbpegjgpdgeadaaGreatDoor
