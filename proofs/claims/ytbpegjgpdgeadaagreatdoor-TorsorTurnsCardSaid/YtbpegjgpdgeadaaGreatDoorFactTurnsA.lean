/- A part of the proof: FactTurnsA. Conditions: none. -/
import Derived.Test.YtbpegjgpdgeadaaGreatDoorLawBase
namespace Go.Proofs.YtbpegjgpdgeadaaGreatDoor
open Go
set_option maxRecDepth 100000 in
theorem turnsFact0 : (Rows.torsorTurnsRow.wf (OpenSpec.ofChange Rows.torsorTurnsSpec) : Bool) = true := by kernel_rfl
set_option maxRecDepth 100000 in
theorem turnsFact4 : (namedTie Tryz.prog Rows.torsorTurnsRow.named Rows.torsorTurnsSpec.vars : Bool) = true := by kernel_rfl
set_option maxRecDepth 100000 in
theorem turnsFact8 : ((Tryz.prog.stopKnobs == []) : Bool) = true := by kernel_rfl
set_option maxRecDepth 100000 in
theorem turnsFact12 : ((Rows.torsorTurnsRow.named == Tryz.prog.varsNamed (5 : FuncId)) : Bool) = true := by kernel_rfl
set_option maxRecDepth 100000 in
theorem turnsFact16 : ((Rows.torsorTurnsRow.loops == (Tryz.f5.params.toList ++ Rows.torsorTurnsSpec.plain.varTypes Tryz.prog).any (Tryz.prog.loopsFrom ·)) : Bool) = true := by kernel_rfl
set_option maxRecDepth 100000 in
theorem turnsFact20 : ((Rows.torsorTurnsRow.ifacesOut == Tryz.f5.resultTypes.toList.any (Tryz.prog.ifacesRec ·)) : Bool) = true := by kernel_rfl
set_option maxRecDepth 100000 in
theorem turnsFact24 : (Tryz.prog.stopsHeard : Bool) = true := by kernel_rfl
set_option maxRecDepth 100000 in
theorem turnsFact28 : ((Rows.torsorTurnsRow.kinds == (if Rows.torsorTurnsRow.domain.isEmpty then [] else Tryz.f5.params.toList.map fun t => match Tryz.prog.underlying t with | some (.int k) => some k | _ => none)) : Bool) = true := by kernel_rfl
end Go.Proofs.YtbpegjgpdgeadaaGreatDoor
