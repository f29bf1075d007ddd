/- A part of the proof: FactAddsA. Conditions: none. -/
import Derived.Test.YtbpegjgpdgeadaaGreatDoorLawBase
namespace Go.Proofs.YtbpegjgpdgeadaaGreatDoor
open Go
set_option maxRecDepth 100000 in
theorem addsFact0 : (Rows.torsorAddsRow.wf (OpenSpec.ofChange Rows.torsorAddsSpec) : Bool) = true := by kernel_rfl
set_option maxRecDepth 100000 in
theorem addsFact4 : (namedTie Tryz.prog Rows.torsorAddsRow.named Rows.torsorAddsSpec.vars : Bool) = true := by kernel_rfl
set_option maxRecDepth 100000 in
theorem addsFact8 : ((Tryz.prog.stopKnobs == []) : Bool) = true := by kernel_rfl
set_option maxRecDepth 100000 in
theorem addsFact12 : ((Rows.torsorAddsRow.named == Tryz.prog.varsNamed (7 : FuncId)) : Bool) = true := by kernel_rfl
set_option maxRecDepth 100000 in
theorem addsFact16 : ((Rows.torsorAddsRow.loops == (Tryz.f7.params.toList ++ Rows.torsorAddsSpec.plain.varTypes Tryz.prog).any (Tryz.prog.loopsFrom ·)) : Bool) = true := by kernel_rfl
set_option maxRecDepth 100000 in
theorem addsFact20 : ((Rows.torsorAddsRow.ifacesOut == Tryz.f7.resultTypes.toList.any (Tryz.prog.ifacesRec ·)) : Bool) = true := by kernel_rfl
set_option maxRecDepth 100000 in
theorem addsFact24 : (Tryz.prog.stopsHeard : Bool) = true := by kernel_rfl
set_option maxRecDepth 100000 in
theorem addsFact28 : ((Rows.torsorAddsRow.kinds == (if Rows.torsorAddsRow.domain.isEmpty then [] else Tryz.f7.params.toList.map fun t => match Tryz.prog.underlying t with | some (.int k) => some k | _ => none)) : Bool) = true := by kernel_rfl
end Go.Proofs.YtbpegjgpdgeadaaGreatDoor
