/- A part of the proof: FactAddsC. Conditions: none. -/
import Derived.Test.YtbpegjgpdgeadaaGreatDoorLawBase
namespace Go.Proofs.YtbpegjgpdgeadaaGreatDoor
open Go
set_option maxRecDepth 100000 in
theorem addsFact2 : (mapsRowed Tryz.prog : Bool) = true := by kernel_rfl
set_option maxRecDepth 100000 in
theorem addsFact6 : ((Tryz.prog.stops == []) : Bool) = true := by kernel_rfl
set_option maxRecDepth 100000 in
theorem addsFact10 : ((Rows.torsorAddsRow.unfollowed == Tryz.prog.unfollowed (7 : FuncId)) : Bool) = true := by kernel_rfl
set_option maxRecDepth 100000 in
theorem addsFact14 : ((Rows.torsorAddsRow.ifaces == (Tryz.f7.params.toList ++ Rows.torsorAddsSpec.plain.varTypes Tryz.prog).any (Tryz.prog.ifacesRec ·)) : Bool) = true := by kernel_rfl
set_option maxRecDepth 100000 in
theorem addsFact18 : (Rows.torsorAddsSpec.vars.all (Tryz.prog.varReadable ·) : Bool) = true := by kernel_rfl
set_option maxRecDepth 100000 in
theorem addsFact22 : ((Rows.torsorAddsRow.plainKeys == Tryz.prog.plainKeys) : Bool) = true := by kernel_rfl
set_option maxRecDepth 100000 in
theorem addsFact26 : ((Rows.torsorAddsRow.lifted == Tryz.prog.liftsFinal) : Bool) = true := by kernel_rfl
set_option maxRecDepth 100000 in
theorem addsFact30 : ((Rows.torsorAddsRow.veiled == (Tryz.f7.params.toList ++ Rows.torsorAddsSpec.plain.varTypes Tryz.prog ++ Tryz.f7.resultTypes.toList).any (Tryz.prog.veiledRec ·)) : Bool) = true := by kernel_rfl
end Go.Proofs.YtbpegjgpdgeadaaGreatDoor
