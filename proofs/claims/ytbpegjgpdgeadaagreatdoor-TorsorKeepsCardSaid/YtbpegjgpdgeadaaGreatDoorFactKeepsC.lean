/- A part of the proof: FactKeepsC. Conditions: none. -/
import Derived.Test.YtbpegjgpdgeadaaGreatDoorLawBase
namespace Go.Proofs.YtbpegjgpdgeadaaGreatDoor
open Go
set_option maxRecDepth 100000 in
theorem keepsFact2 : (mapsRowed Tryz.prog : Bool) = true := by kernel_rfl
set_option maxRecDepth 100000 in
theorem keepsFact6 : ((Tryz.prog.stops == []) : Bool) = true := by kernel_rfl
set_option maxRecDepth 100000 in
theorem keepsFact10 : ((Rows.torsorKeepsRow.unfollowed == Tryz.prog.unfollowed (6 : FuncId)) : Bool) = true := by kernel_rfl
set_option maxRecDepth 100000 in
theorem keepsFact14 : ((Rows.torsorKeepsRow.ifaces == (Tryz.f6.params.toList ++ Rows.torsorKeepsSpec.plain.varTypes Tryz.prog).any (Tryz.prog.ifacesRec ·)) : Bool) = true := by kernel_rfl
set_option maxRecDepth 100000 in
theorem keepsFact18 : (Rows.torsorKeepsSpec.vars.all (Tryz.prog.varReadable ·) : Bool) = true := by kernel_rfl
set_option maxRecDepth 100000 in
theorem keepsFact22 : ((Rows.torsorKeepsRow.plainKeys == Tryz.prog.plainKeys) : Bool) = true := by kernel_rfl
set_option maxRecDepth 100000 in
theorem keepsFact26 : ((Rows.torsorKeepsRow.lifted == Tryz.prog.liftsFinal) : Bool) = true := by kernel_rfl
set_option maxRecDepth 100000 in
theorem keepsFact30 : ((Rows.torsorKeepsRow.veiled == (Tryz.f6.params.toList ++ Rows.torsorKeepsSpec.plain.varTypes Tryz.prog ++ Tryz.f6.resultTypes.toList).any (Tryz.prog.veiledRec ·)) : Bool) = true := by kernel_rfl
end Go.Proofs.YtbpegjgpdgeadaaGreatDoor
