/- A part of the proof: FactAppliesC. Conditions: none. -/
import Derived.Test.YtbpegjgpdgeadaaGreatDoorLawBase
namespace Go.Proofs.YtbpegjgpdgeadaaGreatDoor
open Go
set_option maxRecDepth 100000 in
theorem appliesFact2 : (mapsRowed Tryz.prog : Bool) = true := by kernel_rfl
set_option maxRecDepth 100000 in
theorem appliesFact6 : ((Tryz.prog.stops == []) : Bool) = true := by kernel_rfl
set_option maxRecDepth 100000 in
theorem appliesFact10 : ((Rows.torsorAppliesRow.unfollowed == Tryz.prog.unfollowed (3 : FuncId)) : Bool) = true := by kernel_rfl
set_option maxRecDepth 100000 in
theorem appliesFact14 : ((Rows.torsorAppliesRow.ifaces == (Tryz.f3.params.toList ++ Rows.torsorAppliesSpec.plain.varTypes Tryz.prog).any (Tryz.prog.ifacesRec ·)) : Bool) = true := by kernel_rfl
set_option maxRecDepth 100000 in
theorem appliesFact18 : (Rows.torsorAppliesSpec.vars.all (Tryz.prog.varReadable ·) : Bool) = true := by kernel_rfl
set_option maxRecDepth 100000 in
theorem appliesFact22 : ((Rows.torsorAppliesRow.plainKeys == Tryz.prog.plainKeys) : Bool) = true := by kernel_rfl
set_option maxRecDepth 100000 in
theorem appliesFact26 : ((Rows.torsorAppliesRow.lifted == Tryz.prog.liftsFinal) : Bool) = true := by kernel_rfl
set_option maxRecDepth 100000 in
theorem appliesFact30 : ((Rows.torsorAppliesRow.veiled == (Tryz.f3.params.toList ++ Rows.torsorAppliesSpec.plain.varTypes Tryz.prog ++ Tryz.f3.resultTypes.toList).any (Tryz.prog.veiledRec ·)) : Bool) = true := by kernel_rfl
end Go.Proofs.YtbpegjgpdgeadaaGreatDoor
