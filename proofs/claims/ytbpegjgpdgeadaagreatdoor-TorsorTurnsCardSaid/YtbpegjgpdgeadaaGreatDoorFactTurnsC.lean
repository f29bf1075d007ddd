/- A part of the proof: FactTurnsC. Conditions: none. -/
import Derived.Test.YtbpegjgpdgeadaaGreatDoorLawBase
namespace Go.Proofs.YtbpegjgpdgeadaaGreatDoor
open Go
set_option maxRecDepth 100000 in
theorem turnsFact2 : (mapsRowed Tryz.prog : Bool) = true := by kernel_rfl
set_option maxRecDepth 100000 in
theorem turnsFact6 : ((Tryz.prog.stops == []) : Bool) = true := by kernel_rfl
set_option maxRecDepth 100000 in
theorem turnsFact10 : ((Rows.torsorTurnsRow.unfollowed == Tryz.prog.unfollowed (5 : FuncId)) : Bool) = true := by kernel_rfl
set_option maxRecDepth 100000 in
theorem turnsFact14 : ((Rows.torsorTurnsRow.ifaces == (Tryz.f5.params.toList ++ Rows.torsorTurnsSpec.plain.varTypes Tryz.prog).any (Tryz.prog.ifacesRec ·)) : Bool) = true := by kernel_rfl
set_option maxRecDepth 100000 in
theorem turnsFact18 : (Rows.torsorTurnsSpec.vars.all (Tryz.prog.varReadable ·) : Bool) = true := by kernel_rfl
set_option maxRecDepth 100000 in
theorem turnsFact22 : ((Rows.torsorTurnsRow.plainKeys == Tryz.prog.plainKeys) : Bool) = true := by kernel_rfl
set_option maxRecDepth 100000 in
theorem turnsFact26 : ((Rows.torsorTurnsRow.lifted == Tryz.prog.liftsFinal) : Bool) = true := by kernel_rfl
set_option maxRecDepth 100000 in
theorem turnsFact30 : ((Rows.torsorTurnsRow.veiled == (Tryz.f5.params.toList ++ Rows.torsorTurnsSpec.plain.varTypes Tryz.prog ++ Tryz.f5.resultTypes.toList).any (Tryz.prog.veiledRec ·)) : Bool) = true := by kernel_rfl
end Go.Proofs.YtbpegjgpdgeadaaGreatDoor
