/- A part of the proof: FactFormsC. Conditions: none. -/
import Derived.Test.YtbpegjgpdgeadaaGreatDoorLawBase
namespace Go.Proofs.YtbpegjgpdgeadaaGreatDoor
open Go
set_option maxRecDepth 100000 in
theorem formsFact2 : (mapsRowed Tryz.prog : Bool) = true := by kernel_rfl
set_option maxRecDepth 100000 in
theorem formsFact6 : ((Tryz.prog.stops == []) : Bool) = true := by kernel_rfl
set_option maxRecDepth 100000 in
theorem formsFact10 : ((Rows.torsorFormsRow.unfollowed == Tryz.prog.unfollowed (4 : FuncId)) : Bool) = true := by kernel_rfl
set_option maxRecDepth 100000 in
theorem formsFact14 : ((Rows.torsorFormsRow.ifaces == (Tryz.f4.params.toList ++ Rows.torsorFormsSpec.plain.varTypes Tryz.prog).any (Tryz.prog.ifacesRec ·)) : Bool) = true := by kernel_rfl
set_option maxRecDepth 100000 in
theorem formsFact18 : (Rows.torsorFormsSpec.vars.all (Tryz.prog.varReadable ·) : Bool) = true := by kernel_rfl
set_option maxRecDepth 100000 in
theorem formsFact22 : ((Rows.torsorFormsRow.plainKeys == Tryz.prog.plainKeys) : Bool) = true := by kernel_rfl
set_option maxRecDepth 100000 in
theorem formsFact26 : ((Rows.torsorFormsRow.lifted == Tryz.prog.liftsFinal) : Bool) = true := by kernel_rfl
set_option maxRecDepth 100000 in
theorem formsFact30 : ((Rows.torsorFormsRow.veiled == (Tryz.f4.params.toList ++ Rows.torsorFormsSpec.plain.varTypes Tryz.prog ++ Tryz.f4.resultTypes.toList).any (Tryz.prog.veiledRec ·)) : Bool) = true := by kernel_rfl
end Go.Proofs.YtbpegjgpdgeadaaGreatDoor
