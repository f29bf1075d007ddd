/- A part of the proof: CardTurnsA. Conditions: none. -/
import Derived.Test.YtbpegjgpdgeadaaGreatDoorLawBase
import Derived.SevenTiedAt
namespace Go.Proofs.YtbpegjgpdgeadaaGreatDoor
open Go
set_option maxRecDepth 100000 in
theorem turns_cw : Rows.torsorTurnsRow.wfByText (OpenSpec.ofChange Rows.torsorTurnsSpec) = true := by kernel_rfl
set_option maxRecDepth 100000 in
theorem turns_cm : Tryz.pinned.checked.prog.mainIs = some (true, ("bd3ca8164d7474578540dccbb61cabf1bf428d9000a5875584b07e7621bc6e0f" : String).toList) := by kernel_rfl
theorem turns_cs : ([5, 50, 22].all fun u => !Tryz.prog.wantsStandIn u) = true := by kernel_rfl
end Go.Proofs.YtbpegjgpdgeadaaGreatDoor
