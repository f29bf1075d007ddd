/- A part of the proof: CardAddsA. Conditions: none. -/
import Derived.Test.YtbpegjgpdgeadaaGreatDoorLawBase
import Derived.SevenTiedAt
namespace Go.Proofs.YtbpegjgpdgeadaaGreatDoor
open Go
set_option maxRecDepth 100000 in
theorem adds_cw : Rows.torsorAddsRow.wfByText (OpenSpec.ofChange Rows.torsorAddsSpec) = true := by kernel_rfl
set_option maxRecDepth 100000 in
theorem adds_cm : Tryz.pinned.checked.prog.mainIs = some (true, ("bd3ca8164d7474578540dccbb61cabf1bf428d9000a5875584b07e7621bc6e0f" : String).toList) := by kernel_rfl
theorem adds_cs : ([25, 25, 22].all fun u => !Tryz.prog.wantsStandIn u) = true := by kernel_rfl
end Go.Proofs.YtbpegjgpdgeadaaGreatDoor
