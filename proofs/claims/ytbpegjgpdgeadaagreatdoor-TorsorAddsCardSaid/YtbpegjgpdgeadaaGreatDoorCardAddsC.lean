/- A part of the proof: CardAddsC. Conditions: none. -/
import Derived.Test.YtbpegjgpdgeadaaGreatDoorLawBase
import Derived.SevenTiedAt
namespace Go.Proofs.YtbpegjgpdgeadaaGreatDoor
open Go
set_option maxRecDepth 100000 in
theorem adds_cg : false = Rows.torsorAddsRow.goesBy Tryz.pinned.checked.prog := by kernel_rfl
end Go.Proofs.YtbpegjgpdgeadaaGreatDoor
