/- A part of the proof: CardAddsB. Conditions: none. -/
import Derived.Test.YtbpegjgpdgeadaaGreatDoorLawBase
import Derived.SevenTiedAt
namespace Go.Proofs.YtbpegjgpdgeadaaGreatDoor
open Go
set_option maxRecDepth 100000 in
theorem adds_cl : true = Tryz.pinned.checked.prog.looks [] := by kernel_rfl
end Go.Proofs.YtbpegjgpdgeadaaGreatDoor
