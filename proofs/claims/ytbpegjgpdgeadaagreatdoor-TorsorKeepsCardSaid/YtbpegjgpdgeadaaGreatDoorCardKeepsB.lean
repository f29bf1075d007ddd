/- A part of the proof: CardKeepsB. Conditions: none. -/
import Derived.Test.YtbpegjgpdgeadaaGreatDoorLawBase
import Derived.SevenTiedAt
namespace Go.Proofs.YtbpegjgpdgeadaaGreatDoor
open Go
set_option maxRecDepth 100000 in
theorem keeps_cl : true = Tryz.pinned.checked.prog.looks [] := by kernel_rfl
end Go.Proofs.YtbpegjgpdgeadaaGreatDoor
