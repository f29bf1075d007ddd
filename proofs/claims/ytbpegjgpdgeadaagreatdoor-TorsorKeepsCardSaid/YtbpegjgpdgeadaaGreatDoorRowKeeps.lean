/- A part of the proof: RowKeeps. Conditions: none. -/
import Derived.Test.YtbpegjgpdgeadaaGreatDoorLawKeeps
import Derived.Test.YtbpegjgpdgeadaaGreatDoorFactKeepsA
import Derived.Test.YtbpegjgpdgeadaaGreatDoorFactKeepsB
import Derived.Test.YtbpegjgpdgeadaaGreatDoorFactKeepsC
import Derived.Test.YtbpegjgpdgeadaaGreatDoorFactKeepsD
import Derived.SevenTiedAt
namespace Go.Proofs.YtbpegjgpdgeadaaGreatDoor
open Go Go.ChangeShapes Go.WideShapes Go.ChangeAt Go.RowKit

theorem keepsNamed : Tryz.prog.funcNamed "metrolab/metrolablaw40.TorsorKeeps" = some 6 := by kernel_rfl
set_option maxRecDepth 100000 in
theorem keepsFacts : joinedFacts Tryz.prog 6 Tryz.f6 Rows.torsorKeepsSpec Rows.torsorKeepsRow = true := by
  unfold joinedFacts
  simp only [Bool.and_eq_true]
  exact ⟨⟨⟨⟨⟨⟨⟨⟨⟨⟨⟨⟨⟨⟨⟨⟨⟨⟨⟨⟨⟨⟨⟨⟨⟨⟨⟨⟨⟨⟨⟨keepsFact0, keepsFact1⟩, keepsFact2⟩, keepsFact3⟩, keepsFact4⟩, keepsFact5⟩, keepsFact6⟩, keepsFact7⟩, keepsFact8⟩, keepsFact9⟩, keepsFact10⟩, keepsFact11⟩, keepsFact12⟩, keepsFact13⟩, keepsFact14⟩, keepsFact15⟩, keepsFact16⟩, keepsFact17⟩, keepsFact18⟩, keepsFact19⟩, keepsFact20⟩, keepsFact21⟩, keepsFact22⟩, keepsFact23⟩, keepsFact24⟩, keepsFact25⟩, keepsFact26⟩, keepsFact27⟩, keepsFact28⟩, keepsFact29⟩, keepsFact30⟩, keepsFact31⟩

set_option maxRecDepth 100000 in
theorem keeps_holds : Rows.TorsorKeepsSaid :=
  OpenClaim.holds_of_wide 6 Tryz.f6 rfl rfl rfl rfl rfl rfl rfl ⟨rfl, rfl, rfl, rfl, rfl⟩ rfl rfl rfl rfl rfl keepsNamed Tryz.func6 keepsFacts
    (of_decide_eq_true (by kernel_rfl)) (by unfold Func.isWrapper; first | (rw [if_pos (by decide +kernel)]; kernel_rfl) | (rw [if_neg (by decide +kernel)]; exact ⟨rfl, rfl⟩))
    (fun os started H enc _ => liftedKeeps os started H enc)
end Go.Proofs.YtbpegjgpdgeadaaGreatDoor
