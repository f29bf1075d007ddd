/- A part of the proof: RowApplies. Conditions: none. -/
import Derived.Test.YtbpegjgpdgeadaaGreatDoorLawApplies
import Derived.Test.YtbpegjgpdgeadaaGreatDoorFactAppliesA
import Derived.Test.YtbpegjgpdgeadaaGreatDoorFactAppliesB
import Derived.Test.YtbpegjgpdgeadaaGreatDoorFactAppliesC
import Derived.Test.YtbpegjgpdgeadaaGreatDoorFactAppliesD
import Derived.SevenTiedAt
namespace Go.Proofs.YtbpegjgpdgeadaaGreatDoor
open Go Go.ChangeShapes Go.WideShapes Go.ChangeAt Go.RowKit

theorem appliesNamed : Tryz.prog.funcNamed "metrolab/metrolablaw40.TorsorApplies" = some 3 := by kernel_rfl
set_option maxRecDepth 100000 in
theorem appliesFacts : joinedFacts Tryz.prog 3 Tryz.f3 Rows.torsorAppliesSpec Rows.torsorAppliesRow = true := by
  unfold joinedFacts
  simp only [Bool.and_eq_true]
  exact ⟨⟨⟨⟨⟨⟨⟨⟨⟨⟨⟨⟨⟨⟨⟨⟨⟨⟨⟨⟨⟨⟨⟨⟨⟨⟨⟨⟨⟨⟨⟨appliesFact0, appliesFact1⟩, appliesFact2⟩, appliesFact3⟩, appliesFact4⟩, appliesFact5⟩, appliesFact6⟩, appliesFact7⟩, appliesFact8⟩, appliesFact9⟩, appliesFact10⟩, appliesFact11⟩, appliesFact12⟩, appliesFact13⟩, appliesFact14⟩, appliesFact15⟩, appliesFact16⟩, appliesFact17⟩, appliesFact18⟩, appliesFact19⟩, appliesFact20⟩, appliesFact21⟩, appliesFact22⟩, appliesFact23⟩, appliesFact24⟩, appliesFact25⟩, appliesFact26⟩, appliesFact27⟩, appliesFact28⟩, appliesFact29⟩, appliesFact30⟩, appliesFact31⟩

set_option maxRecDepth 100000 in
theorem applies_holds : Rows.TorsorAppliesSaid :=
  OpenClaim.holds_of_wide 3 Tryz.f3 rfl rfl rfl rfl rfl rfl rfl ⟨rfl, rfl, rfl, rfl, rfl⟩ rfl rfl rfl rfl rfl appliesNamed Tryz.func3 appliesFacts
    (of_decide_eq_true (by kernel_rfl)) (by unfold Func.isWrapper; first | (rw [if_pos (by decide +kernel)]; kernel_rfl) | (rw [if_neg (by decide +kernel)]; exact ⟨rfl, rfl⟩))
    (fun os started H enc _ => liftedApplies os started H enc)
end Go.Proofs.YtbpegjgpdgeadaaGreatDoor
