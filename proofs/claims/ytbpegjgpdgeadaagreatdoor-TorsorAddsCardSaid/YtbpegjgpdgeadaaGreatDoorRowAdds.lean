/- A part of the proof: RowAdds. Conditions: none. -/
import Derived.Test.YtbpegjgpdgeadaaGreatDoorLawAdds
import Derived.Test.YtbpegjgpdgeadaaGreatDoorFactAddsA
import Derived.Test.YtbpegjgpdgeadaaGreatDoorFactAddsB
import Derived.Test.YtbpegjgpdgeadaaGreatDoorFactAddsC
import Derived.Test.YtbpegjgpdgeadaaGreatDoorFactAddsD
import Derived.SevenTiedAt
namespace Go.Proofs.YtbpegjgpdgeadaaGreatDoor
open Go Go.ChangeShapes Go.WideShapes Go.ChangeAt Go.RowKit

theorem addsNamed : Tryz.prog.funcNamed "metrolab/metrolablaw40.TorsorAdds" = some 7 := by kernel_rfl
set_option maxRecDepth 100000 in
theorem addsFacts : joinedFacts Tryz.prog 7 Tryz.f7 Rows.torsorAddsSpec Rows.torsorAddsRow = true := by
  unfold joinedFacts
  simp only [Bool.and_eq_true]
  exact ⟨⟨⟨⟨⟨⟨⟨⟨⟨⟨⟨⟨⟨⟨⟨⟨⟨⟨⟨⟨⟨⟨⟨⟨⟨⟨⟨⟨⟨⟨⟨addsFact0, addsFact1⟩, addsFact2⟩, addsFact3⟩, addsFact4⟩, addsFact5⟩, addsFact6⟩, addsFact7⟩, addsFact8⟩, addsFact9⟩, addsFact10⟩, addsFact11⟩, addsFact12⟩, addsFact13⟩, addsFact14⟩, addsFact15⟩, addsFact16⟩, addsFact17⟩, addsFact18⟩, addsFact19⟩, addsFact20⟩, addsFact21⟩, addsFact22⟩, addsFact23⟩, addsFact24⟩, addsFact25⟩, addsFact26⟩, addsFact27⟩, addsFact28⟩, addsFact29⟩, addsFact30⟩, addsFact31⟩

set_option maxRecDepth 100000 in
theorem adds_holds : Rows.TorsorAddsSaid :=
  OpenClaim.holds_of_wide 7 Tryz.f7 rfl rfl rfl rfl rfl rfl rfl ⟨rfl, rfl, rfl, rfl, rfl⟩ rfl rfl rfl rfl rfl addsNamed Tryz.func7 addsFacts
    (of_decide_eq_true (by kernel_rfl)) (by unfold Func.isWrapper; first | (rw [if_pos (by decide +kernel)]; kernel_rfl) | (rw [if_neg (by decide +kernel)]; exact ⟨rfl, rfl⟩))
    (fun os started H enc _ => liftedAdds os started H enc)
end Go.Proofs.YtbpegjgpdgeadaaGreatDoor
