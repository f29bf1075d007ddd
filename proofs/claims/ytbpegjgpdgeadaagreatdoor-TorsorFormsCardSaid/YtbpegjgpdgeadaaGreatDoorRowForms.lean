/- A part of the proof: RowForms. Conditions: none. -/
import Derived.Test.YtbpegjgpdgeadaaGreatDoorLawForms
import Derived.Test.YtbpegjgpdgeadaaGreatDoorFactFormsA
import Derived.Test.YtbpegjgpdgeadaaGreatDoorFactFormsB
import Derived.Test.YtbpegjgpdgeadaaGreatDoorFactFormsC
import Derived.Test.YtbpegjgpdgeadaaGreatDoorFactFormsD
import Derived.SevenTiedAt
namespace Go.Proofs.YtbpegjgpdgeadaaGreatDoor
open Go Go.ChangeShapes Go.WideShapes Go.ChangeAt Go.RowKit

theorem formsNamed : Tryz.prog.funcNamed "metrolab/metrolablaw40.TorsorForms" = some 4 := by kernel_rfl
set_option maxRecDepth 100000 in
theorem formsFacts : joinedFacts Tryz.prog 4 Tryz.f4 Rows.torsorFormsSpec Rows.torsorFormsRow = true := by
  unfold joinedFacts
  simp only [Bool.and_eq_true]
  exact ⟨⟨⟨⟨⟨⟨⟨⟨⟨⟨⟨⟨⟨⟨⟨⟨⟨⟨⟨⟨⟨⟨⟨⟨⟨⟨⟨⟨⟨⟨⟨formsFact0, formsFact1⟩, formsFact2⟩, formsFact3⟩, formsFact4⟩, formsFact5⟩, formsFact6⟩, formsFact7⟩, formsFact8⟩, formsFact9⟩, formsFact10⟩, formsFact11⟩, formsFact12⟩, formsFact13⟩, formsFact14⟩, formsFact15⟩, formsFact16⟩, formsFact17⟩, formsFact18⟩, formsFact19⟩, formsFact20⟩, formsFact21⟩, formsFact22⟩, formsFact23⟩, formsFact24⟩, formsFact25⟩, formsFact26⟩, formsFact27⟩, formsFact28⟩, formsFact29⟩, formsFact30⟩, formsFact31⟩

set_option maxRecDepth 100000 in
theorem forms_holds : Rows.TorsorFormsSaid :=
  OpenClaim.holds_of_wide 4 Tryz.f4 rfl rfl rfl rfl rfl rfl rfl ⟨rfl, rfl, rfl, rfl, rfl⟩ rfl rfl rfl rfl rfl formsNamed Tryz.func4 formsFacts
    (of_decide_eq_true (by kernel_rfl)) (by unfold Func.isWrapper; first | (rw [if_pos (by decide +kernel)]; kernel_rfl) | (rw [if_neg (by decide +kernel)]; exact ⟨rfl, rfl⟩))
    (fun os started H enc _ => liftedForms os started H enc)
end Go.Proofs.YtbpegjgpdgeadaaGreatDoor
