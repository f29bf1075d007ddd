/- A part of the proof: RowTurns. Conditions: none. -/
import Derived.Test.YtbpegjgpdgeadaaGreatDoorLawTurns
import Derived.Test.YtbpegjgpdgeadaaGreatDoorFactTurnsA
import Derived.Test.YtbpegjgpdgeadaaGreatDoorFactTurnsB
import Derived.Test.YtbpegjgpdgeadaaGreatDoorFactTurnsC
import Derived.Test.YtbpegjgpdgeadaaGreatDoorFactTurnsD
import Derived.SevenTiedAt
namespace Go.Proofs.YtbpegjgpdgeadaaGreatDoor
open Go Go.ChangeShapes Go.WideShapes Go.ChangeAt Go.RowKit

theorem turnsNamed : Tryz.prog.funcNamed "metrolab/metrolablaw40.TorsorTurns" = some 5 := by kernel_rfl
set_option maxRecDepth 100000 in
theorem turnsFacts : joinedFacts Tryz.prog 5 Tryz.f5 Rows.torsorTurnsSpec Rows.torsorTurnsRow = true := by
  unfold joinedFacts
  simp only [Bool.and_eq_true]
  exact ⟨⟨⟨⟨⟨⟨⟨⟨⟨⟨⟨⟨⟨⟨⟨⟨⟨⟨⟨⟨⟨⟨⟨⟨⟨⟨⟨⟨⟨⟨⟨turnsFact0, turnsFact1⟩, turnsFact2⟩, turnsFact3⟩, turnsFact4⟩, turnsFact5⟩, turnsFact6⟩, turnsFact7⟩, turnsFact8⟩, turnsFact9⟩, turnsFact10⟩, turnsFact11⟩, turnsFact12⟩, turnsFact13⟩, turnsFact14⟩, turnsFact15⟩, turnsFact16⟩, turnsFact17⟩, turnsFact18⟩, turnsFact19⟩, turnsFact20⟩, turnsFact21⟩, turnsFact22⟩, turnsFact23⟩, turnsFact24⟩, turnsFact25⟩, turnsFact26⟩, turnsFact27⟩, turnsFact28⟩, turnsFact29⟩, turnsFact30⟩, turnsFact31⟩

set_option maxRecDepth 100000 in
theorem turns_holds : Rows.TorsorTurnsSaid :=
  OpenClaim.holds_of_wide 5 Tryz.f5 rfl rfl rfl rfl rfl rfl rfl ⟨rfl, rfl, rfl, rfl, rfl⟩ rfl rfl rfl rfl rfl turnsNamed Tryz.func5 turnsFacts
    (of_decide_eq_true (by kernel_rfl)) (by unfold Func.isWrapper; first | (rw [if_pos (by decide +kernel)]; kernel_rfl) | (rw [if_neg (by decide +kernel)]; exact ⟨rfl, rfl⟩))
    (fun os started H enc _ => liftedTurns os started H enc)
end Go.Proofs.YtbpegjgpdgeadaaGreatDoor
