/- For every axis, point and turn the law TorsorForms returns true, and its arguments read as before. Conditions: the package variables hold what the program's text lays (the card's tie). -/
import Derived.Test.YtbpegjgpdgeadaaGreatDoorRowForms
import Derived.Test.YtbpegjgpdgeadaaGreatDoorCardFormsA
import Derived.Test.YtbpegjgpdgeadaaGreatDoorCardFormsB
import Derived.Test.YtbpegjgpdgeadaaGreatDoorCardFormsC
import Derived.Test.YtbpegjgpdgeadaaGreatDoorCards
import Derived.Test.YtbpegjgpdgeadaaGreatDoorTie
namespace Go.Proofs.YtbpegjgpdgeadaaGreatDoor
open Go

set_option maxRecDepth 100000 in
theorem torsorForms_card : Rows.TorsorFormsCardSaid :=
  Claim7.holds_tied_plain_at .later [] [.data, .data, .data, .data, .sentinel, .sentinel, .pinned] true (true, "bd3ca8164d7474578540dccbb61cabf1bf428d9000a5875584b07e7621bc6e0f") true
    forms_holds (fun _ h => by cases h) forms_cw (fun _ h => by cases h) torsorForms_row_tie rfl ⟨rfl, rfl⟩ forms_cm rfl
    (fun f fn hf hfn => by
      obtain rfl : f = 4 := Option.some.inj (formsNamed.symm.trans hf) |>.symm
      obtain rfl : fn = Tryz.f4 := (Option.some.inj (Tryz.func4.symm.trans hfn)).symm
      exact ⟨forms_cl, fun j t ht => by
        have ht' : Tryz.f4.params[j]? = some t := ht
        rw [Tryz.params4] at ht'
        have hm : t ∈ [3, 27, 22] := by simpa using Array.mem_of_getElem? ht'
        exact (show Tryz.prog.wantsStandIn t = false by simpa using List.all_eq_true.1 forms_cs t hm)⟩)
    forms_cg
#print axioms torsorForms_card
end Go.Proofs.YtbpegjgpdgeadaaGreatDoor
