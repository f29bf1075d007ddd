/- For every torsor and every point the law TorsorApplies returns true, and its arguments read as before. Conditions: the package variables hold what the program's text lays (the card's tie). -/
import Derived.Test.YtbpegjgpdgeadaaGreatDoorRowApplies
import Derived.Test.YtbpegjgpdgeadaaGreatDoorCardAppliesA
import Derived.Test.YtbpegjgpdgeadaaGreatDoorCardAppliesB
import Derived.Test.YtbpegjgpdgeadaaGreatDoorCardAppliesC
import Derived.Test.YtbpegjgpdgeadaaGreatDoorCards
import Derived.Test.YtbpegjgpdgeadaaGreatDoorTie
namespace Go.Proofs.YtbpegjgpdgeadaaGreatDoor
open Go

set_option maxRecDepth 100000 in
theorem torsorApplies_card : Rows.TorsorAppliesCardSaid :=
  Claim7.holds_tied_plain_at .later [] [.data, .data, .data, .data, .sentinel, .sentinel, .pinned] true (true, "bd3ca8164d7474578540dccbb61cabf1bf428d9000a5875584b07e7621bc6e0f") true
    applies_holds (fun _ h => by cases h) applies_cw (fun _ h => by cases h) torsorApplies_row_tie rfl ⟨rfl, rfl⟩ applies_cm rfl
    (fun f fn hf hfn => by
      obtain rfl : f = 3 := Option.some.inj (appliesNamed.symm.trans hf) |>.symm
      obtain rfl : fn = Tryz.f3 := (Option.some.inj (Tryz.func3.symm.trans hfn)).symm
      exact ⟨applies_cl, fun j t ht => by
        have ht' : Tryz.f3.params[j]? = some t := ht
        rw [Tryz.params3] at ht'
        have hm : t ∈ [25, 27] := by simpa using Array.mem_of_getElem? ht'
        exact (show Tryz.prog.wantsStandIn t = false by simpa using List.all_eq_true.1 applies_cs t hm)⟩)
    applies_cg
#print axioms torsorApplies_card
end Go.Proofs.YtbpegjgpdgeadaaGreatDoor
