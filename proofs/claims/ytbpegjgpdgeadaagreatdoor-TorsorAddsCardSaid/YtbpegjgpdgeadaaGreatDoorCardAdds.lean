/- For every two torsors and number the law TorsorAdds returns true, and its arguments read as before. Conditions: the package variables hold what the program's text lays (the card's tie). -/
import Derived.Test.YtbpegjgpdgeadaaGreatDoorRowAdds
import Derived.Test.YtbpegjgpdgeadaaGreatDoorCardAddsA
import Derived.Test.YtbpegjgpdgeadaaGreatDoorCardAddsB
import Derived.Test.YtbpegjgpdgeadaaGreatDoorCardAddsC
import Derived.Test.YtbpegjgpdgeadaaGreatDoorCards
import Derived.Test.YtbpegjgpdgeadaaGreatDoorTie
namespace Go.Proofs.YtbpegjgpdgeadaaGreatDoor
open Go

set_option maxRecDepth 100000 in
theorem torsorAdds_card : Rows.TorsorAddsCardSaid :=
  Claim7.holds_tied_plain_at .later [] [.data, .data, .data, .data, .sentinel, .sentinel, .pinned] true (true, "bd3ca8164d7474578540dccbb61cabf1bf428d9000a5875584b07e7621bc6e0f") true
    adds_holds (fun _ h => by cases h) adds_cw (fun _ h => by cases h) torsorAdds_row_tie rfl ⟨rfl, rfl⟩ adds_cm rfl
    (fun f fn hf hfn => by
      obtain rfl : f = 7 := Option.some.inj (addsNamed.symm.trans hf) |>.symm
      obtain rfl : fn = Tryz.f7 := (Option.some.inj (Tryz.func7.symm.trans hfn)).symm
      exact ⟨adds_cl, fun j t ht => by
        have ht' : Tryz.f7.params[j]? = some t := ht
        rw [Tryz.params7] at ht'
        have hm : t ∈ [25, 25, 22] := by simpa using Array.mem_of_getElem? ht'
        exact (show Tryz.prog.wantsStandIn t = false by simpa using List.all_eq_true.1 adds_cs t hm)⟩)
    adds_cg
#print axioms torsorAdds_card
end Go.Proofs.YtbpegjgpdgeadaaGreatDoor
