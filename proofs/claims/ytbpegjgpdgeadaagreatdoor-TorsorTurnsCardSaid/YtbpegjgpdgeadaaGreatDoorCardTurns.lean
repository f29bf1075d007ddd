/- For every axis, two points and turn the law TorsorTurns returns true, and its arguments read as before. Conditions: the package variables hold what the program's text lays (the card's tie). -/
import Derived.Test.YtbpegjgpdgeadaaGreatDoorRowTurns
import Derived.Test.YtbpegjgpdgeadaaGreatDoorCardTurnsA
import Derived.Test.YtbpegjgpdgeadaaGreatDoorCardTurnsB
import Derived.Test.YtbpegjgpdgeadaaGreatDoorCardTurnsC
import Derived.Test.YtbpegjgpdgeadaaGreatDoorCards
import Derived.Test.YtbpegjgpdgeadaaGreatDoorTie
namespace Go.Proofs.YtbpegjgpdgeadaaGreatDoor
open Go

set_option maxRecDepth 100000 in
theorem torsorTurns_card : Rows.TorsorTurnsCardSaid :=
  Claim7.holds_tied_plain_at .later [] [.data, .data, .data, .data, .sentinel, .sentinel, .pinned] true (true, "bd3ca8164d7474578540dccbb61cabf1bf428d9000a5875584b07e7621bc6e0f") true
    turns_holds (fun _ h => by cases h) turns_cw (fun _ h => by cases h) torsorTurns_row_tie rfl ⟨rfl, rfl⟩ turns_cm rfl
    (fun f fn hf hfn => by
      obtain rfl : f = 5 := Option.some.inj (turnsNamed.symm.trans hf) |>.symm
      obtain rfl : fn = Tryz.f5 := (Option.some.inj (Tryz.func5.symm.trans hfn)).symm
      exact ⟨turns_cl, fun j t ht => by
        have ht' : Tryz.f5.params[j]? = some t := ht
        rw [Tryz.params5] at ht'
        have hm : t ∈ [5, 50, 22] := by simpa using Array.mem_of_getElem? ht'
        exact (show Tryz.prog.wantsStandIn t = false by simpa using List.all_eq_true.1 turns_cs t hm)⟩)
    turns_cg
#print axioms torsorTurns_card
end Go.Proofs.YtbpegjgpdgeadaaGreatDoor
