/- For every torsor and two points the law TorsorKeeps returns true, and its arguments read as before. Conditions: the package variables hold what the program's text lays (the card's tie). -/
import Derived.Test.YtbpegjgpdgeadaaGreatDoorRowKeeps
import Derived.Test.YtbpegjgpdgeadaaGreatDoorCardKeepsA
import Derived.Test.YtbpegjgpdgeadaaGreatDoorCardKeepsB
import Derived.Test.YtbpegjgpdgeadaaGreatDoorCardKeepsC
import Derived.Test.YtbpegjgpdgeadaaGreatDoorCards
import Derived.Test.YtbpegjgpdgeadaaGreatDoorTie
namespace Go.Proofs.YtbpegjgpdgeadaaGreatDoor
open Go

set_option maxRecDepth 100000 in
theorem torsorKeeps_card : Rows.TorsorKeepsCardSaid :=
  Claim7.holds_tied_plain_at .later [] [.data, .data, .data, .data, .sentinel, .sentinel, .pinned] true (true, "bd3ca8164d7474578540dccbb61cabf1bf428d9000a5875584b07e7621bc6e0f") true
    keeps_holds (fun _ h => by cases h) keeps_cw (fun _ h => by cases h) torsorKeeps_row_tie rfl ⟨rfl, rfl⟩ keeps_cm rfl
    (fun f fn hf hfn => by
      obtain rfl : f = 6 := Option.some.inj (keepsNamed.symm.trans hf) |>.symm
      obtain rfl : fn = Tryz.f6 := (Option.some.inj (Tryz.func6.symm.trans hfn)).symm
      exact ⟨keeps_cl, fun j t ht => by
        have ht' : Tryz.f6.params[j]? = some t := ht
        rw [Tryz.params6] at ht'
        have hm : t ∈ [25, 27, 27] := by simpa using Array.mem_of_getElem? ht'
        exact (show Tryz.prog.wantsStandIn t = false by simpa using List.all_eq_true.1 keeps_cs t hm)⟩)
    keeps_cg
#print axioms torsorKeeps_card
end Go.Proofs.YtbpegjgpdgeadaaGreatDoor
