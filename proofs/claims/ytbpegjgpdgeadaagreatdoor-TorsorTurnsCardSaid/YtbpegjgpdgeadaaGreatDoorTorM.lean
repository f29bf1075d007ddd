/- A part of the proof: TorM. Conditions: none. -/
import Derived.Test.YtbpegjgpdgeadaaGreatDoorTorJ
import Derived.Test.YtbpegjgpdgeadaaGreatDoorTorK
import Derived.Test.YtbpegjgpdgeadaaGreatDoorTorL
namespace Go.Proofs.YtbpegjgpdgeadaaGreatDoor
open Go Go.RowKit Metro
open Go.Lib (nDigits decDigits)

/-- The law of turns. -/
theorem turns_any (a : Int) (x y z x2 y2 z2 : Int) (s : ByteArray) (w : World) (hE : Env w) (ha : 0 ≤ a ∧ a ≤ 255) :
    Calls Tryz.prog 5 #[.int .u8 a, .agg #[.int .i64 x, .int .i64 y, .int .i64 z, .int .i64 x2, .int .i64 y2, .int .i64 z2], .string s] w fun e w' => e = .returned (.bool true) ∧ Below w.heap.size w w' := by
  by_cases h : okP x y z = true ∧ okP x2 y2 z2 = true ∧ s.size ≤ 24 ∧ chkQ s.data.toList = 0
  · obtain ⟨hp, hp2, hs, hc⟩ := h
    obtain ⟨q, rfl, hq⟩ := short_num hc hs
    have hm : a % 3 = 0 ∨ a % 3 = 1 ∨ a % 3 = 2 := by omega
    rcases hm with hk | hk | hk
    · exact turnsOk0_any a x y z x2 y2 z2 q w hE ha hk hp hp2 hs hq
    · exact turnsOk1_any a x y z x2 y2 z2 q w hE ha hk hp hp2 hs hq
    · exact turnsOk2_any a x y z x2 y2 z2 q w hE ha hk hp hp2 hs hq
  · exact turnsNot_any a x y z x2 y2 z2 s w hE ha h
end Go.Proofs.YtbpegjgpdgeadaaGreatDoor
