/- A part of the proof: TorH. Conditions: none. -/
import Derived.Test.YtbpegjgpdgeadaaGreatDoorTorG
namespace Go.Proofs.YtbpegjgpdgeadaaGreatDoor
open Go Go.RowKit Metro
open Go.Lib (nDigits decDigits)

/-- n texts as a list: none is nil. -/
def SliceIs (w : World) (v : Value) (ss : Nat → ByteArray) (n : Nat) : Prop := (n = 0 ∧ v = .slice none 0 0) ∨ ∃ g cap, v = .slice (some ⟨g, 0, none⟩) n cap ∧ g < w.heap.size ∧ TextsAt w g ss n
theorem SliceIs.later {w w' : World} {v : Value} {ss : Nat → ByteArray} {n : Nat} (h : SliceIs w v ss n) (hb : Below w.heap.size w w') : SliceIs w' v ss n := by
  rcases h with h | ⟨g, cap, hv, hg, ht⟩
  · exact .inl h
  · exact .inr ⟨g, cap, hv, Nat.lt_of_lt_of_le hg hb.size, ht.below hb hg⟩
theorem SliceIs.alloc {w : World} {v : Value} {ss : Nat → ByteArray} {n : Nat} (h : SliceIs w v ss n) (o : Obj) : SliceIs (w.alloc o) v ss n := h.later (below_one w o)
theorem OwnT.sliceIs {w : World} {B : Nat} {v : Value} {ss : Nat → ByteArray} {n : Nat} (h : OwnT w B v ss n) : SliceIs w v ss n := by
  rcases h.2 with ⟨hv, h0⟩ | _
  · exact .inl ⟨h0, hv⟩
  · by_cases hn : 0 < n
    · obtain ⟨g, cap, hv, _, hg, _, _, ht⟩ := h.open hn
      exact .inr ⟨g, cap, hv, hg, ht⟩
    · rename_i hx
      obtain ⟨g, cap, cur, hv, _, hg, _⟩ := hx
      exact .inr ⟨g, cap, hv, (Array.getElem?_eq_some_iff.1 hg).1, fun i hi => absurd hi (by omega)⟩
set_option maxHeartbeats 1000000 in
set_option maxRecDepth 100000 in
theorem equalNilOwn_any (g cap : Nat) (w : World) : Calls Tryz.prog 31 #[.slice none 0 0, .slice (some ⟨g, 0, none⟩) 0 cap] w fun e w' => e = .returned (.bool true) ∧ Below w.heap.size w w' := by
  go_enter Tryz.func31, Tryz.ntmps31
  go_wp2_with fail
  go_loopg [5, 13] 0 (fun d _ i wr => i = .int .i64 0 ∧ d = 0 ∧ wr = w)
  case atStart => exact ⟨rfl, rfl, rfl⟩
  case round =>
    obtain ⟨rfl, rfl, rfl⟩ := hrel
    go_wp2_with fail
    go_ret
    exact ⟨rfl, Below.refl _ _⟩
set_option maxHeartbeats 1000000 in
set_option maxRecDepth 100000 in
theorem equalOwnNil_any (g cap : Nat) (w : World) : Calls Tryz.prog 31 #[.slice (some ⟨g, 0, none⟩) 0 cap, .slice none 0 0] w fun e w' => e = .returned (.bool true) ∧ Below w.heap.size w w' := by
  go_enter Tryz.func31, Tryz.ntmps31
  go_wp2_with fail
  go_loopg [5, 13] 0 (fun d _ i wr => i = .int .i64 0 ∧ d = 0 ∧ wr = w)
  case atStart => exact ⟨rfl, rfl, rfl⟩
  case round =>
    obtain ⟨rfl, rfl, rfl⟩ := hrel
    go_wp2_with fail
    go_ret
    exact ⟨rfl, Below.refl _ _⟩
theorem equalSlices {w : World} {v u : Value} {ss : Nat → ByteArray} {n : Nat} (hn : n ≤ 100000) (h : SliceIs w v ss n) (k : SliceIs w u ss n) :
    Calls Tryz.prog 31 #[v, u] w fun e w' => e = .returned (.bool true) ∧ Below w.heap.size w w' := by
  rcases h with ⟨h0, rfl⟩ | ⟨g, cap, rfl, _, ht⟩
  · rcases k with ⟨_, rfl⟩ | ⟨g, cap, rfl, _, ht⟩
    · exact equalNil_any w
    · subst h0; exact equalNilOwn_any g cap w
  · rcases k with ⟨h0, rfl⟩ | ⟨g', cap', rfl, _, ht'⟩
    · subst h0; exact equalOwnNil_any g cap w
    · exact equalOwn_any hn ht ht'

/-- What Form gives, the program's and the reference's. -/
def FormBoth (k x y z : Int) (ss : Nat → ByteArray) (n : Nat) (E : Int) : Prop :=
  (∀ w, Env w → Calls Tryz.prog 27 #[.int .i64 k, .agg #[.int .i64 x, .int .i64 y, .int .i64 z]] w fun e w' => ∃ v, e = .returned (.tuple #[v, .int .i64 E]) ∧ SliceIs w' v ss n ∧ Below w.heap.size w w') ∧
  (∀ w, Calls Tryz.prog 28 #[.int .i64 k, .agg #[.int .i64 x, .int .i64 y, .int .i64 z]] w fun e w' => ∃ v, e = .returned (.tuple #[v, .int .i64 E]) ∧ SliceIs w' v ss n ∧ Below w.heap.size w w')
theorem formBoth (k x y z : Int) : ∃ ss n E, n ≤ 6 ∧ FormBoth k x y z ss n E := by
  by_cases h : errA k x y z = 0
  · obtain ⟨h0, h3, hp⟩ := errA_ok h
    obtain ⟨kk, rfl⟩ : ∃ kk : Nat, k = kk := ⟨k.toNat, by omega⟩
    have hk : kk < 3 := by omega
    refine ⟨fun i => qt (frm x y z kk i : Rat), 6, 0, Nat.le_refl _, fun w hE => (formOk_any kk hk x y z w hE hp).mono ?_, fun w => (refFormOk_any kk hk x y z w hp).mono ?_⟩
    · rintro e w' ⟨v, rfl, hv, hb⟩
      exact ⟨v, rfl, hv.sliceIs, hb⟩
    · rintro e w' ⟨g, rfl, _, hg, ht, hb⟩
      exact ⟨_, rfl, .inr ⟨g, 6, rfl, hg, ht⟩, hb⟩
  · refine ⟨fun _ => ⟨#[]⟩, 0, errA k x y z, by decide, fun w _ => (formErr_any k x y z w h).mono ?_, fun w => (refFormErr_any k x y z w h).mono ?_⟩
    · rintro e w' ⟨rfl, hb⟩
      exact ⟨_, rfl, .inl ⟨rfl, rfl⟩, hb⟩
    · rintro e w' ⟨rfl, hb⟩
      exact ⟨_, rfl, .inl ⟨rfl, rfl⟩, hb⟩

set_option maxHeartbeats 2000000 in
set_option maxRecDepth 100000 in
theorem forms_any (k x y z : Int) (s : ByteArray) (w : World) (hE : Env w) :
    Calls Tryz.prog 4 #[.int .i64 k, .agg #[.int .i64 x, .int .i64 y, .int .i64 z], .string s] w fun e w' => e = .returned (.bool true) ∧ Below w.heap.size w w' := by
  have AW := Lib.hid awake40_any
  have HE := Lib.hid hE
  clear hE
  have HB0 := Lib.hid (below_one w (.cells #[.int .i64 x, .int .i64 y, .int .i64 z] 27)); have HP0 := Lib.hid (blk_new w #[.int .i64 x, .int .i64 y, .int .i64 z] 27)
  by_cases hs : 24 < (s.size : Int)
  · go_enter Tryz.func4, Tryz.ntmps4
    go_wp2_with fail
    refine (AW.out _ (HE.out.below HB0.out)).mono ?_
    rintro e w1 ⟨rfl, hb⟩
    have HB1 := Lib.hid (HB0.out.trans (hb.mono HB0.out.size))
    clear hb
    go_wp2_with fail
    go_ret
    exact ⟨rfl, HB1.out⟩
  · obtain ⟨ss, n, E, hn, hf⟩ := formBoth k x y z
    obtain ⟨a, F, ha⟩ := aboutBoth k x y z s (by omega)
    have CF := Lib.hid hf.1; have CG := Lib.hid hf.2
    have CA := Lib.hid ha.1; have CB := Lib.hid ha.2
    have HN := Lib.hid hn
    have q25 := eq25_same (a 0) (a 1) (a 2) (a 3) (a 4) (a 5)
    clear hf ha hn
    go_enter Tryz.func4, Tryz.ntmps4
    go_wp2_with fail
    have p0 := HP0.out.cell 0; have p1 := HP0.out.cell 1; have p2 := HP0.out.cell 2
    go_wp2_with fail
    refine (CF.out _ (HE.out.below HB0.out)).mono ?_
    rintro e w1 ⟨v, rfl, hv, hb⟩
    have HB1 := Lib.hid (HB0.out.trans (hb.mono HB0.out.size)); have HP1 := Lib.hid (HP0.out.later hb); have HV1 := Lib.hid hv
    clear hb hv p0 p1 p2
    have p0 := HP1.out.cell 0; have p1 := HP1.out.cell 1; have p2 := HP1.out.cell 2
    go_wp2_with fail
    refine (CG.out _).mono ?_
    rintro e w2 ⟨u, rfl, hv, hb⟩
    have HB2 := Lib.hid (HB1.out.trans (hb.mono HB1.out.size)); have HP2 := Lib.hid (HP1.out.later hb); have HV2 := Lib.hid (HV1.out.later hb); have HU2 := Lib.hid hv
    clear hb hv p0 p1 p2
    have p0 := HP2.out.cell 0; have p1 := HP2.out.cell 1; have p2 := HP2.out.cell 2
    go_wp2_with fail
    refine (CA.out _ (HE.out.below HB2.out)).mono ?_
    rintro e w3 ⟨rfl, hb⟩
    have HB3 := Lib.hid (HB2.out.trans (hb.mono HB2.out.size)); have HP3 := Lib.hid (HP2.out.later hb); have HV3 := Lib.hid (HV2.out.later hb); have HU3 := Lib.hid (HU2.out.later hb)
    have HB4 := Lib.hid (HB3.out.alloc HB3.out.size (.cells #[.string (a 0), .string (a 1), .string (a 2), .string (a 3), .string (a 4), .string (a 5)] 25)); have HP4 := Lib.hid (HP3.out.alloc (.cells #[.string (a 0), .string (a 1), .string (a 2), .string (a 3), .string (a 4), .string (a 5)] 25)); have HV4 := Lib.hid (HV3.out.alloc (.cells #[.string (a 0), .string (a 1), .string (a 2), .string (a 3), .string (a 4), .string (a 5)] 25)); have HU4 := Lib.hid (HU3.out.alloc (.cells #[.string (a 0), .string (a 1), .string (a 2), .string (a 3), .string (a 4), .string (a 5)] 25)); have HX4 := Lib.hid (blk_new w3 #[.string (a 0), .string (a 1), .string (a 2), .string (a 3), .string (a 4), .string (a 5)] 25)
    have hlp := HP3.out.lt
    clear hb p0 p1 p2
    have p0 := HP3.out.cell 0; have p1 := HP3.out.cell 1; have p2 := HP3.out.cell 2
    go_wp2_with fail
    refine (CB.out _).mono ?_
    rintro e w5 ⟨rfl, hb⟩
    have HB5 := Lib.hid ((HB4.out.trans (hb.mono HB4.out.size)).alloc (Nat.le_trans HB4.out.size hb.size) (.cells #[.string (a 0), .string (a 1), .string (a 2), .string (a 3), .string (a 4), .string (a 5)] 25)); have HV5 := Lib.hid ((HV4.out.later hb).alloc (.cells #[.string (a 0), .string (a 1), .string (a 2), .string (a 3), .string (a 4), .string (a 5)] 25)); have HU5 := Lib.hid ((HU4.out.later hb).alloc (.cells #[.string (a 0), .string (a 1), .string (a 2), .string (a 3), .string (a 4), .string (a 5)] 25)); have HX5 := Lib.hid ((HX4.out.later hb).alloc (.cells #[.string (a 0), .string (a 1), .string (a 2), .string (a 3), .string (a 4), .string (a 5)] 25)); have HY5 := Lib.hid (blk_new w5 #[.string (a 0), .string (a 1), .string (a 2), .string (a 3), .string (a 4), .string (a 5)] 25)
    clear hb p0 p1 p2 hlp
    obtain ⟨b5, hb5⟩ : ∃ b, b = w3.heap.size := ⟨_, rfl⟩
    obtain ⟨b7, hb7⟩ : ∃ b, b = w5.heap.size := ⟨_, rfl⟩
    rw [← hb5] at HX5
    rw [← hb7] at HY5
    have HZ5 := Lib.hid hb5; have HZ7 := Lib.hid hb7
    clear hb5 hb7
    have CE : Hid (∀ W, Below (w5.alloc (.cells #[.string (a 0), .string (a 1), .string (a 2), .string (a 3), .string (a 4), .string (a 5)] 25)).heap.size (w5.alloc (.cells #[.string (a 0), .string (a 1), .string (a 2), .string (a 3), .string (a 4), .string (a 5)] 25)) W → Calls Tryz.prog 31 #[v, u] W fun e w' => e = .returned (.bool true) ∧ Below W.heap.size W w') := Lib.hid (fun W hb => equalSlices (Nat.le_trans HN.out (by decide)) (HV5.out.later hb) (HU5.out.later hb))
    go_wp2_with fail
    rw [← HZ5.out, ← HZ7.out]
    clear HZ5 HZ7
    generalize (w5.alloc (.cells #[.string (a 0), .string (a 1), .string (a 2), .string (a 3), .string (a 4), .string (a 5)] 25)) = W3 at HB5 HX5 HY5 CE HV5 HU5 ⊢
    refine (CE.out _ (Below.refl _ _)).mono ?_
    rintro e wa ⟨rfl, hba⟩
    have HBa := Lib.hid (HB5.out.trans (hba.mono HB5.out.size)); have HXa := Lib.hid (Blk.later (HX5.out) hba); have HYa := Lib.hid (Blk.later (HY5.out) hba); have xa0 := HXa.out.cell 0; have xa1 := HXa.out.cell 1; have xa2 := HXa.out.cell 2; have xa3 := HXa.out.cell 3; have xa4 := HXa.out.cell 4; have xa5 := HXa.out.cell 5; have ya0 := HYa.out.cell 0; have ya1 := HYa.out.cell 1; have ya2 := HYa.out.cell 2; have ya3 := HYa.out.cell 3; have ya4 := HYa.out.cell 4; have ya5 := HYa.out.cell 5; clear hba
    go_wp2_with fail
    refine (AW.out _ (HE.out.below HBa.out)).mono ?_
    rintro e wb ⟨rfl, hbb⟩
    have HBb := Lib.hid (HBa.out.trans (hbb.mono HBa.out.size))
    clear hbb
    go_wp2_with fail
    go_ret
    exact ⟨rfl, HBb.out⟩
end Go.Proofs.YtbpegjgpdgeadaaGreatDoor
