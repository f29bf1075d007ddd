/- A part of the proof: TorR. Conditions: none. -/
import Derived.Test.YtbpegjgpdgeadaaGreatDoorTorP
import Derived.Test.YtbpegjgpdgeadaaGreatDoorTorQ
import Derived.Test.YtbpegjgpdgeadaaGreatDoorTorG
namespace Go.Proofs.YtbpegjgpdgeadaaGreatDoor
open Go Go.RowKit Metro
open Go.Lib (nDigits decDigits)

/-- What Add gives, the program's and the reference's. -/
def AddBoth (t u : Nat → ByteArray) (a : Nat → ByteArray) (E : Int) : Prop :=
  (∀ w, Env w → Calls Tryz.prog 40 #[.agg #[.string (t 0), .string (t 1), .string (t 2), .string (t 3), .string (t 4), .string (t 5)], .agg #[.string (u 0), .string (u 1), .string (u 2), .string (u 3), .string (u 4), .string (u 5)]] w fun e w' => e = .returned (.tuple #[.agg #[.string (a 0), .string (a 1), .string (a 2), .string (a 3), .string (a 4), .string (a 5)], .int .i64 E]) ∧ Below w.heap.size w w') ∧
  (∀ w, Calls Tryz.prog 41 #[.agg #[.string (t 0), .string (t 1), .string (t 2), .string (t 3), .string (t 4), .string (t 5)], .agg #[.string (u 0), .string (u 1), .string (u 2), .string (u 3), .string (u 4), .string (u 5)]] w fun e w' => e = .returned (.tuple #[.agg #[.string (a 0), .string (a 1), .string (a 2), .string (a 3), .string (a 4), .string (a 5)], .int .i64 E]) ∧ Below w.heap.size w w')
theorem addBoth (t u : Nat → ByteArray) (hs : ∀ i, i < 6 → (t i).size ≤ 24) (hs2 : ∀ i, i < 6 → (u i).size ≤ 24) : ∃ a E, AddBoth t u a E := by
  by_cases h : fe2 t u = 0
  · have h1 : fe t 6 = 0 := by
      unfold fe2 at h
      split at h
      · assumption
      · exact h
    have h2 : fe u 6 = 0 := by unfold fe2 at h; rw [if_pos h1] at h; exact h
    obtain ⟨q, hq, hd⟩ := numbers_of h1 hs
    obtain ⟨r, hr, hd2⟩ := numbers_of h2 hs2
    refine ⟨fun i => qt (q i + r i), 0, ?_⟩
    unfold AddBoth
    rw [hq 0 (by decide), hq 1 (by decide), hq 2 (by decide), hq 3 (by decide), hq 4 (by decide), hq 5 (by decide), hr 0 (by decide), hr 1 (by decide), hr 2 (by decide), hr 3 (by decide), hr 4 (by decide), hr 5 (by decide)]
    exact ⟨fun w hE => addOk_any q r w hE hd hd2, fun w => refAddOk_any q r w hd hd2⟩
  · exact ⟨fun _ => ⟨#[]⟩, _, fun w hE => addErr_any t u w hE hs hs2 h, fun w => refAddErr_any t u w hs hs2 h⟩
/-- What Scale gives, the program's and the reference's. -/
def ScaleBoth (s : ByteArray) (t : Nat → ByteArray) (a : Nat → ByteArray) (E : Int) : Prop :=
  (∀ w, Env w → Calls Tryz.prog 42 #[.string s, .agg #[.string (t 0), .string (t 1), .string (t 2), .string (t 3), .string (t 4), .string (t 5)]] w fun e w' => e = .returned (.tuple #[.agg #[.string (a 0), .string (a 1), .string (a 2), .string (a 3), .string (a 4), .string (a 5)], .int .i64 E]) ∧ Below w.heap.size w w') ∧
  (∀ w, Calls Tryz.prog 43 #[.string s, .agg #[.string (t 0), .string (t 1), .string (t 2), .string (t 3), .string (t 4), .string (t 5)]] w fun e w' => e = .returned (.tuple #[.agg #[.string (a 0), .string (a 1), .string (a 2), .string (a 3), .string (a 4), .string (a 5)], .int .i64 E]) ∧ Below w.heap.size w w')
theorem scaleBoth (s : ByteArray) (t : Nat → ByteArray) (hs : s.size ≤ 24) (ht : ∀ i, i < 6 → (t i).size ≤ 24) : ∃ a E, ScaleBoth s t a E := by
  by_cases hc : chkQ s.data.toList = 0
  · by_cases h0 : fe t 6 = 0
    · obtain ⟨k, rfl, hk⟩ := short_num hc hs
      obtain ⟨q, hq, hd⟩ := numbers_of h0 ht
      refine ⟨fun i => qt (k * q i), 0, ?_⟩
      unfold ScaleBoth
      rw [hq 0 (by decide), hq 1 (by decide), hq 2 (by decide), hq 3 (by decide), hq 4 (by decide), hq 5 (by decide)]
      exact ⟨fun w hE => scaleOk_any k q w hE hk hd, fun w => refScaleOk_any k q w hk hd⟩
    · exact ⟨fun _ => ⟨#[]⟩, _, fun w hE => scaleErrT_any s t w hE hs ht hc h0, fun w => refScaleErrT_any s t w hs ht hc h0⟩
  · exact ⟨fun _ => ⟨#[]⟩, _, fun w hE => scaleErrK_any s t w hE hs ht hc, fun w => refScaleErrK_any s t w hs ht hc⟩

set_option maxHeartbeats 4000000 in
set_option maxRecDepth 100000 in
/-- The law of sums and multiples. -/
theorem adds_any (t u : Nat → ByteArray) (s : ByteArray) (w : World) (hE : Env w) :
    Calls Tryz.prog 7 #[.agg #[.string (t 0), .string (t 1), .string (t 2), .string (t 3), .string (t 4), .string (t 5)], .agg #[.string (u 0), .string (u 1), .string (u 2), .string (u 3), .string (u 4), .string (u 5)], .string s] w fun e w' => e = .returned (.bool true) ∧ Below w.heap.size w w' := by
  have AW := Lib.hid awake40_any
  have HE := Lib.hid hE
  have ST := Lib.hid (refTorShort_any t); have SU := Lib.hid (refTorShort_any u)
  have HB0 := Lib.hid (below_two w (.cells #[.string (t 0), .string (t 1), .string (t 2), .string (t 3), .string (t 4), .string (t 5)] 25) (.cells #[.string (u 0), .string (u 1), .string (u 2), .string (u 3), .string (u 4), .string (u 5)] 25))
  have HT0 := Lib.hid ((blk_new w #[.string (t 0), .string (t 1), .string (t 2), .string (t 3), .string (t 4), .string (t 5)] 25).alloc (.cells #[.string (u 0), .string (u 1), .string (u 2), .string (u 3), .string (u 4), .string (u 5)] 25)); have HU0 := Lib.hid (blk_new1 w (.cells #[.string (t 0), .string (t 1), .string (t 2), .string (t 3), .string (t 4), .string (t 5)] 25) #[.string (u 0), .string (u 1), .string (u 2), .string (u 3), .string (u 4), .string (u 5)] 25)
  clear hE
  go_enter Tryz.func7, Tryz.ntmps7
  go_wp2_with fail
  refine (ST.out _).mono ?_
  rintro e w1 ⟨⟨b, hbb, rfl⟩, hb⟩
  have HB1 := Lib.hid (HB0.out.trans (hb.mono HB0.out.size)); have HT1 := Lib.hid (HT0.out.later hb); have HU1 := Lib.hid (HU0.out.later hb)
  have HBB := Lib.hid hbb
  clear hb hbb
  cases b with
  | false =>
    go_wp2_with fail
    refine (AW.out _ (HE.out.below HB1.out)).mono ?_
    rintro e w9 ⟨rfl, hb⟩
    have HB9 := Lib.hid (HB1.out.trans (hb.mono HB1.out.size))
    clear hb
    go_wp2_with fail
    go_ret
    exact ⟨rfl, HB9.out⟩
  | true =>
    have u0 := HU1.out.cell 0; have u1 := HU1.out.cell 1; have u2 := HU1.out.cell 2; have u3 := HU1.out.cell 3; have u4 := HU1.out.cell 4; have u5 := HU1.out.cell 5
    go_wp2_with fail
    refine (SU.out _).mono ?_
    rintro e w2 ⟨⟨c, hcc, rfl⟩, hb⟩
    have HB2 := Lib.hid (HB1.out.trans (hb.mono HB1.out.size)); have HT2 := Lib.hid (HT1.out.later hb); have HU2 := Lib.hid (HU1.out.later hb)
    have HCC := Lib.hid hcc
    clear hb hcc u0 u1 u2 u3 u4 u5
    cases c with
    | false =>
      go_wp2_with fail
      refine (AW.out _ (HE.out.below HB2.out)).mono ?_
      rintro e w9 ⟨rfl, hb⟩
      have HB9 := Lib.hid (HB2.out.trans (hb.mono HB2.out.size))
      clear hb
      go_wp2_with fail
      go_ret
      exact ⟨rfl, HB9.out⟩
    | true =>
      by_cases hs : 24 < (s.size : Int)
      · go_wp2_with fail
        refine (AW.out _ (HE.out.below HB2.out)).mono ?_
        rintro e w9 ⟨rfl, hb⟩
        have HB9 := Lib.hid (HB2.out.trans (hb.mono HB2.out.size))
        clear hb
        go_wp2_with fail
        go_ret
        exact ⟨rfl, HB9.out⟩
      · have hst := HBB.out.1 (by first | rfl | trivial)
        have hsu := HCC.out.1 (by first | rfl | trivial)
        obtain ⟨a, E, hab⟩ := addBoth t u hst hsu
        obtain ⟨c, F, hcd⟩ := scaleBoth s t (by omega) hst
        have CA := Lib.hid hab.1; have CB := Lib.hid hab.2; have CC := Lib.hid hcd.1; have CD := Lib.hid hcd.2
        have qa := eq25_same (a 0) (a 1) (a 2) (a 3) (a 4) (a 5)
        have qc := eq25_same (c 0) (c 1) (c 2) (c 3) (c 4) (c 5)
        clear hab hcd hst hsu
        have t0 := HT2.out.cell 0; have t1 := HT2.out.cell 1; have t2 := HT2.out.cell 2; have t3 := HT2.out.cell 3; have t4 := HT2.out.cell 4; have t5 := HT2.out.cell 5
        have u0 := HU2.out.cell 0; have u1 := HU2.out.cell 1; have u2 := HU2.out.cell 2; have u3 := HU2.out.cell 3; have u4 := HU2.out.cell 4; have u5 := HU2.out.cell 5
        go_wp2_with fail
        refine (CA.out _ (HE.out.below HB2.out)).mono ?_
        rintro e w3 ⟨rfl, hb⟩
        have HB3 := Lib.hid ((HB2.out.trans (hb.mono HB2.out.size)).alloc (Nat.le_trans HB2.out.size hb.size) (.cells #[.string (a 0), .string (a 1), .string (a 2), .string (a 3), .string (a 4), .string (a 5)] 25)); have HT3 := Lib.hid ((HT2.out.later hb).alloc (.cells #[.string (a 0), .string (a 1), .string (a 2), .string (a 3), .string (a 4), .string (a 5)] 25)); have HU3 := Lib.hid ((HU2.out.later hb).alloc (.cells #[.string (a 0), .string (a 1), .string (a 2), .string (a 3), .string (a 4), .string (a 5)] 25)); have HX3 := Lib.hid (blk_new w3 #[.string (a 0), .string (a 1), .string (a 2), .string (a 3), .string (a 4), .string (a 5)] 25)
        clear hb t0 t1 t2 t3 t4 t5 u0 u1 u2 u3 u4 u5
        have t0 := HT3.out.cell 0; have t1 := HT3.out.cell 1; have t2 := HT3.out.cell 2; have t3 := HT3.out.cell 3; have t4 := HT3.out.cell 4; have t5 := HT3.out.cell 5
        have u0 := HU3.out.cell 0; have u1 := HU3.out.cell 1; have u2 := HU3.out.cell 2; have u3 := HU3.out.cell 3; have u4 := HU3.out.cell 4; have u5 := HU3.out.cell 5
        go_wp2_with fail
        refine (CB.out _).mono ?_
        rintro e w4 ⟨rfl, hb⟩
        have HB4 := Lib.hid ((HB3.out.trans (hb.mono HB3.out.size)).alloc (Nat.le_trans HB3.out.size hb.size) (.cells #[.string (a 0), .string (a 1), .string (a 2), .string (a 3), .string (a 4), .string (a 5)] 25)); have HT4 := Lib.hid ((HT3.out.later hb).alloc (.cells #[.string (a 0), .string (a 1), .string (a 2), .string (a 3), .string (a 4), .string (a 5)] 25)); have HX4 := Lib.hid ((HX3.out.later hb).alloc (.cells #[.string (a 0), .string (a 1), .string (a 2), .string (a 3), .string (a 4), .string (a 5)] 25)); have HY4 := Lib.hid (blk_new w4 #[.string (a 0), .string (a 1), .string (a 2), .string (a 3), .string (a 4), .string (a 5)] 25)
        clear hb t0 t1 t2 t3 t4 t5 u0 u1 u2 u3 u4 u5
        have t0 := HT4.out.cell 0; have t1 := HT4.out.cell 1; have t2 := HT4.out.cell 2; have t3 := HT4.out.cell 3; have t4 := HT4.out.cell 4; have t5 := HT4.out.cell 5
        go_wp2_with fail
        refine (CC.out _ (HE.out.below HB4.out)).mono ?_
        rintro e w5 ⟨rfl, hb⟩
        have HB5 := Lib.hid ((HB4.out.trans (hb.mono HB4.out.size)).alloc (Nat.le_trans HB4.out.size hb.size) (.cells #[.string (c 0), .string (c 1), .string (c 2), .string (c 3), .string (c 4), .string (c 5)] 25)); have HT5 := Lib.hid ((HT4.out.later hb).alloc (.cells #[.string (c 0), .string (c 1), .string (c 2), .string (c 3), .string (c 4), .string (c 5)] 25)); have HX5 := Lib.hid ((HX4.out.later hb).alloc (.cells #[.string (c 0), .string (c 1), .string (c 2), .string (c 3), .string (c 4), .string (c 5)] 25)); have HY5 := Lib.hid ((HY4.out.later hb).alloc (.cells #[.string (c 0), .string (c 1), .string (c 2), .string (c 3), .string (c 4), .string (c 5)] 25)); have HZ5 := Lib.hid (blk_new w5 #[.string (c 0), .string (c 1), .string (c 2), .string (c 3), .string (c 4), .string (c 5)] 25)
        clear hb t0 t1 t2 t3 t4 t5
        have t0 := HT5.out.cell 0; have t1 := HT5.out.cell 1; have t2 := HT5.out.cell 2; have t3 := HT5.out.cell 3; have t4 := HT5.out.cell 4; have t5 := HT5.out.cell 5
        go_wp2_with fail
        refine (CD.out _).mono ?_
        rintro e w6 ⟨rfl, hb⟩
        have HB6 := Lib.hid ((HB5.out.trans (hb.mono HB5.out.size)).alloc (Nat.le_trans HB5.out.size hb.size) (.cells #[.string (c 0), .string (c 1), .string (c 2), .string (c 3), .string (c 4), .string (c 5)] 25)); have HX6 := Lib.hid ((HX5.out.later hb).alloc (.cells #[.string (c 0), .string (c 1), .string (c 2), .string (c 3), .string (c 4), .string (c 5)] 25)); have HY6 := Lib.hid ((HY5.out.later hb).alloc (.cells #[.string (c 0), .string (c 1), .string (c 2), .string (c 3), .string (c 4), .string (c 5)] 25)); have HZ6 := Lib.hid ((HZ5.out.later hb).alloc (.cells #[.string (c 0), .string (c 1), .string (c 2), .string (c 3), .string (c 4), .string (c 5)] 25)); have HV6 := Lib.hid (blk_new w6 #[.string (c 0), .string (c 1), .string (c 2), .string (c 3), .string (c 4), .string (c 5)] 25)
        clear hb t0 t1 t2 t3 t4 t5
        have x0 := HX6.out.cell 0; have x1 := HX6.out.cell 1; have x2 := HX6.out.cell 2; have x3 := HX6.out.cell 3; have x4 := HX6.out.cell 4; have x5 := HX6.out.cell 5
        have y0 := HY6.out.cell 0; have y1 := HY6.out.cell 1; have y2 := HY6.out.cell 2; have y3 := HY6.out.cell 3; have y4 := HY6.out.cell 4; have y5 := HY6.out.cell 5
        have z0 := HZ6.out.cell 0; have z1 := HZ6.out.cell 1; have z2 := HZ6.out.cell 2; have z3 := HZ6.out.cell 3; have z4 := HZ6.out.cell 4; have z5 := HZ6.out.cell 5
        have v0 := HV6.out.cell 0; have v1 := HV6.out.cell 1; have v2 := HV6.out.cell 2; have v3 := HV6.out.cell 3; have v4 := HV6.out.cell 4; have v5 := HV6.out.cell 5
        go_wp2_with fail
        refine (AW.out _ (HE.out.below HB6.out)).mono ?_
        rintro e w9 ⟨rfl, hb⟩
        have HB9 := Lib.hid (HB6.out.trans (hb.mono HB6.out.size))
        clear hb
        go_wp2_with fail
        go_ret
        exact ⟨rfl, HB9.out⟩
end Go.Proofs.YtbpegjgpdgeadaaGreatDoor
