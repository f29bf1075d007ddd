/- A part of the proof: TorQ. Conditions: none. -/
import Derived.Test.YtbpegjgpdgeadaaGreatDoorTorO
import Derived.Deep.AppendLies
namespace Go.Proofs.YtbpegjgpdgeadaaGreatDoor
open Go Go.RowKit Metro
open Go.Lib (nDigits decDigits)

set_option maxHeartbeats 1000000 in
set_option maxRecDepth 100000 in
theorem refMade_any6 (t : Nat → ByteArray) (g cap : Nat) (w : World) (hg : g < w.heap.size) (ht : TextsAt w g t 6) :
    Calls Tryz.prog 102 #[.slice (some ⟨g, 0, none⟩) 6 cap] w fun E w' => E = .returned (.agg #[.string (t 0), .string (t 1), .string (t 2), .string (t 3), .string (t 4), .string (t 5)]) ∧ Below w.heap.size w w' := by
  have HB0 := Lib.hid (below_one w (.cells #[.string ⟨#[]⟩, .string ⟨#[]⟩, .string ⟨#[]⟩, .string ⟨#[]⟩, .string ⟨#[]⟩, .string ⟨#[]⟩] 25))
  have HT := Lib.hid (ht.below HB0.out hg)
  have HR := Lib.hid (blk_new w #[.string ⟨#[]⟩, .string ⟨#[]⟩, .string ⟨#[]⟩, .string ⟨#[]⟩, .string ⟨#[]⟩, .string ⟨#[]⟩] 25)
  clear ht hg
  go_enter Tryz.func102, Tryz.ntmps102
  go_wp2_with fail
  generalize (w.alloc (.cells #[.string ⟨#[]⟩, .string ⟨#[]⟩, .string ⟨#[]⟩, .string ⟨#[]⟩, .string ⟨#[]⟩, .string ⟨#[]⟩] 25)) = W0 at HB0 HT HR ⊢
  have t0 := HT.out 0 (by decide); have t1 := HT.out 1 (by decide); have t2 := HT.out 2 (by decide); have t3 := HT.out 3 (by decide); have t4 := HT.out 4 (by decide); have t5 := HT.out 5 (by decide)
  have r0 := HR.out.cell 0; have r1 := HR.out.cell 1; have r2 := HR.out.cell 2; have r3 := HR.out.cell 3; have r4 := HR.out.cell 4; have r5 := HR.out.cell 5
  have f0 := HR.out.free 0; have f1 := HR.out.free 1; have f2 := HR.out.free 2; have f3 := HR.out.free 3; have f4 := HR.out.free 4; have f5 := HR.out.free 5
  go_region
  all_goals
    go_wp2_with fail
    have hr3 := Blk.drew (Blk.set (Blk.set (Blk.set (Blk.set (Blk.set (Blk.set HR.out 0 (.string (t 0))) 1 (.string (t 1))) 2 (.string (t 2))) 3 (.string (t 3))) 4 (.string (t 4))) 5 (.string (t 5)))
    have hb3 := Below.drew (Below.setCell (p := ⟨w.heap.size, 5, none⟩) (Below.setCell (p := ⟨w.heap.size, 4, none⟩) (Below.setCell (p := ⟨w.heap.size, 3, none⟩) (Below.setCell (p := ⟨w.heap.size, 2, none⟩) (Below.setCell (p := ⟨w.heap.size, 1, none⟩) (Below.setCell (p := ⟨w.heap.size, 0, none⟩) HB0.out (Nat.le_refl _) (.string (t 0))) (Nat.le_refl _) (.string (t 1))) (Nat.le_refl _) (.string (t 2))) (Nat.le_refl _) (.string (t 3))) (Nat.le_refl _) (.string (t 4))) (Nat.le_refl _) (.string (t 5)))
    generalize ((((((W0.setCell ⟨w.heap.size, 0, none⟩ (.string (t 0))).setCell ⟨w.heap.size, 1, none⟩ (.string (t 1))).setCell ⟨w.heap.size, 2, none⟩ (.string (t 2))).setCell ⟨w.heap.size, 3, none⟩ (.string (t 3))).setCell ⟨w.heap.size, 4, none⟩ (.string (t 4))).setCell ⟨w.heap.size, 5, none⟩ (.string (t 5))).drew = W3 at hr3 hb3 ⊢
    have s0 := hr3.cell 0; have s1 := hr3.cell 1; have s2 := hr3.cell 2; have s3 := hr3.cell 3; have s4 := hr3.cell 4; have s5 := hr3.cell 5
    exact bodyPost_ret (by simp [results, Tryz.results102, go_sem, s0, s1, s2, s3, s4, s5]; try rfl) rfl ⟨rfl, hb3⟩

set_option maxHeartbeats 4000000 in
set_option maxRecDepth 100000 in
theorem summed_any (q r : Nat → Rat) (w : World) (hq : ∀ i, i < 6 → Dig 24 (q i)) (hr : ∀ i, i < 6 → Dig 24 (r i)) :
    Calls Tryz.prog 123 #[.agg #[.string (qt (q 0)), .string (qt (q 1)), .string (qt (q 2)), .string (qt (q 3)), .string (qt (q 4)), .string (qt (q 5))], .agg #[.string (qt (r 0)), .string (qt (r 1)), .string (qt (r 2)), .string (qt (r 3)), .string (qt (r 4)), .string (qt (r 5))]] w fun e w' => e = .returned (.agg #[.string (qt (q 0 + r 0)), .string (qt (q 1 + r 1)), .string (qt (q 2 + r 2)), .string (qt (q 3 + r 3)), .string (qt (q 4 + r 4)), .string (qt (q 5 + r 5))]) ∧ Below w.heap.size w w' := by
  obtain ⟨t, ht⟩ : ∃ t : Nat → ByteArray, t = fun i => qt (q i) := ⟨_, rfl⟩
  obtain ⟨u, hu⟩ : ∃ t : Nat → ByteArray, t = fun i => qt (r i) := ⟨_, rfl⟩
  obtain ⟨s, hs⟩ : ∃ t : Nat → ByteArray, t = fun i => qt (q i + r i) := ⟨_, rfl⟩
  have CP : Hid (∀ i, i < 6 → ∀ w, Calls Tryz.prog 37 #[.string (t i), .string (u i)] w fun e w' => e = .returned (.string (s i)) ∧ Below w.heap.size w w') := Lib.hid (fun i hi w => by
    have h := refQPlus_any (q i) (r i) w ((hq i hi).mono (by decide)) ((hr i hi).mono (by decide))
    subst ht hu hs
    exact h)
  rw [show (#[.string (qt (q 0)), .string (qt (q 1)), .string (qt (q 2)), .string (qt (q 3)), .string (qt (q 4)), .string (qt (q 5))] : Array Value) = #[.string (t 0), .string (t 1), .string (t 2), .string (t 3), .string (t 4), .string (t 5)] from by rw [ht], show (#[.string (qt (r 0)), .string (qt (r 1)), .string (qt (r 2)), .string (qt (r 3)), .string (qt (r 4)), .string (qt (r 5))] : Array Value) = #[.string (u 0), .string (u 1), .string (u 2), .string (u 3), .string (u 4), .string (u 5)] from by rw [hu], show (#[.string (qt (q 0 + r 0)), .string (qt (q 1 + r 1)), .string (qt (q 2 + r 2)), .string (qt (q 3 + r 3)), .string (qt (q 4 + r 4)), .string (qt (q 5 + r 5))] : Array Value) = #[.string (s 0), .string (s 1), .string (s 2), .string (s 3), .string (s 4), .string (s 5)] from by rw [hs]]
  have NQ := Lib.hid (refTorNumbers_any t)
  have NR := Lib.hid (refTorNumbers_any u)
  obtain ⟨i0, hi, hz0, hz1, hz2⟩ := info_parts info22
  have HB0 := Lib.hid (below_three w (.cells #[.string (t 0), .string (t 1), .string (t 2), .string (t 3), .string (t 4), .string (t 5)] 25) (.cells #[.string (u 0), .string (u 1), .string (u 2), .string (u 3), .string (u 4), .string (u 5)] 25) (.cells #[.string ⟨#[]⟩, .string ⟨#[]⟩, .string ⟨#[]⟩, .string ⟨#[]⟩, .string ⟨#[]⟩, .string ⟨#[]⟩] 25))
  have HT0 := Lib.hid (((blk_new w #[.string (t 0), .string (t 1), .string (t 2), .string (t 3), .string (t 4), .string (t 5)] 25).alloc (.cells #[.string (u 0), .string (u 1), .string (u 2), .string (u 3), .string (u 4), .string (u 5)] 25)).alloc (.cells #[.string ⟨#[]⟩, .string ⟨#[]⟩, .string ⟨#[]⟩, .string ⟨#[]⟩, .string ⟨#[]⟩, .string ⟨#[]⟩] 25))
  have HU0 := Lib.hid ((blk_new1 w (.cells #[.string (t 0), .string (t 1), .string (t 2), .string (t 3), .string (t 4), .string (t 5)] 25) #[.string (u 0), .string (u 1), .string (u 2), .string (u 3), .string (u 4), .string (u 5)] 25).alloc (.cells #[.string ⟨#[]⟩, .string ⟨#[]⟩, .string ⟨#[]⟩, .string ⟨#[]⟩, .string ⟨#[]⟩, .string ⟨#[]⟩] 25))
  have HR0 := Lib.hid (blk_new2 w (.cells #[.string (t 0), .string (t 1), .string (t 2), .string (t 3), .string (t 4), .string (t 5)] 25) (.cells #[.string (u 0), .string (u 1), .string (u 2), .string (u 3), .string (u 4), .string (u 5)] 25) #[.string ⟨#[]⟩, .string ⟨#[]⟩, .string ⟨#[]⟩, .string ⟨#[]⟩, .string ⟨#[]⟩, .string ⟨#[]⟩] 25)
  clear hq hr ht hu hs
  go_enter Tryz.func123, Tryz.ntmps123
  go_wp2_with fail
  generalize (((w.alloc (.cells #[.string (t 0), .string (t 1), .string (t 2), .string (t 3), .string (t 4), .string (t 5)] 25)).alloc (.cells #[.string (u 0), .string (u 1), .string (u 2), .string (u 3), .string (u 4), .string (u 5)] 25)).alloc (.cells #[.string ⟨#[]⟩, .string ⟨#[]⟩, .string ⟨#[]⟩, .string ⟨#[]⟩, .string ⟨#[]⟩, .string ⟨#[]⟩] 25)) = W0 at HB0 HT0 HU0 HR0 ⊢
  have t00 := HT0.out.cell 0; have t01 := HT0.out.cell 1; have t02 := HT0.out.cell 2; have t03 := HT0.out.cell 3; have t04 := HT0.out.cell 4; have t05 := HT0.out.cell 5; have u00 := HU0.out.cell 0; have u01 := HU0.out.cell 1; have u02 := HU0.out.cell 2; have u03 := HU0.out.cell 3; have u04 := HU0.out.cell 4; have u05 := HU0.out.cell 5
  go_region_held3 (fun w' => w'.cell? ⟨w.heap.size, 0, none⟩ = some (.string (t 0)) ∧ w'.cell? ⟨w.heap.size, 1, none⟩ = some (.string (t 1)) ∧ w'.cell? ⟨w.heap.size, 2, none⟩ = some (.string (t 2)) ∧ w'.cell? ⟨w.heap.size, 3, none⟩ = some (.string (t 3)) ∧ w'.cell? ⟨w.heap.size, 4, none⟩ = some (.string (t 4)) ∧ w'.cell? ⟨w.heap.size, 5, none⟩ = some (.string (t 5)) ∧ w'.cell? ⟨w.heap.size + 1, 0, none⟩ = some (.string (u 0)) ∧ w'.cell? ⟨w.heap.size + 1, 1, none⟩ = some (.string (u 1)) ∧ w'.cell? ⟨w.heap.size + 1, 2, none⟩ = some (.string (u 2)) ∧ w'.cell? ⟨w.heap.size + 1, 3, none⟩ = some (.string (u 3)) ∧ w'.cell? ⟨w.heap.size + 1, 4, none⟩ = some (.string (u 4)) ∧ w'.cell? ⟨w.heap.size + 1, 5, none⟩ = some (.string (u 5)))
    (first | go_keep | exact ⟨t00, t01, t02, t03, t04, t05, u00, u01, u02, u03, u04, u05⟩ | exact ⟨ta0, ta1, ta2, ta3, ta4, ta5, ua0, ua1, ua2, ua3, ua4, ua5⟩ | exact ⟨tb0, tb1, tb2, tb3, tb4, tb5, ub0, ub1, ub2, ub3, ub4, ub5⟩)
    (first
      | (go_at_call 91; first
        | (have hx := HBa; clear hx; refine (NR.out _).mono ?_; rintro e wb ⟨gu, rfl, hgu, hxu, hlu, hbb⟩; have HBb := Lib.hid (HBa.out.trans (hbb.mono HBa.out.size)); have HTb := Lib.hid (Blk.later (HTa.out) hbb); have HUb := Lib.hid (Blk.later (HUa.out) hbb); have HRb := Lib.hid (Blk.later (HRa.out) hbb); have tb0 := HTb.out.cell 0; have tb1 := HTb.out.cell 1; have tb2 := HTb.out.cell 2; have tb3 := HTb.out.cell 3; have tb4 := HTb.out.cell 4; have tb5 := HTb.out.cell 5; have ub0 := HUb.out.cell 0; have ub1 := HUb.out.cell 1; have ub2 := HUb.out.cell 2; have ub3 := HUb.out.cell 3; have ub4 := HUb.out.cell 4; have ub5 := HUb.out.cell 5; have HXa := Lib.hid (TextsAt.below HXt.out hbb HLt.out); have HXb := Lib.hid hxu; have HLa := Lib.hid (Nat.lt_of_lt_of_le HLt.out hbb.size); have HLb := Lib.hid hlu; clear hbb hgu hxu hlu)
        | (refine (NQ.out _).mono ?_; rintro e wa ⟨gt, rfl, hgt, hxt, hlt, hba⟩; have HBa := Lib.hid (HB0.out.drew.trans (hba.mono HB0.out.drew.size)); have HTa := Lib.hid (Blk.later (HT0.out.drew) hba); have HUa := Lib.hid (Blk.later (HU0.out.drew) hba); have HRa := Lib.hid (Blk.later (HR0.out.drew) hba); have ta0 := HTa.out.cell 0; have ta1 := HTa.out.cell 1; have ta2 := HTa.out.cell 2; have ta3 := HTa.out.cell 3; have ta4 := HTa.out.cell 4; have ta5 := HTa.out.cell 5; have ua0 := HUa.out.cell 0; have ua1 := HUa.out.cell 1; have ua2 := HUa.out.cell 2; have ua3 := HUa.out.cell 3; have ua4 := HUa.out.cell 4; have ua5 := HUa.out.cell 5; have HXt := Lib.hid hxt; have HLt := Lib.hid hlt; clear hba hgt hxt hlt)))
  all_goals
    go_wp2_with fail
    obtain ⟨N, hN⟩ : ∃ N : Nat, N = 6 := ⟨_, rfl⟩
    have HN := Lib.hid hN
    clear hN t00 t01 t02 t03 t04 t05 u00 u01 u02 u03 u04 u05 ta0 ta1 ta2 ta3 ta4 ta5 ua0 ua1 ua2 ua3 ua4 ua5 tb0 tb1 tb2 tb3 tb4 tb5 ub0 ub1 ub2 ub3 ub4 ub5
    go_loopg [7, 8] N (fun d v i wr => ∃ j : Nat, i = .int .i64 j ∧ j ≤ 6 ∧ d = N - j ∧ OwnT wr wb.heap.size v s j ∧ Below wb.heap.size wb wr)
    case atStart => exact ⟨0, rfl, by decide, rfl, OwnT.start _ _ _, Below.refl _ _⟩
    case round =>
      obtain ⟨j, rfl, hj, rfl, hv, hb⟩ := hrel
      by_cases hlt : j < 6
      · have hj0 : (0 : Int) ≤ (j : Int) := by omega
        have hj6 : (j : Int) < 6 := by omega
        have ct := (hb.cell (p := ⟨gt, j, none⟩) HLa.out).trans (HXa.out j hlt)
        have cu := (hb.cell (p := ⟨gu, j, none⟩) HLb.out).trans (HXb.out j hlt)
        have HV := Lib.hid hv; have HB := Lib.hid hb
        clear hv hb
        have HC0 := Lib.hid (⟨ct, cu⟩ : wr.cell? ⟨gt, j, none⟩ = some (.string (t j)) ∧ wr.cell? ⟨gu, j, none⟩ = some (.string (u j)))
        have hwj : IntKind.i64.wrap ((j : Int) + 1) = (j : Int) + 1 := by rw [IntKind.wrap_i64]; omega
        have hjn : ((j : Int)).toNat = j := Int.toNat_natCast j
        go_wp2_with fail
        go_region_held3 (fun w' => w'.cell? ⟨gt, j, none⟩ = some (.string (t j)) ∧ w'.cell? ⟨gu, j, none⟩ = some (.string (u j)))
          (first | exact HC0.out | exact HCa.out | exact HCb.out | exact HCc.out)
          (first
            | (go_at_call 37; refine (CP.out j hlt _).mono ?_; rintro e w1 ⟨rfl, hb1⟩; have HB1 := Lib.hid (HB.out.drew.trans (hb1.mono HB.out.drew.size)); have HCa := Lib.hid (⟨(HB1.out.cell (p := ⟨gt, j, none⟩) HLa.out).trans (HXa.out j hlt), (HB1.out.cell (p := ⟨gu, j, none⟩) HLb.out).trans (HXb.out j hlt)⟩ : w1.cell? ⟨gt, j, none⟩ = some (.string (t j)) ∧ w1.cell? ⟨gu, j, none⟩ = some (.string (u j))); have HB2 := Lib.hid (HB1.out.alloc HB1.out.size (.cells #[.string (s j)] 22)); have HCb := Lib.hid (⟨(HB2.out.cell (p := ⟨gt, j, none⟩) HLa.out).trans (HXa.out j hlt), (HB2.out.cell (p := ⟨gu, j, none⟩) HLb.out).trans (HXb.out j hlt)⟩ : (w1.alloc (.cells #[.string (s j)] 22)).cell? ⟨gt, j, none⟩ = some (.string (t j)) ∧ (w1.alloc (.cells #[.string (s j)] 22)).cell? ⟨gu, j, none⟩ = some (.string (u j))); have HV1 := Lib.hid ((OwnT.below (w := wr.drew) HV.out hb1).below (below_one w1 (.cells #[.string (s j)] 22))); have hnew := Lib.hid (blk_new w1 #[.string (s j)] 22); clear hb1)
            | (refine step_append_lies _ rfl _ _ 39 rfl wb.heap.size 22 i0 (.string ⟨#[]⟩) 1 16 Tryz.underlying39 hi hz0 hz1 hz2 rfl (by decide) _ j (txl s j) rfl HV1.out ⟨w1.heap.size, 0, none⟩ 1 1 [.string (s j)] rfl rfl (World.news_of_block (cs := #[.string (s j)]) hnew.out) (by intro u hu; simp at hu; subst hu; rfl) (by decide) (by unfold maxLen; omega) (by omega) HB2.out.size _ rfl ?_; intro g cap w2 hown' hgrow hat hlt2; have HO := Lib.hid (show OwnT w2 wb.heap.size (.slice (some ⟨g, 0, none⟩) (j + 1) cap) s (j + 1) from by unfold OwnT; rw [txl_succ]; exact hown'); have HB3 := Lib.hid (HB2.out.grown hgrow HB2.out.size (fun k hk => (World.ownsRow.lt HV1.out k hk).1)); have HCc := Lib.hid (⟨(HB3.out.cell (p := ⟨gt, j, none⟩) HLa.out).trans (HXa.out j hlt), (HB3.out.cell (p := ⟨gu, j, none⟩) HLb.out).trans (HXb.out j hlt)⟩ : w2.cell? ⟨gt, j, none⟩ = some (.string (t j)) ∧ w2.cell? ⟨gu, j, none⟩ = some (.string (u j))); clear hown' hgrow hat hlt2))
        all_goals
          go_wp2_with fail
          go_roundg (N - (j + 1))
          case measure => have := HN.out; omega
          case rel => exact ⟨j + 1, by go_num, by omega, rfl, HO.out, HB3.out⟩
      · have hj6 : j = 6 := by omega
        subst hj6
        obtain ⟨g, cap, rfl, hg1, hg2, _, _, hx⟩ := hv.open (by decide)
        have CM : Hid (∀ W, Below wr.heap.size wr W → True) := Lib.hid (fun _ _ => trivial)
        have HB := Lib.hid (HBb.out.trans (hb.mono HBb.out.size)); have HR := Lib.hid (HRb.out.later hb)
        have MA := Lib.hid (refMade_any6 s g cap wr hg2 hx)
        clear hv hb hx
        go_wp2_with fail
        refine MA.out.mono ?_
        rintro e w3 ⟨rfl, hb⟩
        have HB3 := Lib.hid (HB.out.trans (hb.mono HB.out.size)); have HR3 := Lib.hid (HR.out.later hb)
        clear hb
        have r0 := HR3.out.cell 0; have r1 := HR3.out.cell 1; have r2 := HR3.out.cell 2; have r3 := HR3.out.cell 3; have r4 := HR3.out.cell 4; have r5 := HR3.out.cell 5
        have f0 := HR3.out.free 0; have f1 := HR3.out.free 1; have f2 := HR3.out.free 2; have f3 := HR3.out.free 3; have f4 := HR3.out.free 4; have f5 := HR3.out.free 5
        go_wp2_with fail
        have hr3 := (Blk.set (Blk.set (Blk.set (Blk.set (Blk.set (Blk.set HR3.out 0 (.string (s 0))) 1 (.string (s 1))) 2 (.string (s 2))) 3 (.string (s 3))) 4 (.string (s 4))) 5 (.string (s 5)))
        have hb3 := (Below.setCell (p := ⟨w.heap.size + 1 + 1, 5, none⟩) (Below.setCell (p := ⟨w.heap.size + 1 + 1, 4, none⟩) (Below.setCell (p := ⟨w.heap.size + 1 + 1, 3, none⟩) (Below.setCell (p := ⟨w.heap.size + 1 + 1, 2, none⟩) (Below.setCell (p := ⟨w.heap.size + 1 + 1, 1, none⟩) (Below.setCell (p := ⟨w.heap.size + 1 + 1, 0, none⟩) HB3.out (by show _ ≤ w.heap.size + 1 + 1; omega) (.string (s 0))) (by show _ ≤ w.heap.size + 1 + 1; omega) (.string (s 1))) (by show _ ≤ w.heap.size + 1 + 1; omega) (.string (s 2))) (by show _ ≤ w.heap.size + 1 + 1; omega) (.string (s 3))) (by show _ ≤ w.heap.size + 1 + 1; omega) (.string (s 4))) (by show _ ≤ w.heap.size + 1 + 1; omega) (.string (s 5)))
        generalize ((((((w3.setCell ⟨w.heap.size + 1 + 1, 0, none⟩ (.string (s 0))).setCell ⟨w.heap.size + 1 + 1, 1, none⟩ (.string (s 1))).setCell ⟨w.heap.size + 1 + 1, 2, none⟩ (.string (s 2))).setCell ⟨w.heap.size + 1 + 1, 3, none⟩ (.string (s 3))).setCell ⟨w.heap.size + 1 + 1, 4, none⟩ (.string (s 4))).setCell ⟨w.heap.size + 1 + 1, 5, none⟩ (.string (s 5))) = W3 at hr3 hb3 ⊢
        have s0 := hr3.cell 0; have s1 := hr3.cell 1; have s2 := hr3.cell 2; have s3 := hr3.cell 3; have s4 := hr3.cell 4; have s5 := hr3.cell 5
        exact bodyPost_ret (by simp [results, Tryz.results123, go_sem, s0, s1, s2, s3, s4, s5]; try rfl) rfl ⟨rfl, hb3⟩
end Go.Proofs.YtbpegjgpdgeadaaGreatDoor
namespace Go.Proofs.YtbpegjgpdgeadaaGreatDoor
open Go Go.RowKit Metro
open Go.Lib (nDigits decDigits)

set_option maxHeartbeats 1000000 in
set_option maxRecDepth 100000 in
/-- One product of the function that Scale hands on. -/
theorem scaleF_any (k : Rat) (r : Nat → Rat) (i gx gy : Nat) (w : World) (hE : Env w) (hi : i < 6) (hx : w.cell? ⟨gx, 0, none⟩ = some (.string (qt k))) (hy : TextsAt w gy (fun i => qt (r i)) 6) (hk : Dig 24 k) (hr : ∀ i, i < 6 → Dig 24 (r i)) :
    Calls Tryz.prog 124 #[.int .i64 (i : Nat), .pointer (some ⟨gx, 0, none⟩), .pointer (some ⟨gy, 0, none⟩)] w fun e w' => e = .returned (.tuple #[.string (qt (k * r i)), .int .i64 0]) ∧ Below w.heap.size w w' := by
  have C := Lib.hid (fun w hE => qmul_any k (r i) 24 24 w hE hk (hr i hi) (by decide))
  have c0 := hx; have c1 := hy i hi
  have h0 : (0 : Int) ≤ (i : Int) := by omega
  have h6 : (i : Int) < 6 := by omega
  have HE := Lib.hid hE
  clear hx hy hk hr hE
  go_enter Tryz.func124, Tryz.ntmps124
  go_wp2_with fail
  go_region_held3 (fun w' => w'.cell? ⟨gx, 0, none⟩ = some (.string (qt k)) ∧ w'.cell? ⟨gy, i, none⟩ = some (.string (qt (r i))))
    (first | go_keep | exact ⟨c0, c1⟩ | exact HC.out)
    (first | (go_at_call 81; refine (C.out _ (HE.out.drew)).mono ?_; rintro e w1 ⟨rfl, hb⟩; have HB1 := Lib.hid hb; have HC := Lib.hid (⟨(hb.cell (p := ⟨gx, 0, none⟩) (World.block_lt_of_cell? w _ c0)).trans c0, (hb.cell (p := ⟨gy, i, none⟩) (World.block_lt_of_cell? w _ c1)).trans c1⟩ : w1.cell? ⟨gx, 0, none⟩ = some (.string (qt k)) ∧ w1.cell? ⟨gy, i, none⟩ = some (.string (qt (r i)))); clear hb))
  all_goals
    go_wp2_with fail
    go_ret2
    exact ⟨rfl, (Below.refl w.heap.size w).drew.trans HB1.out⟩

set_option maxHeartbeats 2000000 in
set_option maxRecDepth 100000 in
/-- Six texts that a function makes. -/
theorem mappedScale_any (s : Nat → ByteArray) (gx gy : Nat) (w : World) (hf : ∀ i, i < 6 → ∀ W, Below w.heap.size w W → Calls Tryz.prog 124 #[.int .i64 (i : Nat), .pointer (some ⟨gx, 0, none⟩), .pointer (some ⟨gy, 0, none⟩)] W fun e w' => e = .returned (.tuple #[.string (s i), .int .i64 0]) ∧ Below W.heap.size W w') :
    Calls Tryz.prog 121 #[.func (.func 124) #[] #[.pointer (some ⟨gx, 0, none⟩), .pointer (some ⟨gy, 0, none⟩)]] w fun e w' => e = .returned (.tuple #[.agg #[.string (s 0), .string (s 1), .string (s 2), .string (s 3), .string (s 4), .string (s 5)], .int .i64 0]) ∧ Below w.heap.size w w' := by
  have CF := Lib.hid hf
  have MA := Lib.hid (made_agg (s 0) (s 1) (s 2) (s 3) (s 4) (s 5))
  have HB0 := Lib.hid (below_two w (.cells #[.string ⟨#[]⟩, .string ⟨#[]⟩, .string ⟨#[]⟩, .string ⟨#[]⟩, .string ⟨#[]⟩, .string ⟨#[]⟩] 25) (.cells #[.string ⟨#[]⟩, .string ⟨#[]⟩, .string ⟨#[]⟩, .string ⟨#[]⟩, .string ⟨#[]⟩, .string ⟨#[]⟩] 136))
  have HR0 := Lib.hid ((blk_new w #[.string ⟨#[]⟩, .string ⟨#[]⟩, .string ⟨#[]⟩, .string ⟨#[]⟩, .string ⟨#[]⟩, .string ⟨#[]⟩] 25).alloc (.cells #[.string ⟨#[]⟩, .string ⟨#[]⟩, .string ⟨#[]⟩, .string ⟨#[]⟩, .string ⟨#[]⟩, .string ⟨#[]⟩] 136))
  have HO0 := Lib.hid (blk_new1 w (.cells #[.string ⟨#[]⟩, .string ⟨#[]⟩, .string ⟨#[]⟩, .string ⟨#[]⟩, .string ⟨#[]⟩, .string ⟨#[]⟩] 25) #[.string ⟨#[]⟩, .string ⟨#[]⟩, .string ⟨#[]⟩, .string ⟨#[]⟩, .string ⟨#[]⟩, .string ⟨#[]⟩] 136)
  rw [← o6_zero s] at HB0 HR0 HO0
  have HST := Lib.hid (fun k hk => o6_set s (k := k) hk)
  clear hf
  go_enter Tryz.func121, Tryz.ntmps121
  go_wp2_with fail
  rw [← o6_zero s]
  generalize ((w.alloc (.cells (o6 s 0) 25)).alloc (.cells (o6 s 0) 136)) = W0 at HB0 HR0 HO0 ⊢
  obtain ⟨N, hN⟩ : ∃ N : Nat, N = 6 := ⟨_, rfl⟩
  have HN := Lib.hid hN
  clear hN
  go_loopg [8] N (fun d i wr => ∃ j : Nat, i = .int .i64 j ∧ j ≤ 6 ∧ d = N - j ∧ Below w.heap.size w wr ∧ Blk wr w.heap.size (o6 s 0) 25 ∧ Blk wr (w.heap.size + 1) (o6 s j) 136)
  case atStart => exact ⟨0, rfl, by decide, rfl, HB0.out, HR0.out, HO0.out⟩
  case round =>
    obtain ⟨j, rfl, hj, rfl, hb, hr, ho⟩ := hrel
    have HB := Lib.hid hb; have HR := Lib.hid hr; have HO := Lib.hid ho
    clear hb hr ho
    by_cases hlt : j < 6
    · have hj0 : (0 : Int) ≤ (j : Int) := by omega
      have hj6 : (j : Int) < 6 := by omega
      go_wp2_with fail
      refine (CF.out j hlt _ HB.out).mono ?_
      rintro e w1 ⟨rfl, hb⟩
      have HB1 := Lib.hid (HB.out.trans (hb.mono HB.out.size)); have HR1 := Lib.hid (HR.out.later hb); have HO1 := Lib.hid (HO.out.later hb)
      clear hb
      have c0 := Blk.cg HO1.out (i := j) (by rw [o6_size]; exact hlt)
      have f0 := HO1.out.free j
      go_wp2_with fail
      go_roundg (N - (j + 1))
      case measure => have := HN.out; omega
      case rel =>
        refine ⟨j + 1, by go_num, by omega, rfl, HB1.out.setCell (p := ⟨w.heap.size + 1, j, none⟩) (by show _ ≤ w.heap.size + 1; omega) _, HR1.out.other (by show w.heap.size + 1 ≠ _; omega) _, ?_⟩
        rw [← HST.out j hlt]
        exact HO1.out.set j _
    · have hj6 : j = 6 := by omega
      subst hj6
      rw [o6_six] at HO
      rw [o6_zero] at HR
      have o0 := HO.out.cell 0; have o1 := HO.out.cell 1; have o2 := HO.out.cell 2; have o3 := HO.out.cell 3; have o4 := HO.out.cell 4; have o5 := HO.out.cell 5
      go_wp2_with fail
      refine (MA.out _).mono ?_
      rintro e w1 ⟨rfl, hb⟩
      have HB1 := Lib.hid (HB.out.trans (hb.mono HB.out.size)); have HR1 := Lib.hid (HR.out.later hb)
      clear hb o0 o1 o2 o3 o4 o5
      have r0 := HR1.out.cell 0; have r1 := HR1.out.cell 1; have r2 := HR1.out.cell 2; have r3 := HR1.out.cell 3; have r4 := HR1.out.cell 4; have r5 := HR1.out.cell 5
      have f0 := HR1.out.free 0; have f1 := HR1.out.free 1; have f2 := HR1.out.free 2; have f3 := HR1.out.free 3; have f4 := HR1.out.free 4; have f5 := HR1.out.free 5
      go_wp2_with fail
      have hr3 := (Blk.set (Blk.set (Blk.set (Blk.set (Blk.set (Blk.set HR1.out 0 (.string (s 0))) 1 (.string (s 1))) 2 (.string (s 2))) 3 (.string (s 3))) 4 (.string (s 4))) 5 (.string (s 5)))
      have hb3 := (Below.setCell (p := ⟨w.heap.size, 5, none⟩) (Below.setCell (p := ⟨w.heap.size, 4, none⟩) (Below.setCell (p := ⟨w.heap.size, 3, none⟩) (Below.setCell (p := ⟨w.heap.size, 2, none⟩) (Below.setCell (p := ⟨w.heap.size, 1, none⟩) (Below.setCell (p := ⟨w.heap.size, 0, none⟩) HB1.out (Nat.le_refl _) (.string (s 0))) (Nat.le_refl _) (.string (s 1))) (Nat.le_refl _) (.string (s 2))) (Nat.le_refl _) (.string (s 3))) (Nat.le_refl _) (.string (s 4))) (Nat.le_refl _) (.string (s 5)))
      generalize ((((((w1.setCell ⟨w.heap.size, 0, none⟩ (.string (s 0))).setCell ⟨w.heap.size, 1, none⟩ (.string (s 1))).setCell ⟨w.heap.size, 2, none⟩ (.string (s 2))).setCell ⟨w.heap.size, 3, none⟩ (.string (s 3))).setCell ⟨w.heap.size, 4, none⟩ (.string (s 4))).setCell ⟨w.heap.size, 5, none⟩ (.string (s 5))) = W3 at hr3 hb3 ⊢
      have s0 := hr3.cell 0; have s1 := hr3.cell 1; have s2 := hr3.cell 2; have s3 := hr3.cell 3; have s4 := hr3.cell 4; have s5 := hr3.cell 5
      exact bodyPost_ret (by simp [results, Tryz.results121, go_sem, s0, s1, s2, s3, s4, s5]; try rfl) rfl ⟨rfl, hb3⟩

/-- The error of a number and a torsor. -/
def fek (s : ByteArray) (t : Nat → ByteArray) : Nat := if chkQ s.data.toList = 0 then fe t 6 else chkQ s.data.toList

theorem blk_newE (w : World) (o p q : Obj) (cs : Array Value) (T : Nat) : Blk ((((w.alloc o).alloc p).alloc q).alloc (.cells cs T)) (w.heap.size + 1 + 1 + 1) cs T := blk_new3 w o p q cs T

set_option maxHeartbeats 2000000 in
set_option maxRecDepth 100000 in
theorem scaleErrK_any (s : ByteArray) (t : Nat → ByteArray) (w : World) (hE : Env w) (hs : s.size ≤ 24) (ht : ∀ i, i < 6 → (t i).size ≤ 24) (hc : chkQ s.data.toList ≠ 0) :
    Calls Tryz.prog 42 #[.string s, .agg #[.string (t 0), .string (t 1), .string (t 2), .string (t 3), .string (t 4), .string (t 5)]] w fun e w' => e = .returned (.tuple #[.agg #[.string ⟨#[]⟩, .string ⟨#[]⟩, .string ⟨#[]⟩, .string ⟨#[]⟩, .string ⟨#[]⟩, .string ⟨#[]⟩], .int .i64 (chkQ s.data.toList : Nat)]) ∧ Below w.heap.size w w' := by
  have K : Hid (∀ g w, Env w → Blk w g #[.string s] 22 → Calls Tryz.prog 100 #[.slice (some ⟨g, 0, none⟩) 1 1] w fun e w' => e = .returned (.int .i64 (chkQ s.data.toList : Int)) ∧ Below w.heap.size w w') := Lib.hid (fun g w hE h => by
    have hz : fe (fun _ => s) 1 = chkQ s.data.toList := by rw [fe, fe]; rfl
    have := canonical_any g 1 (fun _ => s) w hE (by decide) (fun i hi => by
      rw [h.cell]
      match i, hi with
      | 0, _ => rfl) (fun _ _ => Nat.le_trans hs (by decide))
    rw [hz] at this
    exact this)
  have CT := Lib.hid (fun w hE => torCheck_any t w hE (fun i hi => Nat.le_trans (ht i hi) (by decide)))
  obtain ⟨E, hEE⟩ : ∃ E, E = chkQ s.data.toList := ⟨_, rfl⟩
  rw [← hEE] at K hc ⊢
  have hne : ((E : Int) == 0) = false := by rw [beq_eq_false_iff_ne]; omega
  have HE := Lib.hid hE
  have HB0 := Lib.hid (below_three w (.cells #[.string s] 22) (.cells #[.string (t 0), .string (t 1), .string (t 2), .string (t 3), .string (t 4), .string (t 5)] 25) (.cells #[.string ⟨#[]⟩, .string ⟨#[]⟩, .string ⟨#[]⟩, .string ⟨#[]⟩, .string ⟨#[]⟩, .string ⟨#[]⟩] 25))
  have HK0 := Lib.hid (((blk_new w #[.string s] 22).alloc (.cells #[.string (t 0), .string (t 1), .string (t 2), .string (t 3), .string (t 4), .string (t 5)] 25)).alloc (.cells #[.string ⟨#[]⟩, .string ⟨#[]⟩, .string ⟨#[]⟩, .string ⟨#[]⟩, .string ⟨#[]⟩, .string ⟨#[]⟩] 25))
  have HT0 := Lib.hid ((blk_new1 w (.cells #[.string s] 22) #[.string (t 0), .string (t 1), .string (t 2), .string (t 3), .string (t 4), .string (t 5)] 25).alloc (.cells #[.string ⟨#[]⟩, .string ⟨#[]⟩, .string ⟨#[]⟩, .string ⟨#[]⟩, .string ⟨#[]⟩, .string ⟨#[]⟩] 25))
  have HR0 := Lib.hid (blk_new2 w (.cells #[.string s] 22) (.cells #[.string (t 0), .string (t 1), .string (t 2), .string (t 3), .string (t 4), .string (t 5)] 25) #[.string ⟨#[]⟩, .string ⟨#[]⟩, .string ⟨#[]⟩, .string ⟨#[]⟩, .string ⟨#[]⟩, .string ⟨#[]⟩] 25)
  clear hE hs ht hc hEE
  go_enter Tryz.func42, Tryz.ntmps42
  go_wp2_with fail
  refine (K.out _ _ ?_ (blk_newE w _ _ _ _ _)).mono ?_
  · exact HE.out.below (HB0.out.alloc HB0.out.size _)
  rintro e w1 ⟨rfl, hb⟩
  have HB1 := Lib.hid ((HB0.out.alloc HB0.out.size (.cells #[.string s] 22)).trans (hb.mono (by have := HB0.out.size; simp; omega))); have HK1 := Lib.hid ((HK0.out.alloc (.cells #[.string s] 22)).later hb); have HT1 := Lib.hid ((HT0.out.alloc (.cells #[.string s] 22)).later hb); have HR1 := Lib.hid ((HR0.out.alloc (.cells #[.string s] 22)).later hb)
  clear hb
  have r0 := HR1.out.cell 0; have r1 := HR1.out.cell 1; have r2 := HR1.out.cell 2; have r3 := HR1.out.cell 3; have r4 := HR1.out.cell 4; have r5 := HR1.out.cell 5
  have f0 := HR1.out.free 0; have f1 := HR1.out.free 1; have f2 := HR1.out.free 2; have f3 := HR1.out.free 3; have f4 := HR1.out.free 4; have f5 := HR1.out.free 5
  go_wp2_with fail
  have hr3 := (Blk.set (Blk.set (Blk.set (Blk.set (Blk.set (Blk.set HR1.out 0 (.string ⟨#[]⟩)) 1 (.string ⟨#[]⟩)) 2 (.string ⟨#[]⟩)) 3 (.string ⟨#[]⟩)) 4 (.string ⟨#[]⟩)) 5 (.string ⟨#[]⟩))
  have hb3 := (Below.setCell (p := ⟨w.heap.size + 1 + 1, 5, none⟩) (Below.setCell (p := ⟨w.heap.size + 1 + 1, 4, none⟩) (Below.setCell (p := ⟨w.heap.size + 1 + 1, 3, none⟩) (Below.setCell (p := ⟨w.heap.size + 1 + 1, 2, none⟩) (Below.setCell (p := ⟨w.heap.size + 1 + 1, 1, none⟩) (Below.setCell (p := ⟨w.heap.size + 1 + 1, 0, none⟩) HB1.out (by show _ ≤ w.heap.size + 1 + 1; omega) (.string ⟨#[]⟩)) (by show _ ≤ w.heap.size + 1 + 1; omega) (.string ⟨#[]⟩)) (by show _ ≤ w.heap.size + 1 + 1; omega) (.string ⟨#[]⟩)) (by show _ ≤ w.heap.size + 1 + 1; omega) (.string ⟨#[]⟩)) (by show _ ≤ w.heap.size + 1 + 1; omega) (.string ⟨#[]⟩)) (by show _ ≤ w.heap.size + 1 + 1; omega) (.string ⟨#[]⟩))
  generalize ((((((w1.setCell ⟨w.heap.size + 1 + 1, 0, none⟩ (.string ⟨#[]⟩)).setCell ⟨w.heap.size + 1 + 1, 1, none⟩ (.string ⟨#[]⟩)).setCell ⟨w.heap.size + 1 + 1, 2, none⟩ (.string ⟨#[]⟩)).setCell ⟨w.heap.size + 1 + 1, 3, none⟩ (.string ⟨#[]⟩)).setCell ⟨w.heap.size + 1 + 1, 4, none⟩ (.string ⟨#[]⟩)).setCell ⟨w.heap.size + 1 + 1, 5, none⟩ (.string ⟨#[]⟩)) = W3 at hr3 hb3 ⊢
  have s0 := hr3.cell 0; have s1 := hr3.cell 1; have s2 := hr3.cell 2; have s3 := hr3.cell 3; have s4 := hr3.cell 4; have s5 := hr3.cell 5
  exact bodyPost_ret (by simp [results, Tryz.results42, go_sem, s0, s1, s2, s3, s4, s5]; try rfl) rfl ⟨rfl, hb3⟩

set_option maxHeartbeats 2000000 in
set_option maxRecDepth 100000 in
theorem scaleErrT_any (s : ByteArray) (t : Nat → ByteArray) (w : World) (hE : Env w) (hs : s.size ≤ 24) (ht : ∀ i, i < 6 → (t i).size ≤ 24) (hc : chkQ s.data.toList = 0) (h0 : fe t 6 ≠ 0) :
    Calls Tryz.prog 42 #[.string s, .agg #[.string (t 0), .string (t 1), .string (t 2), .string (t 3), .string (t 4), .string (t 5)]] w fun e w' => e = .returned (.tuple #[.agg #[.string ⟨#[]⟩, .string ⟨#[]⟩, .string ⟨#[]⟩, .string ⟨#[]⟩, .string ⟨#[]⟩, .string ⟨#[]⟩], .int .i64 (fe t 6 : Nat)]) ∧ Below w.heap.size w w' := by
  have K : Hid (∀ g w, Env w → Blk w g #[.string s] 22 → Calls Tryz.prog 100 #[.slice (some ⟨g, 0, none⟩) 1 1] w fun e w' => e = .returned (.int .i64 (chkQ s.data.toList : Int)) ∧ Below w.heap.size w w') := Lib.hid (fun g w hE h => by
    have hz : fe (fun _ => s) 1 = chkQ s.data.toList := by rw [fe, fe]; rfl
    have := canonical_any g 1 (fun _ => s) w hE (by decide) (fun i hi => by
      rw [h.cell]
      match i, hi with
      | 0, _ => rfl) (fun _ _ => Nat.le_trans hs (by decide))
    rw [hz] at this
    exact this)
  have CT := Lib.hid (fun w hE => torCheck_any t w hE (fun i hi => Nat.le_trans (ht i hi) (by decide)))
  rw [hc] at K
  obtain ⟨E, hEE⟩ : ∃ E, E = fe t 6 := ⟨_, rfl⟩
  rw [← hEE] at CT h0 ⊢
  have hne : ((E : Int) == 0) = false := by rw [beq_eq_false_iff_ne]; omega
  have HE := Lib.hid hE
  have HB0 := Lib.hid (below_three w (.cells #[.string s] 22) (.cells #[.string (t 0), .string (t 1), .string (t 2), .string (t 3), .string (t 4), .string (t 5)] 25) (.cells #[.string ⟨#[]⟩, .string ⟨#[]⟩, .string ⟨#[]⟩, .string ⟨#[]⟩, .string ⟨#[]⟩, .string ⟨#[]⟩] 25))
  have HK0 := Lib.hid (((blk_new w #[.string s] 22).alloc (.cells #[.string (t 0), .string (t 1), .string (t 2), .string (t 3), .string (t 4), .string (t 5)] 25)).alloc (.cells #[.string ⟨#[]⟩, .string ⟨#[]⟩, .string ⟨#[]⟩, .string ⟨#[]⟩, .string ⟨#[]⟩, .string ⟨#[]⟩] 25))
  have HT0 := Lib.hid ((blk_new1 w (.cells #[.string s] 22) #[.string (t 0), .string (t 1), .string (t 2), .string (t 3), .string (t 4), .string (t 5)] 25).alloc (.cells #[.string ⟨#[]⟩, .string ⟨#[]⟩, .string ⟨#[]⟩, .string ⟨#[]⟩, .string ⟨#[]⟩, .string ⟨#[]⟩] 25))
  have HR0 := Lib.hid (blk_new2 w (.cells #[.string s] 22) (.cells #[.string (t 0), .string (t 1), .string (t 2), .string (t 3), .string (t 4), .string (t 5)] 25) #[.string ⟨#[]⟩, .string ⟨#[]⟩, .string ⟨#[]⟩, .string ⟨#[]⟩, .string ⟨#[]⟩, .string ⟨#[]⟩] 25)
  clear hE hs ht hc h0 hEE
  go_enter Tryz.func42, Tryz.ntmps42
  go_wp2_with fail
  refine (K.out _ _ ?_ (blk_newE w _ _ _ _ _)).mono ?_
  · exact HE.out.below (HB0.out.alloc HB0.out.size _)
  rintro e w1 ⟨rfl, hb⟩
  have HB1 := Lib.hid ((HB0.out.alloc HB0.out.size (.cells #[.string s] 22)).trans (hb.mono (by have := HB0.out.size; simp; omega))); have HK1 := Lib.hid ((HK0.out.alloc (.cells #[.string s] 22)).later hb); have HT1 := Lib.hid ((HT0.out.alloc (.cells #[.string s] 22)).later hb); have HR1 := Lib.hid ((HR0.out.alloc (.cells #[.string s] 22)).later hb)
  clear hb
  have t0 := HT1.out.cell 0; have t1 := HT1.out.cell 1; have t2 := HT1.out.cell 2; have t3 := HT1.out.cell 3; have t4 := HT1.out.cell 4; have t5 := HT1.out.cell 5
  go_wp2_with fail
  refine (CT.out _ (HE.out.below HB1.out)).mono ?_
  rintro e w2 ⟨rfl, hb⟩
  have HB2 := Lib.hid (HB1.out.trans (hb.mono HB1.out.size)); have HK2 := Lib.hid (HK1.out.later hb); have HT2 := Lib.hid (HT1.out.later hb); have HR2 := Lib.hid (HR1.out.later hb)
  clear hb t0 t1 t2 t3 t4 t5
  have r0 := HR2.out.cell 0; have r1 := HR2.out.cell 1; have r2 := HR2.out.cell 2; have r3 := HR2.out.cell 3; have r4 := HR2.out.cell 4; have r5 := HR2.out.cell 5
  have f0 := HR2.out.free 0; have f1 := HR2.out.free 1; have f2 := HR2.out.free 2; have f3 := HR2.out.free 3; have f4 := HR2.out.free 4; have f5 := HR2.out.free 5
  go_wp2_with fail
  have hr3 := (Blk.set (Blk.set (Blk.set (Blk.set (Blk.set (Blk.set HR2.out 0 (.string ⟨#[]⟩)) 1 (.string ⟨#[]⟩)) 2 (.string ⟨#[]⟩)) 3 (.string ⟨#[]⟩)) 4 (.string ⟨#[]⟩)) 5 (.string ⟨#[]⟩))
  have hb3 := (Below.setCell (p := ⟨w.heap.size + 1 + 1, 5, none⟩) (Below.setCell (p := ⟨w.heap.size + 1 + 1, 4, none⟩) (Below.setCell (p := ⟨w.heap.size + 1 + 1, 3, none⟩) (Below.setCell (p := ⟨w.heap.size + 1 + 1, 2, none⟩) (Below.setCell (p := ⟨w.heap.size + 1 + 1, 1, none⟩) (Below.setCell (p := ⟨w.heap.size + 1 + 1, 0, none⟩) HB2.out (by show _ ≤ w.heap.size + 1 + 1; omega) (.string ⟨#[]⟩)) (by show _ ≤ w.heap.size + 1 + 1; omega) (.string ⟨#[]⟩)) (by show _ ≤ w.heap.size + 1 + 1; omega) (.string ⟨#[]⟩)) (by show _ ≤ w.heap.size + 1 + 1; omega) (.string ⟨#[]⟩)) (by show _ ≤ w.heap.size + 1 + 1; omega) (.string ⟨#[]⟩)) (by show _ ≤ w.heap.size + 1 + 1; omega) (.string ⟨#[]⟩))
  generalize ((((((w2.setCell ⟨w.heap.size + 1 + 1, 0, none⟩ (.string ⟨#[]⟩)).setCell ⟨w.heap.size + 1 + 1, 1, none⟩ (.string ⟨#[]⟩)).setCell ⟨w.heap.size + 1 + 1, 2, none⟩ (.string ⟨#[]⟩)).setCell ⟨w.heap.size + 1 + 1, 3, none⟩ (.string ⟨#[]⟩)).setCell ⟨w.heap.size + 1 + 1, 4, none⟩ (.string ⟨#[]⟩)).setCell ⟨w.heap.size + 1 + 1, 5, none⟩ (.string ⟨#[]⟩)) = W3 at hr3 hb3 ⊢
  have s0 := hr3.cell 0; have s1 := hr3.cell 1; have s2 := hr3.cell 2; have s3 := hr3.cell 3; have s4 := hr3.cell 4; have s5 := hr3.cell 5
  exact bodyPost_ret (by simp [results, Tryz.results42, go_sem, s0, s1, s2, s3, s4, s5]; try rfl) rfl ⟨rfl, hb3⟩

set_option maxHeartbeats 2000000 in
set_option maxRecDepth 100000 in
theorem scaleOk_any (k : Rat) (q : Nat → Rat) (w : World) (hE : Env w) (hk : Dig 24 k) (hq : ∀ i, i < 6 → Dig 24 (q i)) :
    Calls Tryz.prog 42 #[.string (qt k), .agg #[.string (qt (q 0)), .string (qt (q 1)), .string (qt (q 2)), .string (qt (q 3)), .string (qt (q 4)), .string (qt (q 5))]] w fun e w' => e = .returned (.tuple #[.agg #[.string (qt (k * q 0)), .string (qt (k * q 1)), .string (qt (k * q 2)), .string (qt (k * q 3)), .string (qt (k * q 4)), .string (qt (k * q 5))], .int .i64 0]) ∧ Below w.heap.size w w' := by
  obtain ⟨s, hs⟩ : ∃ s, s = qt k := ⟨_, rfl⟩
  obtain ⟨t, ht⟩ : ∃ t : Nat → ByteArray, t = fun i => qt (q i) := ⟨_, rfl⟩
  obtain ⟨u, hu⟩ : ∃ t : Nat → ByteArray, t = fun i => qt (k * q i) := ⟨_, rfl⟩
  have hc : chkQ s.data.toList = 0 := by rw [hs, qt_toList]; exact chkQ_ql (hk.fits (by decide))
  have h0 : fe t 6 = 0 := by rw [ht]; exact fe_qt hq
  have hss : s.size ≤ 4000 := by rw [hs]; exact qt_size (hk.fits (by decide))
  have hts : ∀ i, i < 6 → (t i).size ≤ 4000 := fun i hi => by rw [ht]; exact qt_size ((hq i hi).fits (by decide))
  have CM : Hid (∀ gx gy W, Env W → Blk W gx #[.string s] 22 → Blk W gy #[.string (t 0), .string (t 1), .string (t 2), .string (t 3), .string (t 4), .string (t 5)] 136 → Calls Tryz.prog 121 #[.func (.func 124) #[] #[.pointer (some ⟨gx, 0, none⟩), .pointer (some ⟨gy, 0, none⟩)]] W fun e w' => e = .returned (.tuple #[.agg #[.string (u 0), .string (u 1), .string (u 2), .string (u 3), .string (u 4), .string (u 5)], .int .i64 0]) ∧ Below W.heap.size W w') := Lib.hid (by
    intro gx gy W hE hx hy
    refine mappedScale_any u gx gy W ?_
    intro i hi W' hb
    have h := scaleF_any k q i gx gy W' (hE.below hb) hi (by have := (hx.later hb).cell 0; rw [hs] at this; exact this) (fun j hj => by have := textsAt_six (t := t) (hy.later hb) j hj; rw [ht] at this; exact this) hk hq
    rw [hu]
    exact h)
  have NT := Lib.hid (numbers_any (t 0) (t 1) (t 2) (t 3) (t 4) (t 5))
  rw [show (#[.string (qt (q 0)), .string (qt (q 1)), .string (qt (q 2)), .string (qt (q 3)), .string (qt (q 4)), .string (qt (q 5))] : Array Value) = #[.string (t 0), .string (t 1), .string (t 2), .string (t 3), .string (t 4), .string (t 5)] from by rw [ht], ← hs, show (#[.string (qt (k * q 0)), .string (qt (k * q 1)), .string (qt (k * q 2)), .string (qt (k * q 3)), .string (qt (k * q 4)), .string (qt (k * q 5))] : Array Value) = #[.string (u 0), .string (u 1), .string (u 2), .string (u 3), .string (u 4), .string (u 5)] from by rw [hu]]
  have K : Hid (∀ g w, Env w → Blk w g #[.string s] 22 → Calls Tryz.prog 100 #[.slice (some ⟨g, 0, none⟩) 1 1] w fun e w' => e = .returned (.int .i64 (chkQ s.data.toList : Int)) ∧ Below w.heap.size w w') := Lib.hid (fun g w hE h => by
    have hz : fe (fun _ => s) 1 = chkQ s.data.toList := by rw [fe, fe]; rfl
    have := canonical_any g 1 (fun _ => s) w hE (by decide) (fun i hi => by
      rw [h.cell]
      match i, hi with
      | 0, _ => rfl) (fun _ _ => Nat.le_trans hss (by decide))
    rw [hz] at this
    exact this)
  have CT := Lib.hid (fun w hE => torCheck_any t w hE (fun i hi => Nat.le_trans (hts i hi) (by decide)))
  rw [hc] at K
  rw [h0] at CT
  have HE := Lib.hid hE
  have HB0 := Lib.hid (below_three w (.cells #[.string s] 22) (.cells #[.string (t 0), .string (t 1), .string (t 2), .string (t 3), .string (t 4), .string (t 5)] 25) (.cells #[.string ⟨#[]⟩, .string ⟨#[]⟩, .string ⟨#[]⟩, .string ⟨#[]⟩, .string ⟨#[]⟩, .string ⟨#[]⟩] 25))
  have HK0 := Lib.hid (((blk_new w #[.string s] 22).alloc (.cells #[.string (t 0), .string (t 1), .string (t 2), .string (t 3), .string (t 4), .string (t 5)] 25)).alloc (.cells #[.string ⟨#[]⟩, .string ⟨#[]⟩, .string ⟨#[]⟩, .string ⟨#[]⟩, .string ⟨#[]⟩, .string ⟨#[]⟩] 25))
  have HT0 := Lib.hid ((blk_new1 w (.cells #[.string s] 22) #[.string (t 0), .string (t 1), .string (t 2), .string (t 3), .string (t 4), .string (t 5)] 25).alloc (.cells #[.string ⟨#[]⟩, .string ⟨#[]⟩, .string ⟨#[]⟩, .string ⟨#[]⟩, .string ⟨#[]⟩, .string ⟨#[]⟩] 25))
  have HR0 := Lib.hid (blk_new2 w (.cells #[.string s] 22) (.cells #[.string (t 0), .string (t 1), .string (t 2), .string (t 3), .string (t 4), .string (t 5)] 25) #[.string ⟨#[]⟩, .string ⟨#[]⟩, .string ⟨#[]⟩, .string ⟨#[]⟩, .string ⟨#[]⟩, .string ⟨#[]⟩] 25)
  clear hE hk hq hs ht hu hc h0 hss hts
  go_enter Tryz.func42, Tryz.ntmps42
  go_wp2_with fail
  refine (K.out _ _ ?_ (blk_newE w _ _ _ _ _)).mono ?_
  · exact HE.out.below (HB0.out.alloc HB0.out.size _)
  rintro e w1 ⟨rfl, hb⟩
  have HB1 := Lib.hid ((HB0.out.alloc HB0.out.size (.cells #[.string s] 22)).trans (hb.mono (by have := HB0.out.size; simp; omega))); have HK1 := Lib.hid ((HK0.out.alloc (.cells #[.string s] 22)).later hb); have HT1 := Lib.hid ((HT0.out.alloc (.cells #[.string s] 22)).later hb); have HR1 := Lib.hid ((HR0.out.alloc (.cells #[.string s] 22)).later hb)
  clear hb
  have t0 := HT1.out.cell 0; have t1 := HT1.out.cell 1; have t2 := HT1.out.cell 2; have t3 := HT1.out.cell 3; have t4 := HT1.out.cell 4; have t5 := HT1.out.cell 5
  go_wp2_with fail
  refine (CT.out _ (HE.out.below HB1.out)).mono ?_
  rintro e w2 ⟨rfl, hb⟩
  have HB2 := Lib.hid (HB1.out.trans (hb.mono HB1.out.size)); have HK2 := Lib.hid (HK1.out.later hb); have HT2 := Lib.hid (HT1.out.later hb); have HR2 := Lib.hid (HR1.out.later hb)
  clear hb t0 t1 t2 t3 t4 t5
  have t0 := HT2.out.cell 0; have t1 := HT2.out.cell 1; have t2 := HT2.out.cell 2; have t3 := HT2.out.cell 3; have t4 := HT2.out.cell 4; have t5 := HT2.out.cell 5
  go_wp2_with fail
  refine (NT.out _).mono ?_
  rintro e w3 ⟨rfl, hb⟩
  have HB3 := Lib.hid (HB2.out.trans (hb.mono HB2.out.size)); have HK3 := Lib.hid (HK2.out.later hb); have HR3 := Lib.hid (HR2.out.later hb)
  clear hb t0 t1 t2 t3 t4 t5
  go_wp2_with fail
  refine (CM.out _ _ _ ?_ (HK3.out.alloc _) (blk_new _ _ _)).mono ?_
  · exact HE.out.below (HB3.out.alloc HB3.out.size _)
  rintro e w4 ⟨rfl, hb⟩
  have HB4 := Lib.hid ((HB3.out.alloc HB3.out.size (.cells #[.string (t 0), .string (t 1), .string (t 2), .string (t 3), .string (t 4), .string (t 5)] 136)).trans (hb.mono (by have := HB3.out.size; simp; omega))); have HR4 := Lib.hid ((HR3.out.alloc (.cells #[.string (t 0), .string (t 1), .string (t 2), .string (t 3), .string (t 4), .string (t 5)] 136)).later hb)
  clear hb
  have r0 := HR4.out.cell 0; have r1 := HR4.out.cell 1; have r2 := HR4.out.cell 2; have r3 := HR4.out.cell 3; have r4 := HR4.out.cell 4; have r5 := HR4.out.cell 5
  have f0 := HR4.out.free 0; have f1 := HR4.out.free 1; have f2 := HR4.out.free 2; have f3 := HR4.out.free 3; have f4 := HR4.out.free 4; have f5 := HR4.out.free 5
  go_wp2_with fail
  have hr3 := (Blk.set (Blk.set (Blk.set (Blk.set (Blk.set (Blk.set HR4.out 0 (.string (u 0))) 1 (.string (u 1))) 2 (.string (u 2))) 3 (.string (u 3))) 4 (.string (u 4))) 5 (.string (u 5)))
  have hb3 := (Below.setCell (p := ⟨w.heap.size + 1 + 1, 5, none⟩) (Below.setCell (p := ⟨w.heap.size + 1 + 1, 4, none⟩) (Below.setCell (p := ⟨w.heap.size + 1 + 1, 3, none⟩) (Below.setCell (p := ⟨w.heap.size + 1 + 1, 2, none⟩) (Below.setCell (p := ⟨w.heap.size + 1 + 1, 1, none⟩) (Below.setCell (p := ⟨w.heap.size + 1 + 1, 0, none⟩) HB4.out (by show _ ≤ w.heap.size + 1 + 1; omega) (.string (u 0))) (by show _ ≤ w.heap.size + 1 + 1; omega) (.string (u 1))) (by show _ ≤ w.heap.size + 1 + 1; omega) (.string (u 2))) (by show _ ≤ w.heap.size + 1 + 1; omega) (.string (u 3))) (by show _ ≤ w.heap.size + 1 + 1; omega) (.string (u 4))) (by show _ ≤ w.heap.size + 1 + 1; omega) (.string (u 5)))
  generalize ((((((w4.setCell ⟨w.heap.size + 1 + 1, 0, none⟩ (.string (u 0))).setCell ⟨w.heap.size + 1 + 1, 1, none⟩ (.string (u 1))).setCell ⟨w.heap.size + 1 + 1, 2, none⟩ (.string (u 2))).setCell ⟨w.heap.size + 1 + 1, 3, none⟩ (.string (u 3))).setCell ⟨w.heap.size + 1 + 1, 4, none⟩ (.string (u 4))).setCell ⟨w.heap.size + 1 + 1, 5, none⟩ (.string (u 5))) = W3 at hr3 hb3 ⊢
  have s0 := hr3.cell 0; have s1 := hr3.cell 1; have s2 := hr3.cell 2; have s3 := hr3.cell 3; have s4 := hr3.cell 4; have s5 := hr3.cell 5
  exact bodyPost_ret (by simp [results, Tryz.results42, go_sem, s0, s1, s2, s3, s4, s5]; try rfl) rfl ⟨rfl, hb3⟩

end Go.Proofs.YtbpegjgpdgeadaaGreatDoor
namespace Go.Proofs.YtbpegjgpdgeadaaGreatDoor
open Go Go.RowKit Metro
open Go.Lib (nDigits decDigits)

set_option maxHeartbeats 4000000 in
set_option maxRecDepth 100000 in
theorem refTorTimes_any (k : Rat) (q : Nat → Rat) (w : World) (hk : Dig 24 k) (hq : ∀ i, i < 6 → Dig 24 (q i)) :
    Calls Tryz.prog 125 #[.string (qt k), .agg #[.string (qt (q 0)), .string (qt (q 1)), .string (qt (q 2)), .string (qt (q 3)), .string (qt (q 4)), .string (qt (q 5))]] w fun e w' => e = .returned (.agg #[.string (qt (k * q 0)), .string (qt (k * q 1)), .string (qt (k * q 2)), .string (qt (k * q 3)), .string (qt (k * q 4)), .string (qt (k * q 5))]) ∧ Below w.heap.size w w' := by
  obtain ⟨t, ht⟩ : ∃ t : Nat → ByteArray, t = fun i => qt (q i) := ⟨_, rfl⟩
  obtain ⟨s, hs⟩ : ∃ t : Nat → ByteArray, t = fun i => qt (k * q i) := ⟨_, rfl⟩
  obtain ⟨y, hy⟩ : ∃ s, s = qt k := ⟨_, rfl⟩
  have CP : Hid (∀ i, i < 6 → ∀ w, Calls Tryz.prog 38 #[.string y, .string (t i)] w fun e w' => e = .returned (.string (s i)) ∧ Below w.heap.size w w') := Lib.hid (fun i hi w => by
    have h := refQTimes_any k (q i) w (hk.mono (by decide)) ((hq i hi).mono (by decide))
    subst ht hs hy
    exact h)
  rw [show (#[.string (qt (q 0)), .string (qt (q 1)), .string (qt (q 2)), .string (qt (q 3)), .string (qt (q 4)), .string (qt (q 5))] : Array Value) = #[.string (t 0), .string (t 1), .string (t 2), .string (t 3), .string (t 4), .string (t 5)] from by rw [ht], show (#[.string (qt (k * q 0)), .string (qt (k * q 1)), .string (qt (k * q 2)), .string (qt (k * q 3)), .string (qt (k * q 4)), .string (qt (k * q 5))] : Array Value) = #[.string (s 0), .string (s 1), .string (s 2), .string (s 3), .string (s 4), .string (s 5)] from by rw [hs], ← hy]
  have NQ := Lib.hid (refTorNumbers_any t)
  obtain ⟨i0, hi, hz0, hz1, hz2⟩ := info_parts info22
  have HB0 := Lib.hid (below_two w (.cells #[.string (t 0), .string (t 1), .string (t 2), .string (t 3), .string (t 4), .string (t 5)] 25) (.cells #[.string ⟨#[]⟩, .string ⟨#[]⟩, .string ⟨#[]⟩, .string ⟨#[]⟩, .string ⟨#[]⟩, .string ⟨#[]⟩] 25))
  have HT0 := Lib.hid ((blk_new w #[.string (t 0), .string (t 1), .string (t 2), .string (t 3), .string (t 4), .string (t 5)] 25).alloc (.cells #[.string ⟨#[]⟩, .string ⟨#[]⟩, .string ⟨#[]⟩, .string ⟨#[]⟩, .string ⟨#[]⟩, .string ⟨#[]⟩] 25))
  have HR0 := Lib.hid (blk_new1 w (.cells #[.string (t 0), .string (t 1), .string (t 2), .string (t 3), .string (t 4), .string (t 5)] 25) #[.string ⟨#[]⟩, .string ⟨#[]⟩, .string ⟨#[]⟩, .string ⟨#[]⟩, .string ⟨#[]⟩, .string ⟨#[]⟩] 25)
  clear hk hq ht hs hy
  go_enter Tryz.func125, Tryz.ntmps125
  have t0 := HT0.out.cell 0; have t1 := HT0.out.cell 1; have t2 := HT0.out.cell 2; have t3 := HT0.out.cell 3; have t4 := HT0.out.cell 4; have t5 := HT0.out.cell 5
  go_wp2_with fail
  refine (NQ.out _).mono ?_
  rintro e wb ⟨gt, rfl, hgt, hxt, hlt, hb⟩
  have HBb := Lib.hid (HB0.out.trans (hb.mono HB0.out.size)); have HRb := Lib.hid (HR0.out.later hb); have HXa := Lib.hid hxt; have HLa := Lib.hid hlt
  clear hb hgt hxt hlt t0 t1 t2 t3 t4 t5
  go_wp2_with fail
  obtain ⟨N, hN⟩ : ∃ N : Nat, N = 6 := ⟨_, rfl⟩
  have HN := Lib.hid hN
  clear hN
  go_loopg [6, 7] N (fun d v i wr => ∃ j : Nat, i = .int .i64 j ∧ j ≤ 6 ∧ d = N - j ∧ OwnT wr wb.heap.size v s j ∧ Below wb.heap.size wb wr)
  case atStart => exact ⟨0, rfl, by decide, rfl, OwnT.start _ _ _, Below.refl _ _⟩
  case round =>
    obtain ⟨j, rfl, hj, rfl, hv, hb⟩ := hrel
    by_cases hlt : j < 6
    · have hj0 : (0 : Int) ≤ (j : Int) := by omega
      have hj6 : (j : Int) < 6 := by omega
      have ct := (hb.cell (p := ⟨gt, j, none⟩) HLa.out).trans (HXa.out j hlt)
      have HV := Lib.hid hv; have HB := Lib.hid hb
      clear hv hb
      go_wp2_with fail
      refine (CP.out j hlt _).mono ?_
      rintro e w1 ⟨rfl, hb1⟩
      have HV1 := Lib.hid ((HV.out.below hb1).below (below_one w1 (.cells #[.string (s j)] 22)))
      have HB1 := Lib.hid ((HB.out.trans (hb1.mono HB.out.size)).alloc (Nat.le_trans HB.out.size hb1.size) (.cells #[.string (s j)] 22))
      have hnew := Lib.hid (blk_new w1 #[.string (s j)] 22)
      clear hb1 ct
      go_wp2_with (at_builtin; refine wpList_append_own _ rfl _ _ 39 rfl wb.heap.size 22 i0 (.string ⟨#[]⟩) 1 16 Tryz.underlying39 hi hz0 hz1 hz2 rfl (by decide) _ _ _ rfl HV1.out ⟨w1.heap.size, 0, none⟩ 1 1 [.string (s j)] rfl rfl ?c1 ?c2 ?c3 ?c4 ?c5 ?_)
      case c1 =>
        intro k u hk
        match k, hk with
        | 0, hk => simp at hk; subst hk; exact hnew.out.cell 0
      case c2 => intro u hu; simp at hu; subst hu; rfl
      case c3 => unfold maxLen; omega
      case c4 => omega
      case c5 => exact HB1.out.size
      intro v' w2 hown' hgrow _
      have HO := Lib.hid (show OwnT w2 wb.heap.size v' s (j + 1) from by unfold OwnT; rw [txl_succ]; exact hown')
      have HB2 := Lib.hid (HB1.out.grown hgrow HB1.out.size (fun k hk => (World.ownsRow.lt HV1.out k hk).1))
      clear hown' hgrow
      go_wp2_with fail
      go_roundg (N - (j + 1))
      case measure => have := HN.out; omega
      case rel => exact ⟨j + 1, by go_num, by omega, rfl, HO.out, HB2.out⟩
    · have hj6 : j = 6 := by omega
      subst hj6
      obtain ⟨g, cap, rfl, hg1, hg2, _, _, hx⟩ := hv.open (by decide)
      have HB := Lib.hid (HBb.out.trans (hb.mono HBb.out.size)); have HR := Lib.hid (HRb.out.later hb)
      have MA := Lib.hid (refMade_any6 s g cap wr hg2 hx)
      clear hv hb hx
      go_wp2_with fail
      refine MA.out.mono ?_
      rintro e w3 ⟨rfl, hb⟩
      have HB3 := Lib.hid (HB.out.trans (hb.mono HB.out.size)); have HR3 := Lib.hid (HR.out.later hb)
      clear hb
      have r0 := HR3.out.cell 0; have r1 := HR3.out.cell 1; have r2 := HR3.out.cell 2; have r3 := HR3.out.cell 3; have r4 := HR3.out.cell 4; have r5 := HR3.out.cell 5
      have f0 := HR3.out.free 0; have f1 := HR3.out.free 1; have f2 := HR3.out.free 2; have f3 := HR3.out.free 3; have f4 := HR3.out.free 4; have f5 := HR3.out.free 5
      go_wp2_with fail
      have hr3 := (Blk.set (Blk.set (Blk.set (Blk.set (Blk.set (Blk.set HR3.out 0 (.string (s 0))) 1 (.string (s 1))) 2 (.string (s 2))) 3 (.string (s 3))) 4 (.string (s 4))) 5 (.string (s 5)))
      have hb3 := (Below.setCell (p := ⟨w.heap.size + 1, 5, none⟩) (Below.setCell (p := ⟨w.heap.size + 1, 4, none⟩) (Below.setCell (p := ⟨w.heap.size + 1, 3, none⟩) (Below.setCell (p := ⟨w.heap.size + 1, 2, none⟩) (Below.setCell (p := ⟨w.heap.size + 1, 1, none⟩) (Below.setCell (p := ⟨w.heap.size + 1, 0, none⟩) HB3.out (by show _ ≤ w.heap.size + 1; omega) (.string (s 0))) (by show _ ≤ w.heap.size + 1; omega) (.string (s 1))) (by show _ ≤ w.heap.size + 1; omega) (.string (s 2))) (by show _ ≤ w.heap.size + 1; omega) (.string (s 3))) (by show _ ≤ w.heap.size + 1; omega) (.string (s 4))) (by show _ ≤ w.heap.size + 1; omega) (.string (s 5)))
      generalize ((((((w3.setCell ⟨w.heap.size + 1, 0, none⟩ (.string (s 0))).setCell ⟨w.heap.size + 1, 1, none⟩ (.string (s 1))).setCell ⟨w.heap.size + 1, 2, none⟩ (.string (s 2))).setCell ⟨w.heap.size + 1, 3, none⟩ (.string (s 3))).setCell ⟨w.heap.size + 1, 4, none⟩ (.string (s 4))).setCell ⟨w.heap.size + 1, 5, none⟩ (.string (s 5))) = W3 at hr3 hb3 ⊢
      have s0 := hr3.cell 0; have s1 := hr3.cell 1; have s2 := hr3.cell 2; have s3 := hr3.cell 3; have s4 := hr3.cell 4; have s5 := hr3.cell 5
      exact bodyPost_ret (by simp [results, Tryz.results125, go_sem, s0, s1, s2, s3, s4, s5]; try rfl) rfl ⟨rfl, hb3⟩

set_option maxHeartbeats 1000000 in
set_option maxRecDepth 100000 in
theorem refAddOk_any (q r : Nat → Rat) (w : World) (hq : ∀ i, i < 6 → Dig 24 (q i)) (hr : ∀ i, i < 6 → Dig 24 (r i)) :
    Calls Tryz.prog 41 #[.agg #[.string (qt (q 0)), .string (qt (q 1)), .string (qt (q 2)), .string (qt (q 3)), .string (qt (q 4)), .string (qt (q 5))], .agg #[.string (qt (r 0)), .string (qt (r 1)), .string (qt (r 2)), .string (qt (r 3)), .string (qt (r 4)), .string (qt (r 5))]] w fun e w' => e = .returned (.tuple #[.agg #[.string (qt (q 0 + r 0)), .string (qt (q 1 + r 1)), .string (qt (q 2 + r 2)), .string (qt (q 3 + r 3)), .string (qt (q 4 + r 4)), .string (qt (q 5 + r 5))], .int .i64 0]) ∧ Below w.heap.size w w' := by
  obtain ⟨t, ht⟩ : ∃ t : Nat → ByteArray, t = fun i => qt (q i) := ⟨_, rfl⟩
  obtain ⟨u, hu⟩ : ∃ t : Nat → ByteArray, t = fun i => qt (r i) := ⟨_, rfl⟩
  obtain ⟨s, hs⟩ : ∃ t : Nat → ByteArray, t = fun i => qt (q i + r i) := ⟨_, rfl⟩
  have CT : Hid (∀ w, Calls Tryz.prog 24 #[.agg #[.string (t 0), .string (t 1), .string (t 2), .string (t 3), .string (t 4), .string (t 5)]] w fun e w' => e = .returned (.int .i64 0) ∧ Below w.heap.size w w') := Lib.hid (fun w => by
    have h := refTorCheck_any t w (fun i hi => by rw [ht]; exact Nat.le_trans (qt_size ((hq i hi).fits (by decide))) (by decide))
    rw [show fe t 6 = 0 from by rw [ht]; exact fe_qt hq] at h
    exact h)
  have CU : Hid (∀ w, Calls Tryz.prog 24 #[.agg #[.string (u 0), .string (u 1), .string (u 2), .string (u 3), .string (u 4), .string (u 5)]] w fun e w' => e = .returned (.int .i64 0) ∧ Below w.heap.size w w') := Lib.hid (fun w => by
    have h := refTorCheck_any u w (fun i hi => by rw [hu]; exact Nat.le_trans (qt_size ((hr i hi).fits (by decide))) (by decide))
    rw [show fe u 6 = 0 from by rw [hu]; exact fe_qt hr] at h
    exact h)
  have CS : Hid (∀ w, Calls Tryz.prog 123 #[.agg #[.string (t 0), .string (t 1), .string (t 2), .string (t 3), .string (t 4), .string (t 5)], .agg #[.string (u 0), .string (u 1), .string (u 2), .string (u 3), .string (u 4), .string (u 5)]] w fun e w' => e = .returned (.agg #[.string (s 0), .string (s 1), .string (s 2), .string (s 3), .string (s 4), .string (s 5)]) ∧ Below w.heap.size w w') := Lib.hid (fun w => by
    have h := summed_any q r w hq hr
    subst ht hu hs
    exact h)
  rw [show (#[.string (qt (q 0)), .string (qt (q 1)), .string (qt (q 2)), .string (qt (q 3)), .string (qt (q 4)), .string (qt (q 5))] : Array Value) = #[.string (t 0), .string (t 1), .string (t 2), .string (t 3), .string (t 4), .string (t 5)] from by rw [ht], show (#[.string (qt (r 0)), .string (qt (r 1)), .string (qt (r 2)), .string (qt (r 3)), .string (qt (r 4)), .string (qt (r 5))] : Array Value) = #[.string (u 0), .string (u 1), .string (u 2), .string (u 3), .string (u 4), .string (u 5)] from by rw [hu], show (#[.string (qt (q 0 + r 0)), .string (qt (q 1 + r 1)), .string (qt (q 2 + r 2)), .string (qt (q 3 + r 3)), .string (qt (q 4 + r 4)), .string (qt (q 5 + r 5))] : Array Value) = #[.string (s 0), .string (s 1), .string (s 2), .string (s 3), .string (s 4), .string (s 5)] from by rw [hs]]
  have HB0 := Lib.hid (below_three w (.cells #[.string (t 0), .string (t 1), .string (t 2), .string (t 3), .string (t 4), .string (t 5)] 25) (.cells #[.string (u 0), .string (u 1), .string (u 2), .string (u 3), .string (u 4), .string (u 5)] 25) (.cells #[.string ⟨#[]⟩, .string ⟨#[]⟩, .string ⟨#[]⟩, .string ⟨#[]⟩, .string ⟨#[]⟩, .string ⟨#[]⟩] 25))
  have HR0 := Lib.hid (blk_new2 w (.cells #[.string (t 0), .string (t 1), .string (t 2), .string (t 3), .string (t 4), .string (t 5)] 25) (.cells #[.string (u 0), .string (u 1), .string (u 2), .string (u 3), .string (u 4), .string (u 5)] 25) #[.string ⟨#[]⟩, .string ⟨#[]⟩, .string ⟨#[]⟩, .string ⟨#[]⟩, .string ⟨#[]⟩, .string ⟨#[]⟩] 25)
  have HU0 := Lib.hid ((blk_new1 w (.cells #[.string (t 0), .string (t 1), .string (t 2), .string (t 3), .string (t 4), .string (t 5)] 25) #[.string (u 0), .string (u 1), .string (u 2), .string (u 3), .string (u 4), .string (u 5)] 25).alloc (.cells #[.string ⟨#[]⟩, .string ⟨#[]⟩, .string ⟨#[]⟩, .string ⟨#[]⟩, .string ⟨#[]⟩, .string ⟨#[]⟩] 25))
  have HT0 := Lib.hid (((blk_new w #[.string (t 0), .string (t 1), .string (t 2), .string (t 3), .string (t 4), .string (t 5)] 25).alloc (.cells #[.string (u 0), .string (u 1), .string (u 2), .string (u 3), .string (u 4), .string (u 5)] 25)).alloc (.cells #[.string ⟨#[]⟩, .string ⟨#[]⟩, .string ⟨#[]⟩, .string ⟨#[]⟩, .string ⟨#[]⟩, .string ⟨#[]⟩] 25))
  clear hq hr ht hu hs
  go_enter Tryz.func41, Tryz.ntmps41
  go_wp2_with fail
  refine (CT.out _).mono ?_
  rintro e w1 ⟨rfl, hb⟩
  have HB1 := Lib.hid (HB0.out.trans (hb.mono HB0.out.size)); have HR1 := Lib.hid (HR0.out.later hb); have HU1 := Lib.hid (HU0.out.later hb); have HT1 := Lib.hid (HT0.out.later hb)
  clear hb
  have u0 := HU1.out.cell 0; have u1 := HU1.out.cell 1; have u2 := HU1.out.cell 2; have u3 := HU1.out.cell 3; have u4 := HU1.out.cell 4; have u5 := HU1.out.cell 5
  go_wp2_with fail
  refine (CU.out _).mono ?_
  rintro e w2 ⟨rfl, hb⟩
  have HB2 := Lib.hid (HB1.out.trans (hb.mono HB1.out.size)); have HR2 := Lib.hid (HR1.out.later hb); have HU2 := Lib.hid (HU1.out.later hb); have HT2 := Lib.hid (HT1.out.later hb)
  clear hb u0 u1 u2 u3 u4 u5
  have u0 := HU2.out.cell 0; have u1 := HU2.out.cell 1; have u2 := HU2.out.cell 2; have u3 := HU2.out.cell 3; have u4 := HU2.out.cell 4; have u5 := HU2.out.cell 5
  have t0 := HT2.out.cell 0; have t1 := HT2.out.cell 1; have t2 := HT2.out.cell 2; have t3 := HT2.out.cell 3; have t4 := HT2.out.cell 4; have t5 := HT2.out.cell 5
  go_wp2_with fail
  refine (CS.out _).mono ?_
  rintro e w3 ⟨rfl, hb⟩
  have HB3 := Lib.hid (HB2.out.trans (hb.mono HB2.out.size)); have HR3 := Lib.hid (HR2.out.later hb)
  clear hb u0 u1 u2 u3 u4 u5 t0 t1 t2 t3 t4 t5
  have r0 := HR3.out.cell 0; have r1 := HR3.out.cell 1; have r2 := HR3.out.cell 2; have r3 := HR3.out.cell 3; have r4 := HR3.out.cell 4; have r5 := HR3.out.cell 5
  have f0 := HR3.out.free 0; have f1 := HR3.out.free 1; have f2 := HR3.out.free 2; have f3 := HR3.out.free 3; have f4 := HR3.out.free 4; have f5 := HR3.out.free 5
  go_wp2_with fail
  have hr3 := (Blk.set (Blk.set (Blk.set (Blk.set (Blk.set (Blk.set HR3.out 0 (.string (s 0))) 1 (.string (s 1))) 2 (.string (s 2))) 3 (.string (s 3))) 4 (.string (s 4))) 5 (.string (s 5)))
  have hb3 := (Below.setCell (p := ⟨w.heap.size + 1 + 1, 5, none⟩) (Below.setCell (p := ⟨w.heap.size + 1 + 1, 4, none⟩) (Below.setCell (p := ⟨w.heap.size + 1 + 1, 3, none⟩) (Below.setCell (p := ⟨w.heap.size + 1 + 1, 2, none⟩) (Below.setCell (p := ⟨w.heap.size + 1 + 1, 1, none⟩) (Below.setCell (p := ⟨w.heap.size + 1 + 1, 0, none⟩) HB3.out (by show _ ≤ w.heap.size + 1 + 1; omega) (.string (s 0))) (by show _ ≤ w.heap.size + 1 + 1; omega) (.string (s 1))) (by show _ ≤ w.heap.size + 1 + 1; omega) (.string (s 2))) (by show _ ≤ w.heap.size + 1 + 1; omega) (.string (s 3))) (by show _ ≤ w.heap.size + 1 + 1; omega) (.string (s 4))) (by show _ ≤ w.heap.size + 1 + 1; omega) (.string (s 5)))
  generalize ((((((w3.setCell ⟨w.heap.size + 1 + 1, 0, none⟩ (.string (s 0))).setCell ⟨w.heap.size + 1 + 1, 1, none⟩ (.string (s 1))).setCell ⟨w.heap.size + 1 + 1, 2, none⟩ (.string (s 2))).setCell ⟨w.heap.size + 1 + 1, 3, none⟩ (.string (s 3))).setCell ⟨w.heap.size + 1 + 1, 4, none⟩ (.string (s 4))).setCell ⟨w.heap.size + 1 + 1, 5, none⟩ (.string (s 5))) = W3 at hr3 hb3 ⊢
  have s0 := hr3.cell 0; have s1 := hr3.cell 1; have s2 := hr3.cell 2; have s3 := hr3.cell 3; have s4 := hr3.cell 4; have s5 := hr3.cell 5
  exact bodyPost_ret (by simp [results, Tryz.results41, go_sem, s0, s1, s2, s3, s4, s5]; try rfl) rfl ⟨rfl, hb3⟩

set_option maxHeartbeats 1000000 in
set_option maxRecDepth 100000 in
theorem refScaleErrK_any (s : ByteArray) (t : Nat → ByteArray) (w : World) (hs : s.size ≤ 24) (ht : ∀ i, i < 6 → (t i).size ≤ 24) (hc : chkQ s.data.toList ≠ 0) :
    Calls Tryz.prog 43 #[.string s, .agg #[.string (t 0), .string (t 1), .string (t 2), .string (t 3), .string (t 4), .string (t 5)]] w fun e w' => e = .returned (.tuple #[.agg #[.string ⟨#[]⟩, .string ⟨#[]⟩, .string ⟨#[]⟩, .string ⟨#[]⟩, .string ⟨#[]⟩, .string ⟨#[]⟩], .int .i64 (chkQ s.data.toList : Nat)]) ∧ Below w.heap.size w w' := by
  have K : Hid (∀ w, Calls Tryz.prog 33 #[.string s] w fun e w' => e = .returned (.int .i64 (chkQ s.data.toList : Int)) ∧ Below w.heap.size w w') := Lib.hid (fun w => refQCheck_any s w (Nat.le_trans hs (by decide)))
  have CT := Lib.hid (fun w => refTorCheck_any t w (fun i hi => Nat.le_trans (ht i hi) (by decide)))
  obtain ⟨E, hEE⟩ : ∃ E, E = chkQ s.data.toList := ⟨_, rfl⟩
  rw [← hEE] at K hc ⊢
  have hne : ((E : Int) == 0) = false := by rw [beq_eq_false_iff_ne]; omega
  have HB0 := Lib.hid (below_two w (.cells #[.string (t 0), .string (t 1), .string (t 2), .string (t 3), .string (t 4), .string (t 5)] 25) (.cells #[.string ⟨#[]⟩, .string ⟨#[]⟩, .string ⟨#[]⟩, .string ⟨#[]⟩, .string ⟨#[]⟩, .string ⟨#[]⟩] 25))
  have HT0 := Lib.hid ((blk_new w #[.string (t 0), .string (t 1), .string (t 2), .string (t 3), .string (t 4), .string (t 5)] 25).alloc (.cells #[.string ⟨#[]⟩, .string ⟨#[]⟩, .string ⟨#[]⟩, .string ⟨#[]⟩, .string ⟨#[]⟩, .string ⟨#[]⟩] 25))
  have HR0 := Lib.hid (blk_new1 w (.cells #[.string (t 0), .string (t 1), .string (t 2), .string (t 3), .string (t 4), .string (t 5)] 25) #[.string ⟨#[]⟩, .string ⟨#[]⟩, .string ⟨#[]⟩, .string ⟨#[]⟩, .string ⟨#[]⟩, .string ⟨#[]⟩] 25)
  clear hs ht hc hEE
  go_enter Tryz.func43, Tryz.ntmps43
  go_wp2_with fail
  refine (K.out _).mono ?_
  rintro e w1 ⟨rfl, hb⟩
  have HB1 := Lib.hid (HB0.out.trans (hb.mono HB0.out.size)); have HT1 := Lib.hid (HT0.out.later hb); have HR1 := Lib.hid (HR0.out.later hb)
  clear hb
  have r0 := HR1.out.cell 0; have r1 := HR1.out.cell 1; have r2 := HR1.out.cell 2; have r3 := HR1.out.cell 3; have r4 := HR1.out.cell 4; have r5 := HR1.out.cell 5
  have f0 := HR1.out.free 0; have f1 := HR1.out.free 1; have f2 := HR1.out.free 2; have f3 := HR1.out.free 3; have f4 := HR1.out.free 4; have f5 := HR1.out.free 5
  go_wp2_with fail
  have hr3 := (Blk.set (Blk.set (Blk.set (Blk.set (Blk.set (Blk.set HR1.out 0 (.string ⟨#[]⟩)) 1 (.string ⟨#[]⟩)) 2 (.string ⟨#[]⟩)) 3 (.string ⟨#[]⟩)) 4 (.string ⟨#[]⟩)) 5 (.string ⟨#[]⟩))
  have hb3 := (Below.setCell (p := ⟨w.heap.size + 1, 5, none⟩) (Below.setCell (p := ⟨w.heap.size + 1, 4, none⟩) (Below.setCell (p := ⟨w.heap.size + 1, 3, none⟩) (Below.setCell (p := ⟨w.heap.size + 1, 2, none⟩) (Below.setCell (p := ⟨w.heap.size + 1, 1, none⟩) (Below.setCell (p := ⟨w.heap.size + 1, 0, none⟩) HB1.out (by show _ ≤ w.heap.size + 1; omega) (.string ⟨#[]⟩)) (by show _ ≤ w.heap.size + 1; omega) (.string ⟨#[]⟩)) (by show _ ≤ w.heap.size + 1; omega) (.string ⟨#[]⟩)) (by show _ ≤ w.heap.size + 1; omega) (.string ⟨#[]⟩)) (by show _ ≤ w.heap.size + 1; omega) (.string ⟨#[]⟩)) (by show _ ≤ w.heap.size + 1; omega) (.string ⟨#[]⟩))
  generalize ((((((w1.setCell ⟨w.heap.size + 1, 0, none⟩ (.string ⟨#[]⟩)).setCell ⟨w.heap.size + 1, 1, none⟩ (.string ⟨#[]⟩)).setCell ⟨w.heap.size + 1, 2, none⟩ (.string ⟨#[]⟩)).setCell ⟨w.heap.size + 1, 3, none⟩ (.string ⟨#[]⟩)).setCell ⟨w.heap.size + 1, 4, none⟩ (.string ⟨#[]⟩)).setCell ⟨w.heap.size + 1, 5, none⟩ (.string ⟨#[]⟩)) = W3 at hr3 hb3 ⊢
  have s0 := hr3.cell 0; have s1 := hr3.cell 1; have s2 := hr3.cell 2; have s3 := hr3.cell 3; have s4 := hr3.cell 4; have s5 := hr3.cell 5
  exact bodyPost_ret (by simp [results, Tryz.results43, go_sem, s0, s1, s2, s3, s4, s5]; try rfl) rfl ⟨rfl, hb3⟩

set_option maxHeartbeats 1000000 in
set_option maxRecDepth 100000 in
theorem refScaleErrT_any (s : ByteArray) (t : Nat → ByteArray) (w : World) (hs : s.size ≤ 24) (ht : ∀ i, i < 6 → (t i).size ≤ 24) (hc : chkQ s.data.toList = 0) (h0 : fe t 6 ≠ 0) :
    Calls Tryz.prog 43 #[.string s, .agg #[.string (t 0), .string (t 1), .string (t 2), .string (t 3), .string (t 4), .string (t 5)]] w fun e w' => e = .returned (.tuple #[.agg #[.string ⟨#[]⟩, .string ⟨#[]⟩, .string ⟨#[]⟩, .string ⟨#[]⟩, .string ⟨#[]⟩, .string ⟨#[]⟩], .int .i64 (fe t 6 : Nat)]) ∧ Below w.heap.size w w' := by
  have K : Hid (∀ w, Calls Tryz.prog 33 #[.string s] w fun e w' => e = .returned (.int .i64 (chkQ s.data.toList : Int)) ∧ Below w.heap.size w w') := Lib.hid (fun w => refQCheck_any s w (Nat.le_trans hs (by decide)))
  have CT := Lib.hid (fun w => refTorCheck_any t w (fun i hi => Nat.le_trans (ht i hi) (by decide)))
  rw [hc] at K
  obtain ⟨E, hEE⟩ : ∃ E, E = fe t 6 := ⟨_, rfl⟩
  rw [← hEE] at CT h0 ⊢
  have hne : ((E : Int) == 0) = false := by rw [beq_eq_false_iff_ne]; omega
  have HB0 := Lib.hid (below_two w (.cells #[.string (t 0), .string (t 1), .string (t 2), .string (t 3), .string (t 4), .string (t 5)] 25) (.cells #[.string ⟨#[]⟩, .string ⟨#[]⟩, .string ⟨#[]⟩, .string ⟨#[]⟩, .string ⟨#[]⟩, .string ⟨#[]⟩] 25))
  have HT0 := Lib.hid ((blk_new w #[.string (t 0), .string (t 1), .string (t 2), .string (t 3), .string (t 4), .string (t 5)] 25).alloc (.cells #[.string ⟨#[]⟩, .string ⟨#[]⟩, .string ⟨#[]⟩, .string ⟨#[]⟩, .string ⟨#[]⟩, .string ⟨#[]⟩] 25))
  have HR0 := Lib.hid (blk_new1 w (.cells #[.string (t 0), .string (t 1), .string (t 2), .string (t 3), .string (t 4), .string (t 5)] 25) #[.string ⟨#[]⟩, .string ⟨#[]⟩, .string ⟨#[]⟩, .string ⟨#[]⟩, .string ⟨#[]⟩, .string ⟨#[]⟩] 25)
  clear hs ht hc h0 hEE
  go_enter Tryz.func43, Tryz.ntmps43
  go_wp2_with fail
  refine (K.out _).mono ?_
  rintro e w1 ⟨rfl, hb⟩
  have HB1 := Lib.hid (HB0.out.trans (hb.mono HB0.out.size)); have HT1 := Lib.hid (HT0.out.later hb); have HR1 := Lib.hid (HR0.out.later hb)
  clear hb
  have t0 := HT1.out.cell 0; have t1 := HT1.out.cell 1; have t2 := HT1.out.cell 2; have t3 := HT1.out.cell 3; have t4 := HT1.out.cell 4; have t5 := HT1.out.cell 5
  go_wp2_with fail
  refine (CT.out _).mono ?_
  rintro e w2 ⟨rfl, hb⟩
  have HB2 := Lib.hid (HB1.out.trans (hb.mono HB1.out.size)); have HT2 := Lib.hid (HT1.out.later hb); have HR2 := Lib.hid (HR1.out.later hb)
  clear hb t0 t1 t2 t3 t4 t5
  have r0 := HR2.out.cell 0; have r1 := HR2.out.cell 1; have r2 := HR2.out.cell 2; have r3 := HR2.out.cell 3; have r4 := HR2.out.cell 4; have r5 := HR2.out.cell 5
  have f0 := HR2.out.free 0; have f1 := HR2.out.free 1; have f2 := HR2.out.free 2; have f3 := HR2.out.free 3; have f4 := HR2.out.free 4; have f5 := HR2.out.free 5
  go_wp2_with fail
  have hr3 := (Blk.set (Blk.set (Blk.set (Blk.set (Blk.set (Blk.set HR2.out 0 (.string ⟨#[]⟩)) 1 (.string ⟨#[]⟩)) 2 (.string ⟨#[]⟩)) 3 (.string ⟨#[]⟩)) 4 (.string ⟨#[]⟩)) 5 (.string ⟨#[]⟩))
  have hb3 := (Below.setCell (p := ⟨w.heap.size + 1, 5, none⟩) (Below.setCell (p := ⟨w.heap.size + 1, 4, none⟩) (Below.setCell (p := ⟨w.heap.size + 1, 3, none⟩) (Below.setCell (p := ⟨w.heap.size + 1, 2, none⟩) (Below.setCell (p := ⟨w.heap.size + 1, 1, none⟩) (Below.setCell (p := ⟨w.heap.size + 1, 0, none⟩) HB2.out (by show _ ≤ w.heap.size + 1; omega) (.string ⟨#[]⟩)) (by show _ ≤ w.heap.size + 1; omega) (.string ⟨#[]⟩)) (by show _ ≤ w.heap.size + 1; omega) (.string ⟨#[]⟩)) (by show _ ≤ w.heap.size + 1; omega) (.string ⟨#[]⟩)) (by show _ ≤ w.heap.size + 1; omega) (.string ⟨#[]⟩)) (by show _ ≤ w.heap.size + 1; omega) (.string ⟨#[]⟩))
  generalize ((((((w2.setCell ⟨w.heap.size + 1, 0, none⟩ (.string ⟨#[]⟩)).setCell ⟨w.heap.size + 1, 1, none⟩ (.string ⟨#[]⟩)).setCell ⟨w.heap.size + 1, 2, none⟩ (.string ⟨#[]⟩)).setCell ⟨w.heap.size + 1, 3, none⟩ (.string ⟨#[]⟩)).setCell ⟨w.heap.size + 1, 4, none⟩ (.string ⟨#[]⟩)).setCell ⟨w.heap.size + 1, 5, none⟩ (.string ⟨#[]⟩)) = W3 at hr3 hb3 ⊢
  have s0 := hr3.cell 0; have s1 := hr3.cell 1; have s2 := hr3.cell 2; have s3 := hr3.cell 3; have s4 := hr3.cell 4; have s5 := hr3.cell 5
  exact bodyPost_ret (by simp [results, Tryz.results43, go_sem, s0, s1, s2, s3, s4, s5]; try rfl) rfl ⟨rfl, hb3⟩

set_option maxHeartbeats 1000000 in
set_option maxRecDepth 100000 in
theorem refScaleOk_any (k : Rat) (q : Nat → Rat) (w : World) (hk : Dig 24 k) (hq : ∀ i, i < 6 → Dig 24 (q i)) :
    Calls Tryz.prog 43 #[.string (qt k), .agg #[.string (qt (q 0)), .string (qt (q 1)), .string (qt (q 2)), .string (qt (q 3)), .string (qt (q 4)), .string (qt (q 5))]] w fun e w' => e = .returned (.tuple #[.agg #[.string (qt (k * q 0)), .string (qt (k * q 1)), .string (qt (k * q 2)), .string (qt (k * q 3)), .string (qt (k * q 4)), .string (qt (k * q 5))], .int .i64 0]) ∧ Below w.heap.size w w' := by
  obtain ⟨s, hs⟩ : ∃ s, s = qt k := ⟨_, rfl⟩
  obtain ⟨t, ht⟩ : ∃ t : Nat → ByteArray, t = fun i => qt (q i) := ⟨_, rfl⟩
  obtain ⟨u, hu⟩ : ∃ t : Nat → ByteArray, t = fun i => qt (k * q i) := ⟨_, rfl⟩
  have hc : chkQ s.data.toList = 0 := by rw [hs, qt_toList]; exact chkQ_ql (hk.fits (by decide))
  have h0 : fe t 6 = 0 := by rw [ht]; exact fe_qt hq
  have hss : s.size ≤ 4000 := by rw [hs]; exact qt_size (hk.fits (by decide))
  have hts : ∀ i, i < 6 → (t i).size ≤ 4000 := fun i hi => by rw [ht]; exact qt_size ((hq i hi).fits (by decide))
  have CM : Hid (∀ W, Calls Tryz.prog 125 #[.string s, .agg #[.string (t 0), .string (t 1), .string (t 2), .string (t 3), .string (t 4), .string (t 5)]] W fun e w' => e = .returned (.agg #[.string (u 0), .string (u 1), .string (u 2), .string (u 3), .string (u 4), .string (u 5)]) ∧ Below W.heap.size W w') := Lib.hid (by
    intro W
    have h := refTorTimes_any k q W hk hq
    subst hs ht hu
    exact h)
  rw [show (#[.string (qt (q 0)), .string (qt (q 1)), .string (qt (q 2)), .string (qt (q 3)), .string (qt (q 4)), .string (qt (q 5))] : Array Value) = #[.string (t 0), .string (t 1), .string (t 2), .string (t 3), .string (t 4), .string (t 5)] from by rw [ht], ← hs, show (#[.string (qt (k * q 0)), .string (qt (k * q 1)), .string (qt (k * q 2)), .string (qt (k * q 3)), .string (qt (k * q 4)), .string (qt (k * q 5))] : Array Value) = #[.string (u 0), .string (u 1), .string (u 2), .string (u 3), .string (u 4), .string (u 5)] from by rw [hu]]
  have K : Hid (∀ w, Calls Tryz.prog 33 #[.string s] w fun e w' => e = .returned (.int .i64 (chkQ s.data.toList : Int)) ∧ Below w.heap.size w w') := Lib.hid (fun w => refQCheck_any s w (Nat.le_trans hss (by decide)))
  have CT := Lib.hid (fun w => refTorCheck_any t w (fun i hi => Nat.le_trans (hts i hi) (by decide)))
  rw [hc] at K
  rw [h0] at CT
  have HB0 := Lib.hid (below_two w (.cells #[.string (t 0), .string (t 1), .string (t 2), .string (t 3), .string (t 4), .string (t 5)] 25) (.cells #[.string ⟨#[]⟩, .string ⟨#[]⟩, .string ⟨#[]⟩, .string ⟨#[]⟩, .string ⟨#[]⟩, .string ⟨#[]⟩] 25))
  have HT0 := Lib.hid ((blk_new w #[.string (t 0), .string (t 1), .string (t 2), .string (t 3), .string (t 4), .string (t 5)] 25).alloc (.cells #[.string ⟨#[]⟩, .string ⟨#[]⟩, .string ⟨#[]⟩, .string ⟨#[]⟩, .string ⟨#[]⟩, .string ⟨#[]⟩] 25))
  have HR0 := Lib.hid (blk_new1 w (.cells #[.string (t 0), .string (t 1), .string (t 2), .string (t 3), .string (t 4), .string (t 5)] 25) #[.string ⟨#[]⟩, .string ⟨#[]⟩, .string ⟨#[]⟩, .string ⟨#[]⟩, .string ⟨#[]⟩, .string ⟨#[]⟩] 25)
  clear hk hq hs ht hu hc h0 hss hts
  go_enter Tryz.func43, Tryz.ntmps43
  go_wp2_with fail
  refine (K.out _).mono ?_
  rintro e w1 ⟨rfl, hb⟩
  have HB1 := Lib.hid (HB0.out.trans (hb.mono HB0.out.size)); have HT1 := Lib.hid (HT0.out.later hb); have HR1 := Lib.hid (HR0.out.later hb)
  clear hb
  have t0 := HT1.out.cell 0; have t1 := HT1.out.cell 1; have t2 := HT1.out.cell 2; have t3 := HT1.out.cell 3; have t4 := HT1.out.cell 4; have t5 := HT1.out.cell 5
  go_wp2_with fail
  refine (CT.out _).mono ?_
  rintro e w2 ⟨rfl, hb⟩
  have HB2 := Lib.hid (HB1.out.trans (hb.mono HB1.out.size)); have HT2 := Lib.hid (HT1.out.later hb); have HR2 := Lib.hid (HR1.out.later hb)
  clear hb t0 t1 t2 t3 t4 t5
  have t0 := HT2.out.cell 0; have t1 := HT2.out.cell 1; have t2 := HT2.out.cell 2; have t3 := HT2.out.cell 3; have t4 := HT2.out.cell 4; have t5 := HT2.out.cell 5
  go_wp2_with fail
  refine (CM.out _).mono ?_
  rintro e w3 ⟨rfl, hb⟩
  have HB3 := Lib.hid (HB2.out.trans (hb.mono HB2.out.size)); have HR3 := Lib.hid (HR2.out.later hb)
  clear hb t0 t1 t2 t3 t4 t5
  have r0 := HR3.out.cell 0; have r1 := HR3.out.cell 1; have r2 := HR3.out.cell 2; have r3 := HR3.out.cell 3; have r4 := HR3.out.cell 4; have r5 := HR3.out.cell 5
  have f0 := HR3.out.free 0; have f1 := HR3.out.free 1; have f2 := HR3.out.free 2; have f3 := HR3.out.free 3; have f4 := HR3.out.free 4; have f5 := HR3.out.free 5
  go_wp2_with fail
  have hr3 := (Blk.set (Blk.set (Blk.set (Blk.set (Blk.set (Blk.set HR3.out 0 (.string (u 0))) 1 (.string (u 1))) 2 (.string (u 2))) 3 (.string (u 3))) 4 (.string (u 4))) 5 (.string (u 5)))
  have hb3 := (Below.setCell (p := ⟨w.heap.size + 1, 5, none⟩) (Below.setCell (p := ⟨w.heap.size + 1, 4, none⟩) (Below.setCell (p := ⟨w.heap.size + 1, 3, none⟩) (Below.setCell (p := ⟨w.heap.size + 1, 2, none⟩) (Below.setCell (p := ⟨w.heap.size + 1, 1, none⟩) (Below.setCell (p := ⟨w.heap.size + 1, 0, none⟩) HB3.out (by show _ ≤ w.heap.size + 1; omega) (.string (u 0))) (by show _ ≤ w.heap.size + 1; omega) (.string (u 1))) (by show _ ≤ w.heap.size + 1; omega) (.string (u 2))) (by show _ ≤ w.heap.size + 1; omega) (.string (u 3))) (by show _ ≤ w.heap.size + 1; omega) (.string (u 4))) (by show _ ≤ w.heap.size + 1; omega) (.string (u 5)))
  generalize ((((((w3.setCell ⟨w.heap.size + 1, 0, none⟩ (.string (u 0))).setCell ⟨w.heap.size + 1, 1, none⟩ (.string (u 1))).setCell ⟨w.heap.size + 1, 2, none⟩ (.string (u 2))).setCell ⟨w.heap.size + 1, 3, none⟩ (.string (u 3))).setCell ⟨w.heap.size + 1, 4, none⟩ (.string (u 4))).setCell ⟨w.heap.size + 1, 5, none⟩ (.string (u 5))) = W3 at hr3 hb3 ⊢
  have s0 := hr3.cell 0; have s1 := hr3.cell 1; have s2 := hr3.cell 2; have s3 := hr3.cell 3; have s4 := hr3.cell 4; have s5 := hr3.cell 5
  exact bodyPost_ret (by simp [results, Tryz.results43, go_sem, s0, s1, s2, s3, s4, s5]; try rfl) rfl ⟨rfl, hb3⟩

end Go.Proofs.YtbpegjgpdgeadaaGreatDoor
