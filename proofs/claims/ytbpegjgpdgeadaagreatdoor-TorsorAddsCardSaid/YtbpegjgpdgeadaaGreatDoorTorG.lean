/- A part of the proof: TorG. Conditions: none. -/
import Derived.Test.YtbpegjgpdgeadaaGreatDoorTorF
namespace Go.Proofs.YtbpegjgpdgeadaaGreatDoor
open Go Go.RowKit Metro
open Go.Lib (nDigits decDigits)

/-- The error of an axis and a point. -/
def errA (k x y z : Int) : Int := if 0 ≤ k ∧ k < 3 then errP x y z else 1
theorem errA_ok {k x y z : Int} (h : errA k x y z = 0) : 0 ≤ k ∧ k < 3 ∧ okP x y z = true := by
  unfold errA at h
  split at h
  · rename_i hk
    refine ⟨hk.1, hk.2, ?_⟩
    unfold errP at h
    split at h
    · assumption
    · exact absurd h (by decide)
  · exact absurd h (by decide)
theorem errA_of {k : Nat} {x y z : Int} (hk : k < 3) (hp : okP x y z = true) : errA (k : Nat) x y z = 0 := by
  unfold errA errP; rw [if_pos ⟨by omega, by omega⟩, hp]; rfl

set_option maxHeartbeats 1000000 in
set_option maxRecDepth 100000 in
theorem refAxis_any (k x y z : Int) (w : World) :
    Calls Tryz.prog 105 #[.int .i64 k, .agg #[.int .i64 x, .int .i64 y, .int .i64 z]] w fun E w' => E = .returned (.int .i64 (errA k x y z)) ∧ Below w.heap.size w w' := by
  have S := Lib.hid (rightSpot_any x y z)
  have HB0 := Lib.hid (below_one w (.cells #[.int .i64 x, .int .i64 y, .int .i64 z] 27))
  have HP0 := Lib.hid (blk_new w #[.int .i64 x, .int .i64 y, .int .i64 z] 27)
  by_cases h0 : k < 0
  · have H : Hid (errA k x y z = 1) := Lib.hid (if_neg (by omega))
    rw [H.out]
    clear H
    go_enter Tryz.func105, Tryz.ntmps105
    go_wp2_with fail
    go_ret
    exact ⟨rfl, HB0.out⟩
  · by_cases h3 : 2 < k
    · have H : Hid (errA k x y z = 1) := Lib.hid (if_neg (by omega))
      rw [H.out]
      clear H
      go_enter Tryz.func105, Tryz.ntmps105
      go_wp2_with fail
      go_ret
      exact ⟨rfl, HB0.out⟩
    · have H : Hid (errA k x y z = errP x y z) := Lib.hid (if_pos (by omega))
      rw [H.out]
      clear H
      cases hp : okP x y z with
      | false =>
        have H : Hid (errP x y z = 2) := Lib.hid (by unfold errP; rw [hp]; rfl)
        rw [H.out]
        rw [hp] at S
        clear hp H
        go_enter Tryz.func105, Tryz.ntmps105
        go_wp2_with fail
        refine (S.out _).mono ?_
        rintro e w1 ⟨rfl, hb⟩
        have HB1 := Lib.hid (HB0.out.trans (hb.mono HB0.out.size))
        clear hb
        go_wp2_with fail
        go_ret
        exact ⟨rfl, HB1.out⟩
      | true =>
        have H : Hid (errP x y z = 0) := Lib.hid (by unfold errP; rw [hp]; rfl)
        rw [H.out]
        rw [hp] at S
        clear hp H
        go_enter Tryz.func105, Tryz.ntmps105
        go_wp2_with fail
        refine (S.out _).mono ?_
        rintro e w1 ⟨rfl, hb⟩
        have HB1 := Lib.hid (HB0.out.trans (hb.mono HB0.out.size))
        clear hb
        go_wp2_with fail
        go_ret
        exact ⟨rfl, HB1.out⟩

set_option maxHeartbeats 1000000 in
set_option maxRecDepth 100000 in
theorem refFormErr_any (k x y z : Int) (w : World) (h : errA k x y z ≠ 0) :
    Calls Tryz.prog 28 #[.int .i64 k, .agg #[.int .i64 x, .int .i64 y, .int .i64 z]] w fun e w' => e = .returned (.tuple #[.slice none 0 0, .int .i64 (errA k x y z)]) ∧ Below w.heap.size w w' := by
  have C := Lib.hid (refAxis_any k x y z)
  obtain ⟨E, hE⟩ : ∃ E, E = errA k x y z := ⟨_, rfl⟩
  rw [← hE] at C h ⊢
  have hne : (E == 0) = false := by rw [beq_eq_false_iff_ne]; exact h
  have HB0 := Lib.hid (below_one w (.cells #[.int .i64 x, .int .i64 y, .int .i64 z] 27))
  clear hE h
  go_enter Tryz.func28, Tryz.ntmps28
  go_wp2_with fail
  refine (C.out _).mono ?_
  rintro e w1 ⟨rfl, hb⟩
  have HB1 := Lib.hid (HB0.out.trans (hb.mono HB0.out.size))
  clear hb
  go_wp2_with fail
  go_ret2
  exact ⟨rfl, HB1.out⟩

set_option maxHeartbeats 1000000 in
set_option maxRecDepth 100000 in
theorem formErr_any (k x y z : Int) (w : World) (h : errA k x y z ≠ 0) :
    Calls Tryz.prog 27 #[.int .i64 k, .agg #[.int .i64 x, .int .i64 y, .int .i64 z]] w fun e w' => e = .returned (.tuple #[.slice none 0 0, .int .i64 (errA k x y z)]) ∧ Below w.heap.size w w' := by
  have C : Hid (∀ w, Calls Tryz.prog 103 #[.int .i64 k, .agg #[.int .i64 x, .int .i64 y, .int .i64 z]] w fun E w' => E = .returned (.int .i64 (errA k x y z)) ∧ Below w.heap.size w w') := Lib.hid (given_any k x y z)
  obtain ⟨E, hE⟩ : ∃ E, E = errA k x y z := ⟨_, rfl⟩
  rw [← hE] at C h ⊢
  have hne : (E == 0) = false := by rw [beq_eq_false_iff_ne]; exact h
  have HB0 := Lib.hid (below_one w (.cells #[.int .i64 x, .int .i64 y, .int .i64 z] 27))
  clear hE h
  go_enter Tryz.func27, Tryz.ntmps27
  go_wp2_with fail
  refine (C.out _).mono ?_
  rintro e w1 ⟨rfl, hb⟩
  have HB1 := Lib.hid (HB0.out.trans (hb.mono HB0.out.size))
  clear hb
  go_wp2_with fail
  go_ret2
  exact ⟨rfl, HB1.out⟩

set_option maxHeartbeats 1000000 in
set_option maxRecDepth 100000 in
theorem refFormOk_any (k : Nat) (hk : k < 3) (x y z : Int) (w : World) (hp : okP x y z = true) :
    Calls Tryz.prog 28 #[.int .i64 (k : Nat), .agg #[.int .i64 x, .int .i64 y, .int .i64 z]] w fun e w' => ∃ g, e = .returned (.tuple #[.slice (some ⟨g, 0, none⟩) 6 6, .int .i64 0]) ∧ w.heap.size ≤ g ∧ g < w'.heap.size ∧ TextsAt w' g (fun i => qt (frm x y z k i : Rat)) 6 ∧ Below w.heap.size w w' := by
  have C := Lib.hid (refAxis_any (k : Nat) x y z)
  rw [errA_of hk hp] at C
  have R := Lib.hid (fun w => refRow_any k hk x y z w hp)
  obtain ⟨K, hK⟩ : ∃ K : Int, K = (k : Nat) := ⟨_, rfl⟩
  rw [← hK] at C R ⊢
  have HB0 := Lib.hid (below_one w (.cells #[.int .i64 x, .int .i64 y, .int .i64 z] 27))
  have HP0 := Lib.hid (blk_new w #[.int .i64 x, .int .i64 y, .int .i64 z] 27)
  clear hK hp hk
  go_enter Tryz.func28, Tryz.ntmps28
  go_wp2_with fail
  refine (C.out _).mono ?_
  rintro e w1 ⟨rfl, hb⟩
  have HB1 := Lib.hid (HB0.out.trans (hb.mono HB0.out.size)); have HP1 := Lib.hid (HP0.out.later hb)
  clear hb
  have p0 := HP1.out.cell 0; have p1 := HP1.out.cell 1; have p2 := HP1.out.cell 2
  go_wp2_with fail
  refine (R.out _).mono ?_
  rintro e w2 ⟨g, rfl, hg, hgl, ht, hb⟩
  have HB2 := Lib.hid (HB1.out.trans (hb.mono HB1.out.size))
  have HG := Lib.hid (Nat.le_trans HB1.out.size hg); have HGL := Lib.hid hgl; have HT := Lib.hid ht
  clear hb hg hgl ht p0 p1 p2
  go_wp2_with fail
  go_ret2
  exact ⟨g, rfl, HG.out, HGL.out, HT.out, HB2.out⟩
end Go.Proofs.YtbpegjgpdgeadaaGreatDoor
namespace Go.Proofs.YtbpegjgpdgeadaaGreatDoor
open Go Go.RowKit Metro
open Go.Lib (nDigits decDigits)

theorem crd_in {x y z : Int} (h : (-100000 ≤ x ∧ x ≤ 100000) ∧ (-100000 ≤ y ∧ y ≤ 100000) ∧ (-100000 ≤ z ∧ z ≤ 100000)) (i : Nat) : -100000 ≤ crd x y z i ∧ crd x y z i ≤ 100000 := by
  unfold crd; split
  · exact h.1
  · exact h.2.1
  · exact h.2.2

set_option maxHeartbeats 4000000 in
set_option maxRecDepth 100000 in
/-- The turn about an axis through a right point, by the reference. -/
theorem refAround0_any (x y z : Int) (q : Rat) (w : World) (hq : Dig 24 q) (hp : okP x y z = true) :
    Calls Tryz.prog 108 #[.int .i64 0, .agg #[.int .i64 x, .int .i64 y, .int .i64 z], .string (qt q)] w fun e w' => e = .returned (.agg #[.string (qt (around 0 x y z q 0)), .string (qt (around 0 x y z q 1)), .string (qt (around 0 x y z q 2)), .string (qt (around 0 x y z q 3)), .string (qt (around 0 x y z q 4)), .string (qt (around 0 x y z q 5))]) ∧ Below w.heap.size w w' := by
  have hpp := okP_parts hp
  obtain ⟨tq, htq⟩ : ∃ tq, tq = tqf 0 q := ⟨_, rfl⟩
  obtain ⟨ar, har⟩ : ∃ ar, ar = around 0 x y z q := ⟨_, rfl⟩
  have hq6 : ∀ i, i < 6 → Dig 24 (tq i) := fun i _ => by rw [htq]; exact tqf_dig hq i
  have hal : ∀ i, i < 3 → (crd x y z i : Rat) - gone tq x y z i = ar i := fun i hi => by rw [har, around_low 0 x y z q hi, htq]; unfold gone; grind
  have hah : ar 3 = tq 3 ∧ ar 4 = tq 4 ∧ ar 5 = tq 5 := by rw [har, htq]; exact around_high 0 x y z q
  have ZE := Lib.hid refZero_any
  have CO : Hid (∀ i, i < 3 → ∀ w, Calls Tryz.prog 182 #[.int .i64 (i : Nat), .agg #[.int .i64 x, .int .i64 y, .int .i64 z]] w fun E w' => E = .returned (.int .i64 (crd x y z i)) ∧ Below w.heap.size w w') := Lib.hid (fun i hi w => coordinate_any i hi x y z w)
  have CW : Hid (∀ i, ∀ w, Calls Tryz.prog 34 #[.int .i64 (crd x y z i)] w fun e w' => e = .returned (.string (qt (crd x y z i : Rat))) ∧ Below w.heap.size w w') := Lib.hid (fun i w => by
    have := crd_in hpp i
    exact refQWhole_any _ w (by omega) (by omega))
  have CM : Hid (∀ i, i < 3 → ∀ w, Calls Tryz.prog 176 #[.agg #[.string (qt (tq 0)), .string (qt (tq 1)), .string (qt (tq 2)), .string (qt (tq 3)), .string (qt (tq 4)), .string (qt (tq 5))], .agg #[.int .i64 x, .int .i64 y, .int .i64 z], .int .i64 (i : Nat)] w fun E w' => E = .returned (.string (qt (gone tq x y z i))) ∧ Below w.heap.size w w') := Lib.hid (fun i hi w => refMoved_any tq x y z i hi w hp hq6)
  have CL : Hid (∀ i, i < 3 → ∀ w, Calls Tryz.prog 39 #[.string (qt (crd x y z i : Rat)), .string (qt (gone tq x y z i))] w fun e w' => e = .returned (.string (qt (ar i))) ∧ Below w.heap.size w w') := Lib.hid (fun i hi w => by
    rw [← hal i hi]
    exact refQLess_any _ _ w ((crd_dig hp i).mono (by decide)) ((gone_dig hp hq6 i).mono (by decide)))
  have HTS : Hid ((#[.string ⟨#[48]⟩, .string ⟨#[48]⟩, .string ⟨#[48]⟩, .string (qt q), .string ⟨#[48]⟩, .string ⟨#[48]⟩] : Array Value) = #[.string (qt (tq 0)), .string (qt (tq 1)), .string (qt (tq 2)), .string (qt (tq 3)), .string (qt (tq 4)), .string (qt (tq 5))]) := Lib.hid (by rw [htq]; exact tqf_set0 q)
  have GS : Hid (∀ i, i < 3 → (obC (fun i => qt (ar i)) (fun i => qt (tq i)) i).setIfInBounds i (.string (qt (ar i))) = obC (fun i => qt (ar i)) (fun i => qt (tq i)) (i + 1)) := Lib.hid fun i hi => obC_set _ _ hi
  have HAH := Lib.hid hah
  rw [← har]
  clear hq hp hpp hq6 hal hah htq har
  obtain ⟨N, hN⟩ : ∃ N : Nat, N = 3 := ⟨_, rfl⟩
  have HN := Lib.hid hN
  clear hN
  have HB0 := Lib.hid (below_two w (.cells #[.int .i64 x, .int .i64 y, .int .i64 z] 27) (.cells #[.string ⟨#[]⟩, .string ⟨#[]⟩, .string ⟨#[]⟩, .string ⟨#[]⟩, .string ⟨#[]⟩, .string ⟨#[]⟩] 25))
  have HR0 := Lib.hid (blk_new1 w (.cells #[.int .i64 x, .int .i64 y, .int .i64 z] 27) #[.string ⟨#[]⟩, .string ⟨#[]⟩, .string ⟨#[]⟩, .string ⟨#[]⟩, .string ⟨#[]⟩, .string ⟨#[]⟩] 25)
  have HP0 := Lib.hid ((blk_new w #[.int .i64 x, .int .i64 y, .int .i64 z] 27).alloc (.cells #[.string ⟨#[]⟩, .string ⟨#[]⟩, .string ⟨#[]⟩, .string ⟨#[]⟩, .string ⟨#[]⟩, .string ⟨#[]⟩] 25))
  go_enter Tryz.func108, Tryz.ntmps108
  go_wp2_with fail
  refine (ZE.out _).mono ?_
  rintro e w3 ⟨rfl, hb⟩
  have HB3 := Lib.hid (HB0.out.trans (hb.mono HB0.out.size)); have HP3 := Lib.hid (HP0.out.later hb); have HR3 := Lib.hid (HR0.out.later hb)
  clear hb
  go_wp2_with fail
  rw [HTS.out]
  have hbt := HB3.out.size
  have HBs := Lib.hid (((HB3.out.alloc HB3.out.size (.cells #[.string (qt (tq 0)), .string (qt (tq 1)), .string (qt (tq 2)), .string (qt (tq 3)), .string (qt (tq 4)), .string (qt (tq 5))] 25)).alloc (by simp; omega) (.cells #[.string (qt (tq 0)), .string (qt (tq 1)), .string (qt (tq 2)), .string (qt (tq 3)), .string (qt (tq 4)), .string (qt (tq 5))] 25)))
  have HTs := Lib.hid ((blk_new w3 #[.string (qt (tq 0)), .string (qt (tq 1)), .string (qt (tq 2)), .string (qt (tq 3)), .string (qt (tq 4)), .string (qt (tq 5))] 25).alloc (.cells #[.string (qt (tq 0)), .string (qt (tq 1)), .string (qt (tq 2)), .string (qt (tq 3)), .string (qt (tq 4)), .string (qt (tq 5))] 25))
  have HOs := Lib.hid (blk_new1 w3 (.cells #[.string (qt (tq 0)), .string (qt (tq 1)), .string (qt (tq 2)), .string (qt (tq 3)), .string (qt (tq 4)), .string (qt (tq 5))] 25) #[.string (qt (tq 0)), .string (qt (tq 1)), .string (qt (tq 2)), .string (qt (tq 3)), .string (qt (tq 4)), .string (qt (tq 5))] 25)
  have HPs := Lib.hid ((HP3.out.alloc (.cells #[.string (qt (tq 0)), .string (qt (tq 1)), .string (qt (tq 2)), .string (qt (tq 3)), .string (qt (tq 4)), .string (qt (tq 5))] 25)).alloc (.cells #[.string (qt (tq 0)), .string (qt (tq 1)), .string (qt (tq 2)), .string (qt (tq 3)), .string (qt (tq 4)), .string (qt (tq 5))] 25)); have HRs := Lib.hid ((HR3.out.alloc (.cells #[.string (qt (tq 0)), .string (qt (tq 1)), .string (qt (tq 2)), .string (qt (tq 3)), .string (qt (tq 4)), .string (qt (tq 5))] 25)).alloc (.cells #[.string (qt (tq 0)), .string (qt (tq 1)), .string (qt (tq 2)), .string (qt (tq 3)), .string (qt (tq 4)), .string (qt (tq 5))] 25))
  have hlr := HR3.out.lt
  generalize ((w3.alloc (.cells #[.string (qt (tq 0)), .string (qt (tq 1)), .string (qt (tq 2)), .string (qt (tq 3)), .string (qt (tq 4)), .string (qt (tq 5))] 25)).alloc (.cells #[.string (qt (tq 0)), .string (qt (tq 1)), .string (qt (tq 2)), .string (qt (tq 3)), .string (qt (tq 4)), .string (qt (tq 5))] 25)) = W4 at HBs HTs HOs HPs HRs ⊢
  obtain ⟨BO, hBO⟩ : ∃ BO, BO = w3.heap.size + 1 := ⟨_, rfl⟩
  obtain ⟨BT, hBT⟩ : ∃ BT, BT = w3.heap.size := ⟨_, rfl⟩
  rw [← hBO] at HOs ⊢
  rw [← hBT] at HTs ⊢
  rw [← obC_zero (fun i => qt (ar i)) (fun i => qt (tq i))] at HOs
  have HN1 : Hid (BO = BT + 1) := Lib.hid (by omega)
  have HN2 : Hid (w.heap.size + 1 < BT) := Lib.hid (by omega)
  clear hBO hBT hlr hbt

  go_loopg [9] N (fun d i wr => ∃ j : Nat, i = .int .i64 j ∧ j ≤ 3 ∧ d = N - j ∧ Blk wr w.heap.size #[.int .i64 x, .int .i64 y, .int .i64 z] 27 ∧ Blk wr (w.heap.size + 1) #[.string ⟨#[]⟩, .string ⟨#[]⟩, .string ⟨#[]⟩, .string ⟨#[]⟩, .string ⟨#[]⟩, .string ⟨#[]⟩] 25 ∧ Blk wr BT #[.string (qt (tq 0)), .string (qt (tq 1)), .string (qt (tq 2)), .string (qt (tq 3)), .string (qt (tq 4)), .string (qt (tq 5))] 25 ∧ Blk wr BO (obC (fun i => qt (ar i)) (fun i => qt (tq i)) j) 25 ∧ Below w.heap.size w wr)
  case atStart => exact ⟨0, rfl, by decide, rfl, HPs.out, HRs.out, HTs.out, HOs.out, HBs.out⟩
  case round =>
    obtain ⟨j, rfl, hj, rfl, hp, hr, ht, ho, hb⟩ := hrel
    have HT := Lib.hid ht; have HP := Lib.hid hp; have HR := Lib.hid hr; have HO := Lib.hid ho; have HB := Lib.hid hb
    clear ht hp hr ho hb
    by_cases hlt : j < 3
    · have hj' : j = 0 ∨ j = 1 ∨ j = 2 := by omega
      have p0 := HP.out.cell 0; have p1 := HP.out.cell 1; have p2 := HP.out.cell 2; have t0 := HT.out.cell 0; have t1 := HT.out.cell 1; have t2 := HT.out.cell 2; have t3 := HT.out.cell 3; have t4 := HT.out.cell 4; have t5 := HT.out.cell 5
      rcases hj' with rfl | rfl | rfl
      · go_wp2_with fail
        go_region_held3 (fun w' => w'.cell? ⟨w.heap.size, 0, none⟩ = some (.int .i64 x) ∧ w'.cell? ⟨w.heap.size, 1, none⟩ = some (.int .i64 y) ∧ w'.cell? ⟨w.heap.size, 2, none⟩ = some (.int .i64 z) ∧ w'.cell? ⟨BT, 0, none⟩ = some (.string (qt (tq 0))) ∧ w'.cell? ⟨BT, 1, none⟩ = some (.string (qt (tq 1))) ∧ w'.cell? ⟨BT, 2, none⟩ = some (.string (qt (tq 2))) ∧ w'.cell? ⟨BT, 3, none⟩ = some (.string (qt (tq 3))) ∧ w'.cell? ⟨BT, 4, none⟩ = some (.string (qt (tq 4))) ∧ w'.cell? ⟨BT, 5, none⟩ = some (.string (qt (tq 5))))
          (first | exact HST.out | go_keep | exact ⟨p0, p1, p2, t0, t1, t2, t3, t4, t5⟩ | exact ⟨ap0, ap1, ap2, at0, at1, at2, at3, at4, at5⟩ | exact ⟨bp0, bp1, bp2, bt0, bt1, bt2, bt3, bt4, bt5⟩ | exact ⟨cp0, cp1, cp2, ct0, ct1, ct2, ct3, ct4, ct5⟩ | exact ⟨dp0, dp1, dp2, dt0, dt1, dt2, dt3, dt4, dt5⟩)
          (first
            | (go_at_call 182; refine (CO.out 0 (by decide) _).mono ?_; rintro e wn ⟨rfl, hbn⟩; first | (have HBc := Lib.hid (HBb.out.trans (hbn.mono HBb.out.size)); have HTc := Lib.hid (Blk.later (HTb.out) hbn); have HPc := Lib.hid (Blk.later (HPb.out) hbn); have HRc := Lib.hid (Blk.later (HRb.out) hbn); have HOc := Lib.hid (Blk.later (HOb.out) hbn); have cp0 := HPc.out.cell 0; have cp1 := HPc.out.cell 1; have cp2 := HPc.out.cell 2; have ct0 := HTc.out.cell 0; have ct1 := HTc.out.cell 1; have ct2 := HTc.out.cell 2; have ct3 := HTc.out.cell 3; have ct4 := HTc.out.cell 4; have ct5 := HTc.out.cell 5; clear hbn) | (have HBb := Lib.hid (HBa.out.trans (hbn.mono HBa.out.size)); have HTb := Lib.hid (Blk.later (HTa.out) hbn); have HPb := Lib.hid (Blk.later (HPa.out) hbn); have HRb := Lib.hid (Blk.later (HRa.out) hbn); have HOb := Lib.hid (Blk.later (HOa.out) hbn); have bp0 := HPb.out.cell 0; have bp1 := HPb.out.cell 1; have bp2 := HPb.out.cell 2; have bt0 := HTb.out.cell 0; have bt1 := HTb.out.cell 1; have bt2 := HTb.out.cell 2; have bt3 := HTb.out.cell 3; have bt4 := HTb.out.cell 4; have bt5 := HTb.out.cell 5; clear hbn) | (have HBa := Lib.hid (HB.out.drew.trans (hbn.mono HB.out.drew.size)); have HTa := Lib.hid (Blk.later (HT.out.drew) hbn); have HPa := Lib.hid (Blk.later (HP.out.drew) hbn); have HRa := Lib.hid (Blk.later (HR.out.drew) hbn); have HOa := Lib.hid (Blk.later (HO.out.drew) hbn); have ap0 := HPa.out.cell 0; have ap1 := HPa.out.cell 1; have ap2 := HPa.out.cell 2; have at0 := HTa.out.cell 0; have at1 := HTa.out.cell 1; have at2 := HTa.out.cell 2; have at3 := HTa.out.cell 3; have at4 := HTa.out.cell 4; have at5 := HTa.out.cell 5; clear hbn))
            | (go_at_call 34; refine (CW.out 0 _).mono ?_; rintro e wm ⟨rfl, hbm⟩; first | (have HBc := Lib.hid (HBb.out.trans (hbm.mono HBb.out.size)); have HTc := Lib.hid (Blk.later (HTb.out) hbm); have HPc := Lib.hid (Blk.later (HPb.out) hbm); have HRc := Lib.hid (Blk.later (HRb.out) hbm); have HOc := Lib.hid (Blk.later (HOb.out) hbm); have cp0 := HPc.out.cell 0; have cp1 := HPc.out.cell 1; have cp2 := HPc.out.cell 2; have ct0 := HTc.out.cell 0; have ct1 := HTc.out.cell 1; have ct2 := HTc.out.cell 2; have ct3 := HTc.out.cell 3; have ct4 := HTc.out.cell 4; have ct5 := HTc.out.cell 5; clear hbm) | (have HBb := Lib.hid (HBa.out.trans (hbm.mono HBa.out.size)); have HTb := Lib.hid (Blk.later (HTa.out) hbm); have HPb := Lib.hid (Blk.later (HPa.out) hbm); have HRb := Lib.hid (Blk.later (HRa.out) hbm); have HOb := Lib.hid (Blk.later (HOa.out) hbm); have bp0 := HPb.out.cell 0; have bp1 := HPb.out.cell 1; have bp2 := HPb.out.cell 2; have bt0 := HTb.out.cell 0; have bt1 := HTb.out.cell 1; have bt2 := HTb.out.cell 2; have bt3 := HTb.out.cell 3; have bt4 := HTb.out.cell 4; have bt5 := HTb.out.cell 5; clear hbm) | (have HBa := Lib.hid (HB.out.drew.trans (hbm.mono HB.out.drew.size)); have HTa := Lib.hid (Blk.later (HT.out.drew) hbm); have HPa := Lib.hid (Blk.later (HP.out.drew) hbm); have HRa := Lib.hid (Blk.later (HR.out.drew) hbm); have HOa := Lib.hid (Blk.later (HO.out.drew) hbm); have ap0 := HPa.out.cell 0; have ap1 := HPa.out.cell 1; have ap2 := HPa.out.cell 2; have at0 := HTa.out.cell 0; have at1 := HTa.out.cell 1; have at2 := HTa.out.cell 2; have at3 := HTa.out.cell 3; have at4 := HTa.out.cell 4; have at5 := HTa.out.cell 5; clear hbm))
            | (go_at_call 176; refine (CM.out 0 (by decide) _).mono ?_; rintro e wl ⟨rfl, hbl⟩; first | (have HBc := Lib.hid (HBb.out.trans (hbl.mono HBb.out.size)); have HTc := Lib.hid (Blk.later (HTb.out) hbl); have HPc := Lib.hid (Blk.later (HPb.out) hbl); have HRc := Lib.hid (Blk.later (HRb.out) hbl); have HOc := Lib.hid (Blk.later (HOb.out) hbl); have cp0 := HPc.out.cell 0; have cp1 := HPc.out.cell 1; have cp2 := HPc.out.cell 2; have ct0 := HTc.out.cell 0; have ct1 := HTc.out.cell 1; have ct2 := HTc.out.cell 2; have ct3 := HTc.out.cell 3; have ct4 := HTc.out.cell 4; have ct5 := HTc.out.cell 5; clear hbl) | (have HBb := Lib.hid (HBa.out.trans (hbl.mono HBa.out.size)); have HTb := Lib.hid (Blk.later (HTa.out) hbl); have HPb := Lib.hid (Blk.later (HPa.out) hbl); have HRb := Lib.hid (Blk.later (HRa.out) hbl); have HOb := Lib.hid (Blk.later (HOa.out) hbl); have bp0 := HPb.out.cell 0; have bp1 := HPb.out.cell 1; have bp2 := HPb.out.cell 2; have bt0 := HTb.out.cell 0; have bt1 := HTb.out.cell 1; have bt2 := HTb.out.cell 2; have bt3 := HTb.out.cell 3; have bt4 := HTb.out.cell 4; have bt5 := HTb.out.cell 5; clear hbl) | (have HBa := Lib.hid (HB.out.drew.trans (hbl.mono HB.out.drew.size)); have HTa := Lib.hid (Blk.later (HT.out.drew) hbl); have HPa := Lib.hid (Blk.later (HP.out.drew) hbl); have HRa := Lib.hid (Blk.later (HR.out.drew) hbl); have HOa := Lib.hid (Blk.later (HO.out.drew) hbl); have ap0 := HPa.out.cell 0; have ap1 := HPa.out.cell 1; have ap2 := HPa.out.cell 2; have at0 := HTa.out.cell 0; have at1 := HTa.out.cell 1; have at2 := HTa.out.cell 2; have at3 := HTa.out.cell 3; have at4 := HTa.out.cell 4; have at5 := HTa.out.cell 5; clear hbl))
            | (go_at_call 39; refine (CL.out 0 (by decide) _).mono ?_; rintro e wi ⟨rfl, hbi⟩; have HBd := Lib.hid (HBc.out.trans (hbi.mono HBc.out.size)); have HTd := Lib.hid (Blk.later (HTc.out) hbi); have HPd := Lib.hid (Blk.later (HPc.out) hbi); have HRd := Lib.hid (Blk.later (HRc.out) hbi); have HOd := Lib.hid (Blk.later (HOc.out) hbi); have dp0 := HPd.out.cell 0; have dp1 := HPd.out.cell 1; have dp2 := HPd.out.cell 2; have dt0 := HTd.out.cell 0; have dt1 := HTd.out.cell 1; have dt2 := HTd.out.cell 2; have dt3 := HTd.out.cell 3; have dt4 := HTd.out.cell 4; have dt5 := HTd.out.cell 5; clear hbi; have oK := Blk.cg HOd.out (i := 0) (by simp [obC]); have fK := HOd.out.free 0; have HST : Hid ((wi.setCell ⟨BO, 0, none⟩ (.string (qt (ar 0)))).cell? ⟨w.heap.size, 0, none⟩ = some (.int .i64 x) ∧ (wi.setCell ⟨BO, 0, none⟩ (.string (qt (ar 0)))).cell? ⟨w.heap.size, 1, none⟩ = some (.int .i64 y) ∧ (wi.setCell ⟨BO, 0, none⟩ (.string (qt (ar 0)))).cell? ⟨w.heap.size, 2, none⟩ = some (.int .i64 z) ∧ (wi.setCell ⟨BO, 0, none⟩ (.string (qt (ar 0)))).cell? ⟨BT, 0, none⟩ = some (.string (qt (tq 0))) ∧ (wi.setCell ⟨BO, 0, none⟩ (.string (qt (ar 0)))).cell? ⟨BT, 1, none⟩ = some (.string (qt (tq 1))) ∧ (wi.setCell ⟨BO, 0, none⟩ (.string (qt (ar 0)))).cell? ⟨BT, 2, none⟩ = some (.string (qt (tq 2))) ∧ (wi.setCell ⟨BO, 0, none⟩ (.string (qt (ar 0)))).cell? ⟨BT, 3, none⟩ = some (.string (qt (tq 3))) ∧ (wi.setCell ⟨BO, 0, none⟩ (.string (qt (ar 0)))).cell? ⟨BT, 4, none⟩ = some (.string (qt (tq 4))) ∧ (wi.setCell ⟨BO, 0, none⟩ (.string (qt (ar 0)))).cell? ⟨BT, 5, none⟩ = some (.string (qt (tq 5)))) := Lib.hid (by have hn1 := HN1.out; have hn2 := HN2.out; have hps := Blk.other (a := ⟨BO, 0, none⟩) HPd.out (by show BO ≠ _; omega) (.string (qt (ar 0))); have hts := Blk.other (a := ⟨BO, 0, none⟩) HTd.out (by show BO ≠ _; omega) (.string (qt (ar 0))); exact ⟨hps.cell 0, hps.cell 1, hps.cell 2, hts.cell 0, hts.cell 1, hts.cell 2, hts.cell 3, hts.cell 4, hts.cell 5⟩)))
        all_goals
          go_wp2_with fail
          go_roundg (N - (0 + 1))
          case measure => have := HN.out; omega
          case rel =>
            have hn1 := HN1.out; have hn2 := HN2.out
            refine ⟨1, rfl, by decide, rfl, HPd.out.other (by show BO ≠ _; omega) _, HRd.out.other (by show BO ≠ _; omega) _, HTd.out.other (by show BO ≠ _; omega) _, ?_, HBd.out.setCell (p := ⟨BO, 0, none⟩) (by show _ ≤ BO; omega) _⟩
            rw [← GS.out 0 (by decide)]
            exact HOd.out.set 0 _
      · go_wp2_with fail
        go_region_held3 (fun w' => w'.cell? ⟨w.heap.size, 0, none⟩ = some (.int .i64 x) ∧ w'.cell? ⟨w.heap.size, 1, none⟩ = some (.int .i64 y) ∧ w'.cell? ⟨w.heap.size, 2, none⟩ = some (.int .i64 z) ∧ w'.cell? ⟨BT, 0, none⟩ = some (.string (qt (tq 0))) ∧ w'.cell? ⟨BT, 1, none⟩ = some (.string (qt (tq 1))) ∧ w'.cell? ⟨BT, 2, none⟩ = some (.string (qt (tq 2))) ∧ w'.cell? ⟨BT, 3, none⟩ = some (.string (qt (tq 3))) ∧ w'.cell? ⟨BT, 4, none⟩ = some (.string (qt (tq 4))) ∧ w'.cell? ⟨BT, 5, none⟩ = some (.string (qt (tq 5))))
          (first | exact HST.out | go_keep | exact ⟨p0, p1, p2, t0, t1, t2, t3, t4, t5⟩ | exact ⟨ap0, ap1, ap2, at0, at1, at2, at3, at4, at5⟩ | exact ⟨bp0, bp1, bp2, bt0, bt1, bt2, bt3, bt4, bt5⟩ | exact ⟨cp0, cp1, cp2, ct0, ct1, ct2, ct3, ct4, ct5⟩ | exact ⟨dp0, dp1, dp2, dt0, dt1, dt2, dt3, dt4, dt5⟩)
          (first
            | (go_at_call 182; refine (CO.out 1 (by decide) _).mono ?_; rintro e wn ⟨rfl, hbn⟩; first | (have HBc := Lib.hid (HBb.out.trans (hbn.mono HBb.out.size)); have HTc := Lib.hid (Blk.later (HTb.out) hbn); have HPc := Lib.hid (Blk.later (HPb.out) hbn); have HRc := Lib.hid (Blk.later (HRb.out) hbn); have HOc := Lib.hid (Blk.later (HOb.out) hbn); have cp0 := HPc.out.cell 0; have cp1 := HPc.out.cell 1; have cp2 := HPc.out.cell 2; have ct0 := HTc.out.cell 0; have ct1 := HTc.out.cell 1; have ct2 := HTc.out.cell 2; have ct3 := HTc.out.cell 3; have ct4 := HTc.out.cell 4; have ct5 := HTc.out.cell 5; clear hbn) | (have HBb := Lib.hid (HBa.out.trans (hbn.mono HBa.out.size)); have HTb := Lib.hid (Blk.later (HTa.out) hbn); have HPb := Lib.hid (Blk.later (HPa.out) hbn); have HRb := Lib.hid (Blk.later (HRa.out) hbn); have HOb := Lib.hid (Blk.later (HOa.out) hbn); have bp0 := HPb.out.cell 0; have bp1 := HPb.out.cell 1; have bp2 := HPb.out.cell 2; have bt0 := HTb.out.cell 0; have bt1 := HTb.out.cell 1; have bt2 := HTb.out.cell 2; have bt3 := HTb.out.cell 3; have bt4 := HTb.out.cell 4; have bt5 := HTb.out.cell 5; clear hbn) | (have HBa := Lib.hid (HB.out.drew.trans (hbn.mono HB.out.drew.size)); have HTa := Lib.hid (Blk.later (HT.out.drew) hbn); have HPa := Lib.hid (Blk.later (HP.out.drew) hbn); have HRa := Lib.hid (Blk.later (HR.out.drew) hbn); have HOa := Lib.hid (Blk.later (HO.out.drew) hbn); have ap0 := HPa.out.cell 0; have ap1 := HPa.out.cell 1; have ap2 := HPa.out.cell 2; have at0 := HTa.out.cell 0; have at1 := HTa.out.cell 1; have at2 := HTa.out.cell 2; have at3 := HTa.out.cell 3; have at4 := HTa.out.cell 4; have at5 := HTa.out.cell 5; clear hbn))
            | (go_at_call 34; refine (CW.out 1 _).mono ?_; rintro e wm ⟨rfl, hbm⟩; first | (have HBc := Lib.hid (HBb.out.trans (hbm.mono HBb.out.size)); have HTc := Lib.hid (Blk.later (HTb.out) hbm); have HPc := Lib.hid (Blk.later (HPb.out) hbm); have HRc := Lib.hid (Blk.later (HRb.out) hbm); have HOc := Lib.hid (Blk.later (HOb.out) hbm); have cp0 := HPc.out.cell 0; have cp1 := HPc.out.cell 1; have cp2 := HPc.out.cell 2; have ct0 := HTc.out.cell 0; have ct1 := HTc.out.cell 1; have ct2 := HTc.out.cell 2; have ct3 := HTc.out.cell 3; have ct4 := HTc.out.cell 4; have ct5 := HTc.out.cell 5; clear hbm) | (have HBb := Lib.hid (HBa.out.trans (hbm.mono HBa.out.size)); have HTb := Lib.hid (Blk.later (HTa.out) hbm); have HPb := Lib.hid (Blk.later (HPa.out) hbm); have HRb := Lib.hid (Blk.later (HRa.out) hbm); have HOb := Lib.hid (Blk.later (HOa.out) hbm); have bp0 := HPb.out.cell 0; have bp1 := HPb.out.cell 1; have bp2 := HPb.out.cell 2; have bt0 := HTb.out.cell 0; have bt1 := HTb.out.cell 1; have bt2 := HTb.out.cell 2; have bt3 := HTb.out.cell 3; have bt4 := HTb.out.cell 4; have bt5 := HTb.out.cell 5; clear hbm) | (have HBa := Lib.hid (HB.out.drew.trans (hbm.mono HB.out.drew.size)); have HTa := Lib.hid (Blk.later (HT.out.drew) hbm); have HPa := Lib.hid (Blk.later (HP.out.drew) hbm); have HRa := Lib.hid (Blk.later (HR.out.drew) hbm); have HOa := Lib.hid (Blk.later (HO.out.drew) hbm); have ap0 := HPa.out.cell 0; have ap1 := HPa.out.cell 1; have ap2 := HPa.out.cell 2; have at0 := HTa.out.cell 0; have at1 := HTa.out.cell 1; have at2 := HTa.out.cell 2; have at3 := HTa.out.cell 3; have at4 := HTa.out.cell 4; have at5 := HTa.out.cell 5; clear hbm))
            | (go_at_call 176; refine (CM.out 1 (by decide) _).mono ?_; rintro e wl ⟨rfl, hbl⟩; first | (have HBc := Lib.hid (HBb.out.trans (hbl.mono HBb.out.size)); have HTc := Lib.hid (Blk.later (HTb.out) hbl); have HPc := Lib.hid (Blk.later (HPb.out) hbl); have HRc := Lib.hid (Blk.later (HRb.out) hbl); have HOc := Lib.hid (Blk.later (HOb.out) hbl); have cp0 := HPc.out.cell 0; have cp1 := HPc.out.cell 1; have cp2 := HPc.out.cell 2; have ct0 := HTc.out.cell 0; have ct1 := HTc.out.cell 1; have ct2 := HTc.out.cell 2; have ct3 := HTc.out.cell 3; have ct4 := HTc.out.cell 4; have ct5 := HTc.out.cell 5; clear hbl) | (have HBb := Lib.hid (HBa.out.trans (hbl.mono HBa.out.size)); have HTb := Lib.hid (Blk.later (HTa.out) hbl); have HPb := Lib.hid (Blk.later (HPa.out) hbl); have HRb := Lib.hid (Blk.later (HRa.out) hbl); have HOb := Lib.hid (Blk.later (HOa.out) hbl); have bp0 := HPb.out.cell 0; have bp1 := HPb.out.cell 1; have bp2 := HPb.out.cell 2; have bt0 := HTb.out.cell 0; have bt1 := HTb.out.cell 1; have bt2 := HTb.out.cell 2; have bt3 := HTb.out.cell 3; have bt4 := HTb.out.cell 4; have bt5 := HTb.out.cell 5; clear hbl) | (have HBa := Lib.hid (HB.out.drew.trans (hbl.mono HB.out.drew.size)); have HTa := Lib.hid (Blk.later (HT.out.drew) hbl); have HPa := Lib.hid (Blk.later (HP.out.drew) hbl); have HRa := Lib.hid (Blk.later (HR.out.drew) hbl); have HOa := Lib.hid (Blk.later (HO.out.drew) hbl); have ap0 := HPa.out.cell 0; have ap1 := HPa.out.cell 1; have ap2 := HPa.out.cell 2; have at0 := HTa.out.cell 0; have at1 := HTa.out.cell 1; have at2 := HTa.out.cell 2; have at3 := HTa.out.cell 3; have at4 := HTa.out.cell 4; have at5 := HTa.out.cell 5; clear hbl))
            | (go_at_call 39; refine (CL.out 1 (by decide) _).mono ?_; rintro e wi ⟨rfl, hbi⟩; have HBd := Lib.hid (HBc.out.trans (hbi.mono HBc.out.size)); have HTd := Lib.hid (Blk.later (HTc.out) hbi); have HPd := Lib.hid (Blk.later (HPc.out) hbi); have HRd := Lib.hid (Blk.later (HRc.out) hbi); have HOd := Lib.hid (Blk.later (HOc.out) hbi); have dp0 := HPd.out.cell 0; have dp1 := HPd.out.cell 1; have dp2 := HPd.out.cell 2; have dt0 := HTd.out.cell 0; have dt1 := HTd.out.cell 1; have dt2 := HTd.out.cell 2; have dt3 := HTd.out.cell 3; have dt4 := HTd.out.cell 4; have dt5 := HTd.out.cell 5; clear hbi; have oK := Blk.cg HOd.out (i := 1) (by simp [obC]); have fK := HOd.out.free 1; have HST : Hid ((wi.setCell ⟨BO, 1, none⟩ (.string (qt (ar 1)))).cell? ⟨w.heap.size, 0, none⟩ = some (.int .i64 x) ∧ (wi.setCell ⟨BO, 1, none⟩ (.string (qt (ar 1)))).cell? ⟨w.heap.size, 1, none⟩ = some (.int .i64 y) ∧ (wi.setCell ⟨BO, 1, none⟩ (.string (qt (ar 1)))).cell? ⟨w.heap.size, 2, none⟩ = some (.int .i64 z) ∧ (wi.setCell ⟨BO, 1, none⟩ (.string (qt (ar 1)))).cell? ⟨BT, 0, none⟩ = some (.string (qt (tq 0))) ∧ (wi.setCell ⟨BO, 1, none⟩ (.string (qt (ar 1)))).cell? ⟨BT, 1, none⟩ = some (.string (qt (tq 1))) ∧ (wi.setCell ⟨BO, 1, none⟩ (.string (qt (ar 1)))).cell? ⟨BT, 2, none⟩ = some (.string (qt (tq 2))) ∧ (wi.setCell ⟨BO, 1, none⟩ (.string (qt (ar 1)))).cell? ⟨BT, 3, none⟩ = some (.string (qt (tq 3))) ∧ (wi.setCell ⟨BO, 1, none⟩ (.string (qt (ar 1)))).cell? ⟨BT, 4, none⟩ = some (.string (qt (tq 4))) ∧ (wi.setCell ⟨BO, 1, none⟩ (.string (qt (ar 1)))).cell? ⟨BT, 5, none⟩ = some (.string (qt (tq 5)))) := Lib.hid (by have hn1 := HN1.out; have hn2 := HN2.out; have hps := Blk.other (a := ⟨BO, 1, none⟩) HPd.out (by show BO ≠ _; omega) (.string (qt (ar 1))); have hts := Blk.other (a := ⟨BO, 1, none⟩) HTd.out (by show BO ≠ _; omega) (.string (qt (ar 1))); exact ⟨hps.cell 0, hps.cell 1, hps.cell 2, hts.cell 0, hts.cell 1, hts.cell 2, hts.cell 3, hts.cell 4, hts.cell 5⟩)))
        all_goals
          go_wp2_with fail
          go_roundg (N - (1 + 1))
          case measure => have := HN.out; omega
          case rel =>
            have hn1 := HN1.out; have hn2 := HN2.out
            refine ⟨2, rfl, by decide, rfl, HPd.out.other (by show BO ≠ _; omega) _, HRd.out.other (by show BO ≠ _; omega) _, HTd.out.other (by show BO ≠ _; omega) _, ?_, HBd.out.setCell (p := ⟨BO, 1, none⟩) (by show _ ≤ BO; omega) _⟩
            rw [← GS.out 1 (by decide)]
            exact HOd.out.set 1 _
      · go_wp2_with fail
        go_region_held3 (fun w' => w'.cell? ⟨w.heap.size, 0, none⟩ = some (.int .i64 x) ∧ w'.cell? ⟨w.heap.size, 1, none⟩ = some (.int .i64 y) ∧ w'.cell? ⟨w.heap.size, 2, none⟩ = some (.int .i64 z) ∧ w'.cell? ⟨BT, 0, none⟩ = some (.string (qt (tq 0))) ∧ w'.cell? ⟨BT, 1, none⟩ = some (.string (qt (tq 1))) ∧ w'.cell? ⟨BT, 2, none⟩ = some (.string (qt (tq 2))) ∧ w'.cell? ⟨BT, 3, none⟩ = some (.string (qt (tq 3))) ∧ w'.cell? ⟨BT, 4, none⟩ = some (.string (qt (tq 4))) ∧ w'.cell? ⟨BT, 5, none⟩ = some (.string (qt (tq 5))))
          (first | exact HST.out | go_keep | exact ⟨p0, p1, p2, t0, t1, t2, t3, t4, t5⟩ | exact ⟨ap0, ap1, ap2, at0, at1, at2, at3, at4, at5⟩ | exact ⟨bp0, bp1, bp2, bt0, bt1, bt2, bt3, bt4, bt5⟩ | exact ⟨cp0, cp1, cp2, ct0, ct1, ct2, ct3, ct4, ct5⟩ | exact ⟨dp0, dp1, dp2, dt0, dt1, dt2, dt3, dt4, dt5⟩)
          (first
            | (go_at_call 182; refine (CO.out 2 (by decide) _).mono ?_; rintro e wn ⟨rfl, hbn⟩; first | (have HBc := Lib.hid (HBb.out.trans (hbn.mono HBb.out.size)); have HTc := Lib.hid (Blk.later (HTb.out) hbn); have HPc := Lib.hid (Blk.later (HPb.out) hbn); have HRc := Lib.hid (Blk.later (HRb.out) hbn); have HOc := Lib.hid (Blk.later (HOb.out) hbn); have cp0 := HPc.out.cell 0; have cp1 := HPc.out.cell 1; have cp2 := HPc.out.cell 2; have ct0 := HTc.out.cell 0; have ct1 := HTc.out.cell 1; have ct2 := HTc.out.cell 2; have ct3 := HTc.out.cell 3; have ct4 := HTc.out.cell 4; have ct5 := HTc.out.cell 5; clear hbn) | (have HBb := Lib.hid (HBa.out.trans (hbn.mono HBa.out.size)); have HTb := Lib.hid (Blk.later (HTa.out) hbn); have HPb := Lib.hid (Blk.later (HPa.out) hbn); have HRb := Lib.hid (Blk.later (HRa.out) hbn); have HOb := Lib.hid (Blk.later (HOa.out) hbn); have bp0 := HPb.out.cell 0; have bp1 := HPb.out.cell 1; have bp2 := HPb.out.cell 2; have bt0 := HTb.out.cell 0; have bt1 := HTb.out.cell 1; have bt2 := HTb.out.cell 2; have bt3 := HTb.out.cell 3; have bt4 := HTb.out.cell 4; have bt5 := HTb.out.cell 5; clear hbn) | (have HBa := Lib.hid (HB.out.drew.trans (hbn.mono HB.out.drew.size)); have HTa := Lib.hid (Blk.later (HT.out.drew) hbn); have HPa := Lib.hid (Blk.later (HP.out.drew) hbn); have HRa := Lib.hid (Blk.later (HR.out.drew) hbn); have HOa := Lib.hid (Blk.later (HO.out.drew) hbn); have ap0 := HPa.out.cell 0; have ap1 := HPa.out.cell 1; have ap2 := HPa.out.cell 2; have at0 := HTa.out.cell 0; have at1 := HTa.out.cell 1; have at2 := HTa.out.cell 2; have at3 := HTa.out.cell 3; have at4 := HTa.out.cell 4; have at5 := HTa.out.cell 5; clear hbn))
            | (go_at_call 34; refine (CW.out 2 _).mono ?_; rintro e wm ⟨rfl, hbm⟩; first | (have HBc := Lib.hid (HBb.out.trans (hbm.mono HBb.out.size)); have HTc := Lib.hid (Blk.later (HTb.out) hbm); have HPc := Lib.hid (Blk.later (HPb.out) hbm); have HRc := Lib.hid (Blk.later (HRb.out) hbm); have HOc := Lib.hid (Blk.later (HOb.out) hbm); have cp0 := HPc.out.cell 0; have cp1 := HPc.out.cell 1; have cp2 := HPc.out.cell 2; have ct0 := HTc.out.cell 0; have ct1 := HTc.out.cell 1; have ct2 := HTc.out.cell 2; have ct3 := HTc.out.cell 3; have ct4 := HTc.out.cell 4; have ct5 := HTc.out.cell 5; clear hbm) | (have HBb := Lib.hid (HBa.out.trans (hbm.mono HBa.out.size)); have HTb := Lib.hid (Blk.later (HTa.out) hbm); have HPb := Lib.hid (Blk.later (HPa.out) hbm); have HRb := Lib.hid (Blk.later (HRa.out) hbm); have HOb := Lib.hid (Blk.later (HOa.out) hbm); have bp0 := HPb.out.cell 0; have bp1 := HPb.out.cell 1; have bp2 := HPb.out.cell 2; have bt0 := HTb.out.cell 0; have bt1 := HTb.out.cell 1; have bt2 := HTb.out.cell 2; have bt3 := HTb.out.cell 3; have bt4 := HTb.out.cell 4; have bt5 := HTb.out.cell 5; clear hbm) | (have HBa := Lib.hid (HB.out.drew.trans (hbm.mono HB.out.drew.size)); have HTa := Lib.hid (Blk.later (HT.out.drew) hbm); have HPa := Lib.hid (Blk.later (HP.out.drew) hbm); have HRa := Lib.hid (Blk.later (HR.out.drew) hbm); have HOa := Lib.hid (Blk.later (HO.out.drew) hbm); have ap0 := HPa.out.cell 0; have ap1 := HPa.out.cell 1; have ap2 := HPa.out.cell 2; have at0 := HTa.out.cell 0; have at1 := HTa.out.cell 1; have at2 := HTa.out.cell 2; have at3 := HTa.out.cell 3; have at4 := HTa.out.cell 4; have at5 := HTa.out.cell 5; clear hbm))
            | (go_at_call 176; refine (CM.out 2 (by decide) _).mono ?_; rintro e wl ⟨rfl, hbl⟩; first | (have HBc := Lib.hid (HBb.out.trans (hbl.mono HBb.out.size)); have HTc := Lib.hid (Blk.later (HTb.out) hbl); have HPc := Lib.hid (Blk.later (HPb.out) hbl); have HRc := Lib.hid (Blk.later (HRb.out) hbl); have HOc := Lib.hid (Blk.later (HOb.out) hbl); have cp0 := HPc.out.cell 0; have cp1 := HPc.out.cell 1; have cp2 := HPc.out.cell 2; have ct0 := HTc.out.cell 0; have ct1 := HTc.out.cell 1; have ct2 := HTc.out.cell 2; have ct3 := HTc.out.cell 3; have ct4 := HTc.out.cell 4; have ct5 := HTc.out.cell 5; clear hbl) | (have HBb := Lib.hid (HBa.out.trans (hbl.mono HBa.out.size)); have HTb := Lib.hid (Blk.later (HTa.out) hbl); have HPb := Lib.hid (Blk.later (HPa.out) hbl); have HRb := Lib.hid (Blk.later (HRa.out) hbl); have HOb := Lib.hid (Blk.later (HOa.out) hbl); have bp0 := HPb.out.cell 0; have bp1 := HPb.out.cell 1; have bp2 := HPb.out.cell 2; have bt0 := HTb.out.cell 0; have bt1 := HTb.out.cell 1; have bt2 := HTb.out.cell 2; have bt3 := HTb.out.cell 3; have bt4 := HTb.out.cell 4; have bt5 := HTb.out.cell 5; clear hbl) | (have HBa := Lib.hid (HB.out.drew.trans (hbl.mono HB.out.drew.size)); have HTa := Lib.hid (Blk.later (HT.out.drew) hbl); have HPa := Lib.hid (Blk.later (HP.out.drew) hbl); have HRa := Lib.hid (Blk.later (HR.out.drew) hbl); have HOa := Lib.hid (Blk.later (HO.out.drew) hbl); have ap0 := HPa.out.cell 0; have ap1 := HPa.out.cell 1; have ap2 := HPa.out.cell 2; have at0 := HTa.out.cell 0; have at1 := HTa.out.cell 1; have at2 := HTa.out.cell 2; have at3 := HTa.out.cell 3; have at4 := HTa.out.cell 4; have at5 := HTa.out.cell 5; clear hbl))
            | (go_at_call 39; refine (CL.out 2 (by decide) _).mono ?_; rintro e wi ⟨rfl, hbi⟩; have HBd := Lib.hid (HBc.out.trans (hbi.mono HBc.out.size)); have HTd := Lib.hid (Blk.later (HTc.out) hbi); have HPd := Lib.hid (Blk.later (HPc.out) hbi); have HRd := Lib.hid (Blk.later (HRc.out) hbi); have HOd := Lib.hid (Blk.later (HOc.out) hbi); have dp0 := HPd.out.cell 0; have dp1 := HPd.out.cell 1; have dp2 := HPd.out.cell 2; have dt0 := HTd.out.cell 0; have dt1 := HTd.out.cell 1; have dt2 := HTd.out.cell 2; have dt3 := HTd.out.cell 3; have dt4 := HTd.out.cell 4; have dt5 := HTd.out.cell 5; clear hbi; have oK := Blk.cg HOd.out (i := 2) (by simp [obC]); have fK := HOd.out.free 2; have HST : Hid ((wi.setCell ⟨BO, 2, none⟩ (.string (qt (ar 2)))).cell? ⟨w.heap.size, 0, none⟩ = some (.int .i64 x) ∧ (wi.setCell ⟨BO, 2, none⟩ (.string (qt (ar 2)))).cell? ⟨w.heap.size, 1, none⟩ = some (.int .i64 y) ∧ (wi.setCell ⟨BO, 2, none⟩ (.string (qt (ar 2)))).cell? ⟨w.heap.size, 2, none⟩ = some (.int .i64 z) ∧ (wi.setCell ⟨BO, 2, none⟩ (.string (qt (ar 2)))).cell? ⟨BT, 0, none⟩ = some (.string (qt (tq 0))) ∧ (wi.setCell ⟨BO, 2, none⟩ (.string (qt (ar 2)))).cell? ⟨BT, 1, none⟩ = some (.string (qt (tq 1))) ∧ (wi.setCell ⟨BO, 2, none⟩ (.string (qt (ar 2)))).cell? ⟨BT, 2, none⟩ = some (.string (qt (tq 2))) ∧ (wi.setCell ⟨BO, 2, none⟩ (.string (qt (ar 2)))).cell? ⟨BT, 3, none⟩ = some (.string (qt (tq 3))) ∧ (wi.setCell ⟨BO, 2, none⟩ (.string (qt (ar 2)))).cell? ⟨BT, 4, none⟩ = some (.string (qt (tq 4))) ∧ (wi.setCell ⟨BO, 2, none⟩ (.string (qt (ar 2)))).cell? ⟨BT, 5, none⟩ = some (.string (qt (tq 5)))) := Lib.hid (by have hn1 := HN1.out; have hn2 := HN2.out; have hps := Blk.other (a := ⟨BO, 2, none⟩) HPd.out (by show BO ≠ _; omega) (.string (qt (ar 2))); have hts := Blk.other (a := ⟨BO, 2, none⟩) HTd.out (by show BO ≠ _; omega) (.string (qt (ar 2))); exact ⟨hps.cell 0, hps.cell 1, hps.cell 2, hts.cell 0, hts.cell 1, hts.cell 2, hts.cell 3, hts.cell 4, hts.cell 5⟩)))
        all_goals
          go_wp2_with fail
          go_roundg (N - (2 + 1))
          case measure => have := HN.out; omega
          case rel =>
            have hn1 := HN1.out; have hn2 := HN2.out
            refine ⟨3, rfl, by decide, rfl, HPd.out.other (by show BO ≠ _; omega) _, HRd.out.other (by show BO ≠ _; omega) _, HTd.out.other (by show BO ≠ _; omega) _, ?_, HBd.out.setCell (p := ⟨BO, 2, none⟩) (by show _ ≤ BO; omega) _⟩
            rw [← GS.out 2 (by decide)]
            exact HOd.out.set 2 _
    · have hj3 : j = 3 := by omega
      subst hj3
      rw [obC_three] at HO
      have o0 := HO.out.cell 0; have o1 := HO.out.cell 1; have o2 := HO.out.cell 2; have o3 := HO.out.cell 3; have o4 := HO.out.cell 4; have o5 := HO.out.cell 5
      have r0 := HR.out.cell 0; have r1 := HR.out.cell 1; have r2 := HR.out.cell 2; have r3 := HR.out.cell 3; have r4 := HR.out.cell 4; have r5 := HR.out.cell 5
      have f0 := HR.out.free 0; have f1 := HR.out.free 1; have f2 := HR.out.free 2; have f3 := HR.out.free 3; have f4 := HR.out.free 4; have f5 := HR.out.free 5
      go_wp2_with fail
      rw [HAH.out.1, HAH.out.2.1, HAH.out.2.2]
      have hr3 := (Blk.set (Blk.set (Blk.set (Blk.set (Blk.set (Blk.set HR.out 0 (.string (qt (ar 0)))) 1 (.string (qt (ar 1)))) 2 (.string (qt (ar 2)))) 3 (.string (qt (tq 3)))) 4 (.string (qt (tq 4)))) 5 (.string (qt (tq 5))))
      have hb3 := (Below.setCell (p := ⟨w.heap.size + 1, 5, none⟩) (Below.setCell (p := ⟨w.heap.size + 1, 4, none⟩) (Below.setCell (p := ⟨w.heap.size + 1, 3, none⟩) (Below.setCell (p := ⟨w.heap.size + 1, 2, none⟩) (Below.setCell (p := ⟨w.heap.size + 1, 1, none⟩) (Below.setCell (p := ⟨w.heap.size + 1, 0, none⟩) HB.out (by show _ ≤ w.heap.size + 1; omega) (.string (qt (ar 0)))) (by show _ ≤ w.heap.size + 1; omega) (.string (qt (ar 1)))) (by show _ ≤ w.heap.size + 1; omega) (.string (qt (ar 2)))) (by show _ ≤ w.heap.size + 1; omega) (.string (qt (tq 3)))) (by show _ ≤ w.heap.size + 1; omega) (.string (qt (tq 4)))) (by show _ ≤ w.heap.size + 1; omega) (.string (qt (tq 5))))
      generalize ((((((wr.setCell ⟨w.heap.size + 1, 0, none⟩ (.string (qt (ar 0)))).setCell ⟨w.heap.size + 1, 1, none⟩ (.string (qt (ar 1)))).setCell ⟨w.heap.size + 1, 2, none⟩ (.string (qt (ar 2)))).setCell ⟨w.heap.size + 1, 3, none⟩ (.string (qt (tq 3)))).setCell ⟨w.heap.size + 1, 4, none⟩ (.string (qt (tq 4)))).setCell ⟨w.heap.size + 1, 5, none⟩ (.string (qt (tq 5)))) = W3 at hr3 hb3 ⊢
      have s0 := hr3.cell 0; have s1 := hr3.cell 1; have s2 := hr3.cell 2; have s3 := hr3.cell 3; have s4 := hr3.cell 4; have s5 := hr3.cell 5
      exact bodyPost_ret (by simp [results, Tryz.results108, go_sem, s0, s1, s2, s3, s4, s5]; try rfl) rfl ⟨rfl, hb3⟩

set_option maxHeartbeats 4000000 in
set_option maxRecDepth 100000 in
/-- The turn about an axis through a right point, by the reference. -/
theorem refAround1_any (x y z : Int) (q : Rat) (w : World) (hq : Dig 24 q) (hp : okP x y z = true) :
    Calls Tryz.prog 108 #[.int .i64 1, .agg #[.int .i64 x, .int .i64 y, .int .i64 z], .string (qt q)] w fun e w' => e = .returned (.agg #[.string (qt (around 1 x y z q 0)), .string (qt (around 1 x y z q 1)), .string (qt (around 1 x y z q 2)), .string (qt (around 1 x y z q 3)), .string (qt (around 1 x y z q 4)), .string (qt (around 1 x y z q 5))]) ∧ Below w.heap.size w w' := by
  have hpp := okP_parts hp
  obtain ⟨tq, htq⟩ : ∃ tq, tq = tqf 1 q := ⟨_, rfl⟩
  obtain ⟨ar, har⟩ : ∃ ar, ar = around 1 x y z q := ⟨_, rfl⟩
  have hq6 : ∀ i, i < 6 → Dig 24 (tq i) := fun i _ => by rw [htq]; exact tqf_dig hq i
  have hal : ∀ i, i < 3 → (crd x y z i : Rat) - gone tq x y z i = ar i := fun i hi => by rw [har, around_low 1 x y z q hi, htq]; unfold gone; grind
  have hah : ar 3 = tq 3 ∧ ar 4 = tq 4 ∧ ar 5 = tq 5 := by rw [har, htq]; exact around_high 1 x y z q
  have ZE := Lib.hid refZero_any
  have CO : Hid (∀ i, i < 3 → ∀ w, Calls Tryz.prog 182 #[.int .i64 (i : Nat), .agg #[.int .i64 x, .int .i64 y, .int .i64 z]] w fun E w' => E = .returned (.int .i64 (crd x y z i)) ∧ Below w.heap.size w w') := Lib.hid (fun i hi w => coordinate_any i hi x y z w)
  have CW : Hid (∀ i, ∀ w, Calls Tryz.prog 34 #[.int .i64 (crd x y z i)] w fun e w' => e = .returned (.string (qt (crd x y z i : Rat))) ∧ Below w.heap.size w w') := Lib.hid (fun i w => by
    have := crd_in hpp i
    exact refQWhole_any _ w (by omega) (by omega))
  have CM : Hid (∀ i, i < 3 → ∀ w, Calls Tryz.prog 176 #[.agg #[.string (qt (tq 0)), .string (qt (tq 1)), .string (qt (tq 2)), .string (qt (tq 3)), .string (qt (tq 4)), .string (qt (tq 5))], .agg #[.int .i64 x, .int .i64 y, .int .i64 z], .int .i64 (i : Nat)] w fun E w' => E = .returned (.string (qt (gone tq x y z i))) ∧ Below w.heap.size w w') := Lib.hid (fun i hi w => refMoved_any tq x y z i hi w hp hq6)
  have CL : Hid (∀ i, i < 3 → ∀ w, Calls Tryz.prog 39 #[.string (qt (crd x y z i : Rat)), .string (qt (gone tq x y z i))] w fun e w' => e = .returned (.string (qt (ar i))) ∧ Below w.heap.size w w') := Lib.hid (fun i hi w => by
    rw [← hal i hi]
    exact refQLess_any _ _ w ((crd_dig hp i).mono (by decide)) ((gone_dig hp hq6 i).mono (by decide)))
  have HTS : Hid ((#[.string ⟨#[48]⟩, .string ⟨#[48]⟩, .string ⟨#[48]⟩, .string ⟨#[48]⟩, .string (qt q), .string ⟨#[48]⟩] : Array Value) = #[.string (qt (tq 0)), .string (qt (tq 1)), .string (qt (tq 2)), .string (qt (tq 3)), .string (qt (tq 4)), .string (qt (tq 5))]) := Lib.hid (by rw [htq]; exact tqf_set1 q)
  have GS : Hid (∀ i, i < 3 → (obC (fun i => qt (ar i)) (fun i => qt (tq i)) i).setIfInBounds i (.string (qt (ar i))) = obC (fun i => qt (ar i)) (fun i => qt (tq i)) (i + 1)) := Lib.hid fun i hi => obC_set _ _ hi
  have HAH := Lib.hid hah
  rw [← har]
  clear hq hp hpp hq6 hal hah htq har
  obtain ⟨N, hN⟩ : ∃ N : Nat, N = 3 := ⟨_, rfl⟩
  have HN := Lib.hid hN
  clear hN
  have HB0 := Lib.hid (below_two w (.cells #[.int .i64 x, .int .i64 y, .int .i64 z] 27) (.cells #[.string ⟨#[]⟩, .string ⟨#[]⟩, .string ⟨#[]⟩, .string ⟨#[]⟩, .string ⟨#[]⟩, .string ⟨#[]⟩] 25))
  have HR0 := Lib.hid (blk_new1 w (.cells #[.int .i64 x, .int .i64 y, .int .i64 z] 27) #[.string ⟨#[]⟩, .string ⟨#[]⟩, .string ⟨#[]⟩, .string ⟨#[]⟩, .string ⟨#[]⟩, .string ⟨#[]⟩] 25)
  have HP0 := Lib.hid ((blk_new w #[.int .i64 x, .int .i64 y, .int .i64 z] 27).alloc (.cells #[.string ⟨#[]⟩, .string ⟨#[]⟩, .string ⟨#[]⟩, .string ⟨#[]⟩, .string ⟨#[]⟩, .string ⟨#[]⟩] 25))
  go_enter Tryz.func108, Tryz.ntmps108
  go_wp2_with fail
  refine (ZE.out _).mono ?_
  rintro e w3 ⟨rfl, hb⟩
  have HB3 := Lib.hid (HB0.out.trans (hb.mono HB0.out.size)); have HP3 := Lib.hid (HP0.out.later hb); have HR3 := Lib.hid (HR0.out.later hb)
  clear hb
  go_wp2_with fail
  rw [HTS.out]
  have hbt := HB3.out.size
  have HBs := Lib.hid (((HB3.out.alloc HB3.out.size (.cells #[.string (qt (tq 0)), .string (qt (tq 1)), .string (qt (tq 2)), .string (qt (tq 3)), .string (qt (tq 4)), .string (qt (tq 5))] 25)).alloc (by simp; omega) (.cells #[.string (qt (tq 0)), .string (qt (tq 1)), .string (qt (tq 2)), .string (qt (tq 3)), .string (qt (tq 4)), .string (qt (tq 5))] 25)))
  have HTs := Lib.hid ((blk_new w3 #[.string (qt (tq 0)), .string (qt (tq 1)), .string (qt (tq 2)), .string (qt (tq 3)), .string (qt (tq 4)), .string (qt (tq 5))] 25).alloc (.cells #[.string (qt (tq 0)), .string (qt (tq 1)), .string (qt (tq 2)), .string (qt (tq 3)), .string (qt (tq 4)), .string (qt (tq 5))] 25))
  have HOs := Lib.hid (blk_new1 w3 (.cells #[.string (qt (tq 0)), .string (qt (tq 1)), .string (qt (tq 2)), .string (qt (tq 3)), .string (qt (tq 4)), .string (qt (tq 5))] 25) #[.string (qt (tq 0)), .string (qt (tq 1)), .string (qt (tq 2)), .string (qt (tq 3)), .string (qt (tq 4)), .string (qt (tq 5))] 25)
  have HPs := Lib.hid ((HP3.out.alloc (.cells #[.string (qt (tq 0)), .string (qt (tq 1)), .string (qt (tq 2)), .string (qt (tq 3)), .string (qt (tq 4)), .string (qt (tq 5))] 25)).alloc (.cells #[.string (qt (tq 0)), .string (qt (tq 1)), .string (qt (tq 2)), .string (qt (tq 3)), .string (qt (tq 4)), .string (qt (tq 5))] 25)); have HRs := Lib.hid ((HR3.out.alloc (.cells #[.string (qt (tq 0)), .string (qt (tq 1)), .string (qt (tq 2)), .string (qt (tq 3)), .string (qt (tq 4)), .string (qt (tq 5))] 25)).alloc (.cells #[.string (qt (tq 0)), .string (qt (tq 1)), .string (qt (tq 2)), .string (qt (tq 3)), .string (qt (tq 4)), .string (qt (tq 5))] 25))
  have hlr := HR3.out.lt
  generalize ((w3.alloc (.cells #[.string (qt (tq 0)), .string (qt (tq 1)), .string (qt (tq 2)), .string (qt (tq 3)), .string (qt (tq 4)), .string (qt (tq 5))] 25)).alloc (.cells #[.string (qt (tq 0)), .string (qt (tq 1)), .string (qt (tq 2)), .string (qt (tq 3)), .string (qt (tq 4)), .string (qt (tq 5))] 25)) = W4 at HBs HTs HOs HPs HRs ⊢
  obtain ⟨BO, hBO⟩ : ∃ BO, BO = w3.heap.size + 1 := ⟨_, rfl⟩
  obtain ⟨BT, hBT⟩ : ∃ BT, BT = w3.heap.size := ⟨_, rfl⟩
  rw [← hBO] at HOs ⊢
  rw [← hBT] at HTs ⊢
  rw [← obC_zero (fun i => qt (ar i)) (fun i => qt (tq i))] at HOs
  have HN1 : Hid (BO = BT + 1) := Lib.hid (by omega)
  have HN2 : Hid (w.heap.size + 1 < BT) := Lib.hid (by omega)
  clear hBO hBT hlr hbt

  go_loopg [9] N (fun d i wr => ∃ j : Nat, i = .int .i64 j ∧ j ≤ 3 ∧ d = N - j ∧ Blk wr w.heap.size #[.int .i64 x, .int .i64 y, .int .i64 z] 27 ∧ Blk wr (w.heap.size + 1) #[.string ⟨#[]⟩, .string ⟨#[]⟩, .string ⟨#[]⟩, .string ⟨#[]⟩, .string ⟨#[]⟩, .string ⟨#[]⟩] 25 ∧ Blk wr BT #[.string (qt (tq 0)), .string (qt (tq 1)), .string (qt (tq 2)), .string (qt (tq 3)), .string (qt (tq 4)), .string (qt (tq 5))] 25 ∧ Blk wr BO (obC (fun i => qt (ar i)) (fun i => qt (tq i)) j) 25 ∧ Below w.heap.size w wr)
  case atStart => exact ⟨0, rfl, by decide, rfl, HPs.out, HRs.out, HTs.out, HOs.out, HBs.out⟩
  case round =>
    obtain ⟨j, rfl, hj, rfl, hp, hr, ht, ho, hb⟩ := hrel
    have HT := Lib.hid ht; have HP := Lib.hid hp; have HR := Lib.hid hr; have HO := Lib.hid ho; have HB := Lib.hid hb
    clear ht hp hr ho hb
    by_cases hlt : j < 3
    · have hj' : j = 0 ∨ j = 1 ∨ j = 2 := by omega
      have p0 := HP.out.cell 0; have p1 := HP.out.cell 1; have p2 := HP.out.cell 2; have t0 := HT.out.cell 0; have t1 := HT.out.cell 1; have t2 := HT.out.cell 2; have t3 := HT.out.cell 3; have t4 := HT.out.cell 4; have t5 := HT.out.cell 5
      rcases hj' with rfl | rfl | rfl
      · go_wp2_with fail
        go_region_held3 (fun w' => w'.cell? ⟨w.heap.size, 0, none⟩ = some (.int .i64 x) ∧ w'.cell? ⟨w.heap.size, 1, none⟩ = some (.int .i64 y) ∧ w'.cell? ⟨w.heap.size, 2, none⟩ = some (.int .i64 z) ∧ w'.cell? ⟨BT, 0, none⟩ = some (.string (qt (tq 0))) ∧ w'.cell? ⟨BT, 1, none⟩ = some (.string (qt (tq 1))) ∧ w'.cell? ⟨BT, 2, none⟩ = some (.string (qt (tq 2))) ∧ w'.cell? ⟨BT, 3, none⟩ = some (.string (qt (tq 3))) ∧ w'.cell? ⟨BT, 4, none⟩ = some (.string (qt (tq 4))) ∧ w'.cell? ⟨BT, 5, none⟩ = some (.string (qt (tq 5))))
          (first | exact HST.out | go_keep | exact ⟨p0, p1, p2, t0, t1, t2, t3, t4, t5⟩ | exact ⟨ap0, ap1, ap2, at0, at1, at2, at3, at4, at5⟩ | exact ⟨bp0, bp1, bp2, bt0, bt1, bt2, bt3, bt4, bt5⟩ | exact ⟨cp0, cp1, cp2, ct0, ct1, ct2, ct3, ct4, ct5⟩ | exact ⟨dp0, dp1, dp2, dt0, dt1, dt2, dt3, dt4, dt5⟩)
          (first
            | (go_at_call 182; refine (CO.out 0 (by decide) _).mono ?_; rintro e wn ⟨rfl, hbn⟩; first | (have HBc := Lib.hid (HBb.out.trans (hbn.mono HBb.out.size)); have HTc := Lib.hid (Blk.later (HTb.out) hbn); have HPc := Lib.hid (Blk.later (HPb.out) hbn); have HRc := Lib.hid (Blk.later (HRb.out) hbn); have HOc := Lib.hid (Blk.later (HOb.out) hbn); have cp0 := HPc.out.cell 0; have cp1 := HPc.out.cell 1; have cp2 := HPc.out.cell 2; have ct0 := HTc.out.cell 0; have ct1 := HTc.out.cell 1; have ct2 := HTc.out.cell 2; have ct3 := HTc.out.cell 3; have ct4 := HTc.out.cell 4; have ct5 := HTc.out.cell 5; clear hbn) | (have HBb := Lib.hid (HBa.out.trans (hbn.mono HBa.out.size)); have HTb := Lib.hid (Blk.later (HTa.out) hbn); have HPb := Lib.hid (Blk.later (HPa.out) hbn); have HRb := Lib.hid (Blk.later (HRa.out) hbn); have HOb := Lib.hid (Blk.later (HOa.out) hbn); have bp0 := HPb.out.cell 0; have bp1 := HPb.out.cell 1; have bp2 := HPb.out.cell 2; have bt0 := HTb.out.cell 0; have bt1 := HTb.out.cell 1; have bt2 := HTb.out.cell 2; have bt3 := HTb.out.cell 3; have bt4 := HTb.out.cell 4; have bt5 := HTb.out.cell 5; clear hbn) | (have HBa := Lib.hid (HB.out.drew.trans (hbn.mono HB.out.drew.size)); have HTa := Lib.hid (Blk.later (HT.out.drew) hbn); have HPa := Lib.hid (Blk.later (HP.out.drew) hbn); have HRa := Lib.hid (Blk.later (HR.out.drew) hbn); have HOa := Lib.hid (Blk.later (HO.out.drew) hbn); have ap0 := HPa.out.cell 0; have ap1 := HPa.out.cell 1; have ap2 := HPa.out.cell 2; have at0 := HTa.out.cell 0; have at1 := HTa.out.cell 1; have at2 := HTa.out.cell 2; have at3 := HTa.out.cell 3; have at4 := HTa.out.cell 4; have at5 := HTa.out.cell 5; clear hbn))
            | (go_at_call 34; refine (CW.out 0 _).mono ?_; rintro e wm ⟨rfl, hbm⟩; first | (have HBc := Lib.hid (HBb.out.trans (hbm.mono HBb.out.size)); have HTc := Lib.hid (Blk.later (HTb.out) hbm); have HPc := Lib.hid (Blk.later (HPb.out) hbm); have HRc := Lib.hid (Blk.later (HRb.out) hbm); have HOc := Lib.hid (Blk.later (HOb.out) hbm); have cp0 := HPc.out.cell 0; have cp1 := HPc.out.cell 1; have cp2 := HPc.out.cell 2; have ct0 := HTc.out.cell 0; have ct1 := HTc.out.cell 1; have ct2 := HTc.out.cell 2; have ct3 := HTc.out.cell 3; have ct4 := HTc.out.cell 4; have ct5 := HTc.out.cell 5; clear hbm) | (have HBb := Lib.hid (HBa.out.trans (hbm.mono HBa.out.size)); have HTb := Lib.hid (Blk.later (HTa.out) hbm); have HPb := Lib.hid (Blk.later (HPa.out) hbm); have HRb := Lib.hid (Blk.later (HRa.out) hbm); have HOb := Lib.hid (Blk.later (HOa.out) hbm); have bp0 := HPb.out.cell 0; have bp1 := HPb.out.cell 1; have bp2 := HPb.out.cell 2; have bt0 := HTb.out.cell 0; have bt1 := HTb.out.cell 1; have bt2 := HTb.out.cell 2; have bt3 := HTb.out.cell 3; have bt4 := HTb.out.cell 4; have bt5 := HTb.out.cell 5; clear hbm) | (have HBa := Lib.hid (HB.out.drew.trans (hbm.mono HB.out.drew.size)); have HTa := Lib.hid (Blk.later (HT.out.drew) hbm); have HPa := Lib.hid (Blk.later (HP.out.drew) hbm); have HRa := Lib.hid (Blk.later (HR.out.drew) hbm); have HOa := Lib.hid (Blk.later (HO.out.drew) hbm); have ap0 := HPa.out.cell 0; have ap1 := HPa.out.cell 1; have ap2 := HPa.out.cell 2; have at0 := HTa.out.cell 0; have at1 := HTa.out.cell 1; have at2 := HTa.out.cell 2; have at3 := HTa.out.cell 3; have at4 := HTa.out.cell 4; have at5 := HTa.out.cell 5; clear hbm))
            | (go_at_call 176; refine (CM.out 0 (by decide) _).mono ?_; rintro e wl ⟨rfl, hbl⟩; first | (have HBc := Lib.hid (HBb.out.trans (hbl.mono HBb.out.size)); have HTc := Lib.hid (Blk.later (HTb.out) hbl); have HPc := Lib.hid (Blk.later (HPb.out) hbl); have HRc := Lib.hid (Blk.later (HRb.out) hbl); have HOc := Lib.hid (Blk.later (HOb.out) hbl); have cp0 := HPc.out.cell 0; have cp1 := HPc.out.cell 1; have cp2 := HPc.out.cell 2; have ct0 := HTc.out.cell 0; have ct1 := HTc.out.cell 1; have ct2 := HTc.out.cell 2; have ct3 := HTc.out.cell 3; have ct4 := HTc.out.cell 4; have ct5 := HTc.out.cell 5; clear hbl) | (have HBb := Lib.hid (HBa.out.trans (hbl.mono HBa.out.size)); have HTb := Lib.hid (Blk.later (HTa.out) hbl); have HPb := Lib.hid (Blk.later (HPa.out) hbl); have HRb := Lib.hid (Blk.later (HRa.out) hbl); have HOb := Lib.hid (Blk.later (HOa.out) hbl); have bp0 := HPb.out.cell 0; have bp1 := HPb.out.cell 1; have bp2 := HPb.out.cell 2; have bt0 := HTb.out.cell 0; have bt1 := HTb.out.cell 1; have bt2 := HTb.out.cell 2; have bt3 := HTb.out.cell 3; have bt4 := HTb.out.cell 4; have bt5 := HTb.out.cell 5; clear hbl) | (have HBa := Lib.hid (HB.out.drew.trans (hbl.mono HB.out.drew.size)); have HTa := Lib.hid (Blk.later (HT.out.drew) hbl); have HPa := Lib.hid (Blk.later (HP.out.drew) hbl); have HRa := Lib.hid (Blk.later (HR.out.drew) hbl); have HOa := Lib.hid (Blk.later (HO.out.drew) hbl); have ap0 := HPa.out.cell 0; have ap1 := HPa.out.cell 1; have ap2 := HPa.out.cell 2; have at0 := HTa.out.cell 0; have at1 := HTa.out.cell 1; have at2 := HTa.out.cell 2; have at3 := HTa.out.cell 3; have at4 := HTa.out.cell 4; have at5 := HTa.out.cell 5; clear hbl))
            | (go_at_call 39; refine (CL.out 0 (by decide) _).mono ?_; rintro e wi ⟨rfl, hbi⟩; have HBd := Lib.hid (HBc.out.trans (hbi.mono HBc.out.size)); have HTd := Lib.hid (Blk.later (HTc.out) hbi); have HPd := Lib.hid (Blk.later (HPc.out) hbi); have HRd := Lib.hid (Blk.later (HRc.out) hbi); have HOd := Lib.hid (Blk.later (HOc.out) hbi); have dp0 := HPd.out.cell 0; have dp1 := HPd.out.cell 1; have dp2 := HPd.out.cell 2; have dt0 := HTd.out.cell 0; have dt1 := HTd.out.cell 1; have dt2 := HTd.out.cell 2; have dt3 := HTd.out.cell 3; have dt4 := HTd.out.cell 4; have dt5 := HTd.out.cell 5; clear hbi; have oK := Blk.cg HOd.out (i := 0) (by simp [obC]); have fK := HOd.out.free 0; have HST : Hid ((wi.setCell ⟨BO, 0, none⟩ (.string (qt (ar 0)))).cell? ⟨w.heap.size, 0, none⟩ = some (.int .i64 x) ∧ (wi.setCell ⟨BO, 0, none⟩ (.string (qt (ar 0)))).cell? ⟨w.heap.size, 1, none⟩ = some (.int .i64 y) ∧ (wi.setCell ⟨BO, 0, none⟩ (.string (qt (ar 0)))).cell? ⟨w.heap.size, 2, none⟩ = some (.int .i64 z) ∧ (wi.setCell ⟨BO, 0, none⟩ (.string (qt (ar 0)))).cell? ⟨BT, 0, none⟩ = some (.string (qt (tq 0))) ∧ (wi.setCell ⟨BO, 0, none⟩ (.string (qt (ar 0)))).cell? ⟨BT, 1, none⟩ = some (.string (qt (tq 1))) ∧ (wi.setCell ⟨BO, 0, none⟩ (.string (qt (ar 0)))).cell? ⟨BT, 2, none⟩ = some (.string (qt (tq 2))) ∧ (wi.setCell ⟨BO, 0, none⟩ (.string (qt (ar 0)))).cell? ⟨BT, 3, none⟩ = some (.string (qt (tq 3))) ∧ (wi.setCell ⟨BO, 0, none⟩ (.string (qt (ar 0)))).cell? ⟨BT, 4, none⟩ = some (.string (qt (tq 4))) ∧ (wi.setCell ⟨BO, 0, none⟩ (.string (qt (ar 0)))).cell? ⟨BT, 5, none⟩ = some (.string (qt (tq 5)))) := Lib.hid (by have hn1 := HN1.out; have hn2 := HN2.out; have hps := Blk.other (a := ⟨BO, 0, none⟩) HPd.out (by show BO ≠ _; omega) (.string (qt (ar 0))); have hts := Blk.other (a := ⟨BO, 0, none⟩) HTd.out (by show BO ≠ _; omega) (.string (qt (ar 0))); exact ⟨hps.cell 0, hps.cell 1, hps.cell 2, hts.cell 0, hts.cell 1, hts.cell 2, hts.cell 3, hts.cell 4, hts.cell 5⟩)))
        all_goals
          go_wp2_with fail
          go_roundg (N - (0 + 1))
          case measure => have := HN.out; omega
          case rel =>
            have hn1 := HN1.out; have hn2 := HN2.out
            refine ⟨1, rfl, by decide, rfl, HPd.out.other (by show BO ≠ _; omega) _, HRd.out.other (by show BO ≠ _; omega) _, HTd.out.other (by show BO ≠ _; omega) _, ?_, HBd.out.setCell (p := ⟨BO, 0, none⟩) (by show _ ≤ BO; omega) _⟩
            rw [← GS.out 0 (by decide)]
            exact HOd.out.set 0 _
      · go_wp2_with fail
        go_region_held3 (fun w' => w'.cell? ⟨w.heap.size, 0, none⟩ = some (.int .i64 x) ∧ w'.cell? ⟨w.heap.size, 1, none⟩ = some (.int .i64 y) ∧ w'.cell? ⟨w.heap.size, 2, none⟩ = some (.int .i64 z) ∧ w'.cell? ⟨BT, 0, none⟩ = some (.string (qt (tq 0))) ∧ w'.cell? ⟨BT, 1, none⟩ = some (.string (qt (tq 1))) ∧ w'.cell? ⟨BT, 2, none⟩ = some (.string (qt (tq 2))) ∧ w'.cell? ⟨BT, 3, none⟩ = some (.string (qt (tq 3))) ∧ w'.cell? ⟨BT, 4, none⟩ = some (.string (qt (tq 4))) ∧ w'.cell? ⟨BT, 5, none⟩ = some (.string (qt (tq 5))))
          (first | exact HST.out | go_keep | exact ⟨p0, p1, p2, t0, t1, t2, t3, t4, t5⟩ | exact ⟨ap0, ap1, ap2, at0, at1, at2, at3, at4, at5⟩ | exact ⟨bp0, bp1, bp2, bt0, bt1, bt2, bt3, bt4, bt5⟩ | exact ⟨cp0, cp1, cp2, ct0, ct1, ct2, ct3, ct4, ct5⟩ | exact ⟨dp0, dp1, dp2, dt0, dt1, dt2, dt3, dt4, dt5⟩)
          (first
            | (go_at_call 182; refine (CO.out 1 (by decide) _).mono ?_; rintro e wn ⟨rfl, hbn⟩; first | (have HBc := Lib.hid (HBb.out.trans (hbn.mono HBb.out.size)); have HTc := Lib.hid (Blk.later (HTb.out) hbn); have HPc := Lib.hid (Blk.later (HPb.out) hbn); have HRc := Lib.hid (Blk.later (HRb.out) hbn); have HOc := Lib.hid (Blk.later (HOb.out) hbn); have cp0 := HPc.out.cell 0; have cp1 := HPc.out.cell 1; have cp2 := HPc.out.cell 2; have ct0 := HTc.out.cell 0; have ct1 := HTc.out.cell 1; have ct2 := HTc.out.cell 2; have ct3 := HTc.out.cell 3; have ct4 := HTc.out.cell 4; have ct5 := HTc.out.cell 5; clear hbn) | (have HBb := Lib.hid (HBa.out.trans (hbn.mono HBa.out.size)); have HTb := Lib.hid (Blk.later (HTa.out) hbn); have HPb := Lib.hid (Blk.later (HPa.out) hbn); have HRb := Lib.hid (Blk.later (HRa.out) hbn); have HOb := Lib.hid (Blk.later (HOa.out) hbn); have bp0 := HPb.out.cell 0; have bp1 := HPb.out.cell 1; have bp2 := HPb.out.cell 2; have bt0 := HTb.out.cell 0; have bt1 := HTb.out.cell 1; have bt2 := HTb.out.cell 2; have bt3 := HTb.out.cell 3; have bt4 := HTb.out.cell 4; have bt5 := HTb.out.cell 5; clear hbn) | (have HBa := Lib.hid (HB.out.drew.trans (hbn.mono HB.out.drew.size)); have HTa := Lib.hid (Blk.later (HT.out.drew) hbn); have HPa := Lib.hid (Blk.later (HP.out.drew) hbn); have HRa := Lib.hid (Blk.later (HR.out.drew) hbn); have HOa := Lib.hid (Blk.later (HO.out.drew) hbn); have ap0 := HPa.out.cell 0; have ap1 := HPa.out.cell 1; have ap2 := HPa.out.cell 2; have at0 := HTa.out.cell 0; have at1 := HTa.out.cell 1; have at2 := HTa.out.cell 2; have at3 := HTa.out.cell 3; have at4 := HTa.out.cell 4; have at5 := HTa.out.cell 5; clear hbn))
            | (go_at_call 34; refine (CW.out 1 _).mono ?_; rintro e wm ⟨rfl, hbm⟩; first | (have HBc := Lib.hid (HBb.out.trans (hbm.mono HBb.out.size)); have HTc := Lib.hid (Blk.later (HTb.out) hbm); have HPc := Lib.hid (Blk.later (HPb.out) hbm); have HRc := Lib.hid (Blk.later (HRb.out) hbm); have HOc := Lib.hid (Blk.later (HOb.out) hbm); have cp0 := HPc.out.cell 0; have cp1 := HPc.out.cell 1; have cp2 := HPc.out.cell 2; have ct0 := HTc.out.cell 0; have ct1 := HTc.out.cell 1; have ct2 := HTc.out.cell 2; have ct3 := HTc.out.cell 3; have ct4 := HTc.out.cell 4; have ct5 := HTc.out.cell 5; clear hbm) | (have HBb := Lib.hid (HBa.out.trans (hbm.mono HBa.out.size)); have HTb := Lib.hid (Blk.later (HTa.out) hbm); have HPb := Lib.hid (Blk.later (HPa.out) hbm); have HRb := Lib.hid (Blk.later (HRa.out) hbm); have HOb := Lib.hid (Blk.later (HOa.out) hbm); have bp0 := HPb.out.cell 0; have bp1 := HPb.out.cell 1; have bp2 := HPb.out.cell 2; have bt0 := HTb.out.cell 0; have bt1 := HTb.out.cell 1; have bt2 := HTb.out.cell 2; have bt3 := HTb.out.cell 3; have bt4 := HTb.out.cell 4; have bt5 := HTb.out.cell 5; clear hbm) | (have HBa := Lib.hid (HB.out.drew.trans (hbm.mono HB.out.drew.size)); have HTa := Lib.hid (Blk.later (HT.out.drew) hbm); have HPa := Lib.hid (Blk.later (HP.out.drew) hbm); have HRa := Lib.hid (Blk.later (HR.out.drew) hbm); have HOa := Lib.hid (Blk.later (HO.out.drew) hbm); have ap0 := HPa.out.cell 0; have ap1 := HPa.out.cell 1; have ap2 := HPa.out.cell 2; have at0 := HTa.out.cell 0; have at1 := HTa.out.cell 1; have at2 := HTa.out.cell 2; have at3 := HTa.out.cell 3; have at4 := HTa.out.cell 4; have at5 := HTa.out.cell 5; clear hbm))
            | (go_at_call 176; refine (CM.out 1 (by decide) _).mono ?_; rintro e wl ⟨rfl, hbl⟩; first | (have HBc := Lib.hid (HBb.out.trans (hbl.mono HBb.out.size)); have HTc := Lib.hid (Blk.later (HTb.out) hbl); have HPc := Lib.hid (Blk.later (HPb.out) hbl); have HRc := Lib.hid (Blk.later (HRb.out) hbl); have HOc := Lib.hid (Blk.later (HOb.out) hbl); have cp0 := HPc.out.cell 0; have cp1 := HPc.out.cell 1; have cp2 := HPc.out.cell 2; have ct0 := HTc.out.cell 0; have ct1 := HTc.out.cell 1; have ct2 := HTc.out.cell 2; have ct3 := HTc.out.cell 3; have ct4 := HTc.out.cell 4; have ct5 := HTc.out.cell 5; clear hbl) | (have HBb := Lib.hid (HBa.out.trans (hbl.mono HBa.out.size)); have HTb := Lib.hid (Blk.later (HTa.out) hbl); have HPb := Lib.hid (Blk.later (HPa.out) hbl); have HRb := Lib.hid (Blk.later (HRa.out) hbl); have HOb := Lib.hid (Blk.later (HOa.out) hbl); have bp0 := HPb.out.cell 0; have bp1 := HPb.out.cell 1; have bp2 := HPb.out.cell 2; have bt0 := HTb.out.cell 0; have bt1 := HTb.out.cell 1; have bt2 := HTb.out.cell 2; have bt3 := HTb.out.cell 3; have bt4 := HTb.out.cell 4; have bt5 := HTb.out.cell 5; clear hbl) | (have HBa := Lib.hid (HB.out.drew.trans (hbl.mono HB.out.drew.size)); have HTa := Lib.hid (Blk.later (HT.out.drew) hbl); have HPa := Lib.hid (Blk.later (HP.out.drew) hbl); have HRa := Lib.hid (Blk.later (HR.out.drew) hbl); have HOa := Lib.hid (Blk.later (HO.out.drew) hbl); have ap0 := HPa.out.cell 0; have ap1 := HPa.out.cell 1; have ap2 := HPa.out.cell 2; have at0 := HTa.out.cell 0; have at1 := HTa.out.cell 1; have at2 := HTa.out.cell 2; have at3 := HTa.out.cell 3; have at4 := HTa.out.cell 4; have at5 := HTa.out.cell 5; clear hbl))
            | (go_at_call 39; refine (CL.out 1 (by decide) _).mono ?_; rintro e wi ⟨rfl, hbi⟩; have HBd := Lib.hid (HBc.out.trans (hbi.mono HBc.out.size)); have HTd := Lib.hid (Blk.later (HTc.out) hbi); have HPd := Lib.hid (Blk.later (HPc.out) hbi); have HRd := Lib.hid (Blk.later (HRc.out) hbi); have HOd := Lib.hid (Blk.later (HOc.out) hbi); have dp0 := HPd.out.cell 0; have dp1 := HPd.out.cell 1; have dp2 := HPd.out.cell 2; have dt0 := HTd.out.cell 0; have dt1 := HTd.out.cell 1; have dt2 := HTd.out.cell 2; have dt3 := HTd.out.cell 3; have dt4 := HTd.out.cell 4; have dt5 := HTd.out.cell 5; clear hbi; have oK := Blk.cg HOd.out (i := 1) (by simp [obC]); have fK := HOd.out.free 1; have HST : Hid ((wi.setCell ⟨BO, 1, none⟩ (.string (qt (ar 1)))).cell? ⟨w.heap.size, 0, none⟩ = some (.int .i64 x) ∧ (wi.setCell ⟨BO, 1, none⟩ (.string (qt (ar 1)))).cell? ⟨w.heap.size, 1, none⟩ = some (.int .i64 y) ∧ (wi.setCell ⟨BO, 1, none⟩ (.string (qt (ar 1)))).cell? ⟨w.heap.size, 2, none⟩ = some (.int .i64 z) ∧ (wi.setCell ⟨BO, 1, none⟩ (.string (qt (ar 1)))).cell? ⟨BT, 0, none⟩ = some (.string (qt (tq 0))) ∧ (wi.setCell ⟨BO, 1, none⟩ (.string (qt (ar 1)))).cell? ⟨BT, 1, none⟩ = some (.string (qt (tq 1))) ∧ (wi.setCell ⟨BO, 1, none⟩ (.string (qt (ar 1)))).cell? ⟨BT, 2, none⟩ = some (.string (qt (tq 2))) ∧ (wi.setCell ⟨BO, 1, none⟩ (.string (qt (ar 1)))).cell? ⟨BT, 3, none⟩ = some (.string (qt (tq 3))) ∧ (wi.setCell ⟨BO, 1, none⟩ (.string (qt (ar 1)))).cell? ⟨BT, 4, none⟩ = some (.string (qt (tq 4))) ∧ (wi.setCell ⟨BO, 1, none⟩ (.string (qt (ar 1)))).cell? ⟨BT, 5, none⟩ = some (.string (qt (tq 5)))) := Lib.hid (by have hn1 := HN1.out; have hn2 := HN2.out; have hps := Blk.other (a := ⟨BO, 1, none⟩) HPd.out (by show BO ≠ _; omega) (.string (qt (ar 1))); have hts := Blk.other (a := ⟨BO, 1, none⟩) HTd.out (by show BO ≠ _; omega) (.string (qt (ar 1))); exact ⟨hps.cell 0, hps.cell 1, hps.cell 2, hts.cell 0, hts.cell 1, hts.cell 2, hts.cell 3, hts.cell 4, hts.cell 5⟩)))
        all_goals
          go_wp2_with fail
          go_roundg (N - (1 + 1))
          case measure => have := HN.out; omega
          case rel =>
            have hn1 := HN1.out; have hn2 := HN2.out
            refine ⟨2, rfl, by decide, rfl, HPd.out.other (by show BO ≠ _; omega) _, HRd.out.other (by show BO ≠ _; omega) _, HTd.out.other (by show BO ≠ _; omega) _, ?_, HBd.out.setCell (p := ⟨BO, 1, none⟩) (by show _ ≤ BO; omega) _⟩
            rw [← GS.out 1 (by decide)]
            exact HOd.out.set 1 _
      · go_wp2_with fail
        go_region_held3 (fun w' => w'.cell? ⟨w.heap.size, 0, none⟩ = some (.int .i64 x) ∧ w'.cell? ⟨w.heap.size, 1, none⟩ = some (.int .i64 y) ∧ w'.cell? ⟨w.heap.size, 2, none⟩ = some (.int .i64 z) ∧ w'.cell? ⟨BT, 0, none⟩ = some (.string (qt (tq 0))) ∧ w'.cell? ⟨BT, 1, none⟩ = some (.string (qt (tq 1))) ∧ w'.cell? ⟨BT, 2, none⟩ = some (.string (qt (tq 2))) ∧ w'.cell? ⟨BT, 3, none⟩ = some (.string (qt (tq 3))) ∧ w'.cell? ⟨BT, 4, none⟩ = some (.string (qt (tq 4))) ∧ w'.cell? ⟨BT, 5, none⟩ = some (.string (qt (tq 5))))
          (first | exact HST.out | go_keep | exact ⟨p0, p1, p2, t0, t1, t2, t3, t4, t5⟩ | exact ⟨ap0, ap1, ap2, at0, at1, at2, at3, at4, at5⟩ | exact ⟨bp0, bp1, bp2, bt0, bt1, bt2, bt3, bt4, bt5⟩ | exact ⟨cp0, cp1, cp2, ct0, ct1, ct2, ct3, ct4, ct5⟩ | exact ⟨dp0, dp1, dp2, dt0, dt1, dt2, dt3, dt4, dt5⟩)
          (first
            | (go_at_call 182; refine (CO.out 2 (by decide) _).mono ?_; rintro e wn ⟨rfl, hbn⟩; first | (have HBc := Lib.hid (HBb.out.trans (hbn.mono HBb.out.size)); have HTc := Lib.hid (Blk.later (HTb.out) hbn); have HPc := Lib.hid (Blk.later (HPb.out) hbn); have HRc := Lib.hid (Blk.later (HRb.out) hbn); have HOc := Lib.hid (Blk.later (HOb.out) hbn); have cp0 := HPc.out.cell 0; have cp1 := HPc.out.cell 1; have cp2 := HPc.out.cell 2; have ct0 := HTc.out.cell 0; have ct1 := HTc.out.cell 1; have ct2 := HTc.out.cell 2; have ct3 := HTc.out.cell 3; have ct4 := HTc.out.cell 4; have ct5 := HTc.out.cell 5; clear hbn) | (have HBb := Lib.hid (HBa.out.trans (hbn.mono HBa.out.size)); have HTb := Lib.hid (Blk.later (HTa.out) hbn); have HPb := Lib.hid (Blk.later (HPa.out) hbn); have HRb := Lib.hid (Blk.later (HRa.out) hbn); have HOb := Lib.hid (Blk.later (HOa.out) hbn); have bp0 := HPb.out.cell 0; have bp1 := HPb.out.cell 1; have bp2 := HPb.out.cell 2; have bt0 := HTb.out.cell 0; have bt1 := HTb.out.cell 1; have bt2 := HTb.out.cell 2; have bt3 := HTb.out.cell 3; have bt4 := HTb.out.cell 4; have bt5 := HTb.out.cell 5; clear hbn) | (have HBa := Lib.hid (HB.out.drew.trans (hbn.mono HB.out.drew.size)); have HTa := Lib.hid (Blk.later (HT.out.drew) hbn); have HPa := Lib.hid (Blk.later (HP.out.drew) hbn); have HRa := Lib.hid (Blk.later (HR.out.drew) hbn); have HOa := Lib.hid (Blk.later (HO.out.drew) hbn); have ap0 := HPa.out.cell 0; have ap1 := HPa.out.cell 1; have ap2 := HPa.out.cell 2; have at0 := HTa.out.cell 0; have at1 := HTa.out.cell 1; have at2 := HTa.out.cell 2; have at3 := HTa.out.cell 3; have at4 := HTa.out.cell 4; have at5 := HTa.out.cell 5; clear hbn))
            | (go_at_call 34; refine (CW.out 2 _).mono ?_; rintro e wm ⟨rfl, hbm⟩; first | (have HBc := Lib.hid (HBb.out.trans (hbm.mono HBb.out.size)); have HTc := Lib.hid (Blk.later (HTb.out) hbm); have HPc := Lib.hid (Blk.later (HPb.out) hbm); have HRc := Lib.hid (Blk.later (HRb.out) hbm); have HOc := Lib.hid (Blk.later (HOb.out) hbm); have cp0 := HPc.out.cell 0; have cp1 := HPc.out.cell 1; have cp2 := HPc.out.cell 2; have ct0 := HTc.out.cell 0; have ct1 := HTc.out.cell 1; have ct2 := HTc.out.cell 2; have ct3 := HTc.out.cell 3; have ct4 := HTc.out.cell 4; have ct5 := HTc.out.cell 5; clear hbm) | (have HBb := Lib.hid (HBa.out.trans (hbm.mono HBa.out.size)); have HTb := Lib.hid (Blk.later (HTa.out) hbm); have HPb := Lib.hid (Blk.later (HPa.out) hbm); have HRb := Lib.hid (Blk.later (HRa.out) hbm); have HOb := Lib.hid (Blk.later (HOa.out) hbm); have bp0 := HPb.out.cell 0; have bp1 := HPb.out.cell 1; have bp2 := HPb.out.cell 2; have bt0 := HTb.out.cell 0; have bt1 := HTb.out.cell 1; have bt2 := HTb.out.cell 2; have bt3 := HTb.out.cell 3; have bt4 := HTb.out.cell 4; have bt5 := HTb.out.cell 5; clear hbm) | (have HBa := Lib.hid (HB.out.drew.trans (hbm.mono HB.out.drew.size)); have HTa := Lib.hid (Blk.later (HT.out.drew) hbm); have HPa := Lib.hid (Blk.later (HP.out.drew) hbm); have HRa := Lib.hid (Blk.later (HR.out.drew) hbm); have HOa := Lib.hid (Blk.later (HO.out.drew) hbm); have ap0 := HPa.out.cell 0; have ap1 := HPa.out.cell 1; have ap2 := HPa.out.cell 2; have at0 := HTa.out.cell 0; have at1 := HTa.out.cell 1; have at2 := HTa.out.cell 2; have at3 := HTa.out.cell 3; have at4 := HTa.out.cell 4; have at5 := HTa.out.cell 5; clear hbm))
            | (go_at_call 176; refine (CM.out 2 (by decide) _).mono ?_; rintro e wl ⟨rfl, hbl⟩; first | (have HBc := Lib.hid (HBb.out.trans (hbl.mono HBb.out.size)); have HTc := Lib.hid (Blk.later (HTb.out) hbl); have HPc := Lib.hid (Blk.later (HPb.out) hbl); have HRc := Lib.hid (Blk.later (HRb.out) hbl); have HOc := Lib.hid (Blk.later (HOb.out) hbl); have cp0 := HPc.out.cell 0; have cp1 := HPc.out.cell 1; have cp2 := HPc.out.cell 2; have ct0 := HTc.out.cell 0; have ct1 := HTc.out.cell 1; have ct2 := HTc.out.cell 2; have ct3 := HTc.out.cell 3; have ct4 := HTc.out.cell 4; have ct5 := HTc.out.cell 5; clear hbl) | (have HBb := Lib.hid (HBa.out.trans (hbl.mono HBa.out.size)); have HTb := Lib.hid (Blk.later (HTa.out) hbl); have HPb := Lib.hid (Blk.later (HPa.out) hbl); have HRb := Lib.hid (Blk.later (HRa.out) hbl); have HOb := Lib.hid (Blk.later (HOa.out) hbl); have bp0 := HPb.out.cell 0; have bp1 := HPb.out.cell 1; have bp2 := HPb.out.cell 2; have bt0 := HTb.out.cell 0; have bt1 := HTb.out.cell 1; have bt2 := HTb.out.cell 2; have bt3 := HTb.out.cell 3; have bt4 := HTb.out.cell 4; have bt5 := HTb.out.cell 5; clear hbl) | (have HBa := Lib.hid (HB.out.drew.trans (hbl.mono HB.out.drew.size)); have HTa := Lib.hid (Blk.later (HT.out.drew) hbl); have HPa := Lib.hid (Blk.later (HP.out.drew) hbl); have HRa := Lib.hid (Blk.later (HR.out.drew) hbl); have HOa := Lib.hid (Blk.later (HO.out.drew) hbl); have ap0 := HPa.out.cell 0; have ap1 := HPa.out.cell 1; have ap2 := HPa.out.cell 2; have at0 := HTa.out.cell 0; have at1 := HTa.out.cell 1; have at2 := HTa.out.cell 2; have at3 := HTa.out.cell 3; have at4 := HTa.out.cell 4; have at5 := HTa.out.cell 5; clear hbl))
            | (go_at_call 39; refine (CL.out 2 (by decide) _).mono ?_; rintro e wi ⟨rfl, hbi⟩; have HBd := Lib.hid (HBc.out.trans (hbi.mono HBc.out.size)); have HTd := Lib.hid (Blk.later (HTc.out) hbi); have HPd := Lib.hid (Blk.later (HPc.out) hbi); have HRd := Lib.hid (Blk.later (HRc.out) hbi); have HOd := Lib.hid (Blk.later (HOc.out) hbi); have dp0 := HPd.out.cell 0; have dp1 := HPd.out.cell 1; have dp2 := HPd.out.cell 2; have dt0 := HTd.out.cell 0; have dt1 := HTd.out.cell 1; have dt2 := HTd.out.cell 2; have dt3 := HTd.out.cell 3; have dt4 := HTd.out.cell 4; have dt5 := HTd.out.cell 5; clear hbi; have oK := Blk.cg HOd.out (i := 2) (by simp [obC]); have fK := HOd.out.free 2; have HST : Hid ((wi.setCell ⟨BO, 2, none⟩ (.string (qt (ar 2)))).cell? ⟨w.heap.size, 0, none⟩ = some (.int .i64 x) ∧ (wi.setCell ⟨BO, 2, none⟩ (.string (qt (ar 2)))).cell? ⟨w.heap.size, 1, none⟩ = some (.int .i64 y) ∧ (wi.setCell ⟨BO, 2, none⟩ (.string (qt (ar 2)))).cell? ⟨w.heap.size, 2, none⟩ = some (.int .i64 z) ∧ (wi.setCell ⟨BO, 2, none⟩ (.string (qt (ar 2)))).cell? ⟨BT, 0, none⟩ = some (.string (qt (tq 0))) ∧ (wi.setCell ⟨BO, 2, none⟩ (.string (qt (ar 2)))).cell? ⟨BT, 1, none⟩ = some (.string (qt (tq 1))) ∧ (wi.setCell ⟨BO, 2, none⟩ (.string (qt (ar 2)))).cell? ⟨BT, 2, none⟩ = some (.string (qt (tq 2))) ∧ (wi.setCell ⟨BO, 2, none⟩ (.string (qt (ar 2)))).cell? ⟨BT, 3, none⟩ = some (.string (qt (tq 3))) ∧ (wi.setCell ⟨BO, 2, none⟩ (.string (qt (ar 2)))).cell? ⟨BT, 4, none⟩ = some (.string (qt (tq 4))) ∧ (wi.setCell ⟨BO, 2, none⟩ (.string (qt (ar 2)))).cell? ⟨BT, 5, none⟩ = some (.string (qt (tq 5)))) := Lib.hid (by have hn1 := HN1.out; have hn2 := HN2.out; have hps := Blk.other (a := ⟨BO, 2, none⟩) HPd.out (by show BO ≠ _; omega) (.string (qt (ar 2))); have hts := Blk.other (a := ⟨BO, 2, none⟩) HTd.out (by show BO ≠ _; omega) (.string (qt (ar 2))); exact ⟨hps.cell 0, hps.cell 1, hps.cell 2, hts.cell 0, hts.cell 1, hts.cell 2, hts.cell 3, hts.cell 4, hts.cell 5⟩)))
        all_goals
          go_wp2_with fail
          go_roundg (N - (2 + 1))
          case measure => have := HN.out; omega
          case rel =>
            have hn1 := HN1.out; have hn2 := HN2.out
            refine ⟨3, rfl, by decide, rfl, HPd.out.other (by show BO ≠ _; omega) _, HRd.out.other (by show BO ≠ _; omega) _, HTd.out.other (by show BO ≠ _; omega) _, ?_, HBd.out.setCell (p := ⟨BO, 2, none⟩) (by show _ ≤ BO; omega) _⟩
            rw [← GS.out 2 (by decide)]
            exact HOd.out.set 2 _
    · have hj3 : j = 3 := by omega
      subst hj3
      rw [obC_three] at HO
      have o0 := HO.out.cell 0; have o1 := HO.out.cell 1; have o2 := HO.out.cell 2; have o3 := HO.out.cell 3; have o4 := HO.out.cell 4; have o5 := HO.out.cell 5
      have r0 := HR.out.cell 0; have r1 := HR.out.cell 1; have r2 := HR.out.cell 2; have r3 := HR.out.cell 3; have r4 := HR.out.cell 4; have r5 := HR.out.cell 5
      have f0 := HR.out.free 0; have f1 := HR.out.free 1; have f2 := HR.out.free 2; have f3 := HR.out.free 3; have f4 := HR.out.free 4; have f5 := HR.out.free 5
      go_wp2_with fail
      rw [HAH.out.1, HAH.out.2.1, HAH.out.2.2]
      have hr3 := (Blk.set (Blk.set (Blk.set (Blk.set (Blk.set (Blk.set HR.out 0 (.string (qt (ar 0)))) 1 (.string (qt (ar 1)))) 2 (.string (qt (ar 2)))) 3 (.string (qt (tq 3)))) 4 (.string (qt (tq 4)))) 5 (.string (qt (tq 5))))
      have hb3 := (Below.setCell (p := ⟨w.heap.size + 1, 5, none⟩) (Below.setCell (p := ⟨w.heap.size + 1, 4, none⟩) (Below.setCell (p := ⟨w.heap.size + 1, 3, none⟩) (Below.setCell (p := ⟨w.heap.size + 1, 2, none⟩) (Below.setCell (p := ⟨w.heap.size + 1, 1, none⟩) (Below.setCell (p := ⟨w.heap.size + 1, 0, none⟩) HB.out (by show _ ≤ w.heap.size + 1; omega) (.string (qt (ar 0)))) (by show _ ≤ w.heap.size + 1; omega) (.string (qt (ar 1)))) (by show _ ≤ w.heap.size + 1; omega) (.string (qt (ar 2)))) (by show _ ≤ w.heap.size + 1; omega) (.string (qt (tq 3)))) (by show _ ≤ w.heap.size + 1; omega) (.string (qt (tq 4)))) (by show _ ≤ w.heap.size + 1; omega) (.string (qt (tq 5))))
      generalize ((((((wr.setCell ⟨w.heap.size + 1, 0, none⟩ (.string (qt (ar 0)))).setCell ⟨w.heap.size + 1, 1, none⟩ (.string (qt (ar 1)))).setCell ⟨w.heap.size + 1, 2, none⟩ (.string (qt (ar 2)))).setCell ⟨w.heap.size + 1, 3, none⟩ (.string (qt (tq 3)))).setCell ⟨w.heap.size + 1, 4, none⟩ (.string (qt (tq 4)))).setCell ⟨w.heap.size + 1, 5, none⟩ (.string (qt (tq 5)))) = W3 at hr3 hb3 ⊢
      have s0 := hr3.cell 0; have s1 := hr3.cell 1; have s2 := hr3.cell 2; have s3 := hr3.cell 3; have s4 := hr3.cell 4; have s5 := hr3.cell 5
      exact bodyPost_ret (by simp [results, Tryz.results108, go_sem, s0, s1, s2, s3, s4, s5]; try rfl) rfl ⟨rfl, hb3⟩

set_option maxHeartbeats 4000000 in
set_option maxRecDepth 100000 in
/-- The turn about an axis through a right point, by the reference. -/
theorem refAround2_any (x y z : Int) (q : Rat) (w : World) (hq : Dig 24 q) (hp : okP x y z = true) :
    Calls Tryz.prog 108 #[.int .i64 2, .agg #[.int .i64 x, .int .i64 y, .int .i64 z], .string (qt q)] w fun e w' => e = .returned (.agg #[.string (qt (around 2 x y z q 0)), .string (qt (around 2 x y z q 1)), .string (qt (around 2 x y z q 2)), .string (qt (around 2 x y z q 3)), .string (qt (around 2 x y z q 4)), .string (qt (around 2 x y z q 5))]) ∧ Below w.heap.size w w' := by
  have hpp := okP_parts hp
  obtain ⟨tq, htq⟩ : ∃ tq, tq = tqf 2 q := ⟨_, rfl⟩
  obtain ⟨ar, har⟩ : ∃ ar, ar = around 2 x y z q := ⟨_, rfl⟩
  have hq6 : ∀ i, i < 6 → Dig 24 (tq i) := fun i _ => by rw [htq]; exact tqf_dig hq i
  have hal : ∀ i, i < 3 → (crd x y z i : Rat) - gone tq x y z i = ar i := fun i hi => by rw [har, around_low 2 x y z q hi, htq]; unfold gone; grind
  have hah : ar 3 = tq 3 ∧ ar 4 = tq 4 ∧ ar 5 = tq 5 := by rw [har, htq]; exact around_high 2 x y z q
  have ZE := Lib.hid refZero_any
  have CO : Hid (∀ i, i < 3 → ∀ w, Calls Tryz.prog 182 #[.int .i64 (i : Nat), .agg #[.int .i64 x, .int .i64 y, .int .i64 z]] w fun E w' => E = .returned (.int .i64 (crd x y z i)) ∧ Below w.heap.size w w') := Lib.hid (fun i hi w => coordinate_any i hi x y z w)
  have CW : Hid (∀ i, ∀ w, Calls Tryz.prog 34 #[.int .i64 (crd x y z i)] w fun e w' => e = .returned (.string (qt (crd x y z i : Rat))) ∧ Below w.heap.size w w') := Lib.hid (fun i w => by
    have := crd_in hpp i
    exact refQWhole_any _ w (by omega) (by omega))
  have CM : Hid (∀ i, i < 3 → ∀ w, Calls Tryz.prog 176 #[.agg #[.string (qt (tq 0)), .string (qt (tq 1)), .string (qt (tq 2)), .string (qt (tq 3)), .string (qt (tq 4)), .string (qt (tq 5))], .agg #[.int .i64 x, .int .i64 y, .int .i64 z], .int .i64 (i : Nat)] w fun E w' => E = .returned (.string (qt (gone tq x y z i))) ∧ Below w.heap.size w w') := Lib.hid (fun i hi w => refMoved_any tq x y z i hi w hp hq6)
  have CL : Hid (∀ i, i < 3 → ∀ w, Calls Tryz.prog 39 #[.string (qt (crd x y z i : Rat)), .string (qt (gone tq x y z i))] w fun e w' => e = .returned (.string (qt (ar i))) ∧ Below w.heap.size w w') := Lib.hid (fun i hi w => by
    rw [← hal i hi]
    exact refQLess_any _ _ w ((crd_dig hp i).mono (by decide)) ((gone_dig hp hq6 i).mono (by decide)))
  have HTS : Hid ((#[.string ⟨#[48]⟩, .string ⟨#[48]⟩, .string ⟨#[48]⟩, .string ⟨#[48]⟩, .string ⟨#[48]⟩, .string (qt q)] : Array Value) = #[.string (qt (tq 0)), .string (qt (tq 1)), .string (qt (tq 2)), .string (qt (tq 3)), .string (qt (tq 4)), .string (qt (tq 5))]) := Lib.hid (by rw [htq]; exact tqf_set2 q)
  have GS : Hid (∀ i, i < 3 → (obC (fun i => qt (ar i)) (fun i => qt (tq i)) i).setIfInBounds i (.string (qt (ar i))) = obC (fun i => qt (ar i)) (fun i => qt (tq i)) (i + 1)) := Lib.hid fun i hi => obC_set _ _ hi
  have HAH := Lib.hid hah
  rw [← har]
  clear hq hp hpp hq6 hal hah htq har
  obtain ⟨N, hN⟩ : ∃ N : Nat, N = 3 := ⟨_, rfl⟩
  have HN := Lib.hid hN
  clear hN
  have HB0 := Lib.hid (below_two w (.cells #[.int .i64 x, .int .i64 y, .int .i64 z] 27) (.cells #[.string ⟨#[]⟩, .string ⟨#[]⟩, .string ⟨#[]⟩, .string ⟨#[]⟩, .string ⟨#[]⟩, .string ⟨#[]⟩] 25))
  have HR0 := Lib.hid (blk_new1 w (.cells #[.int .i64 x, .int .i64 y, .int .i64 z] 27) #[.string ⟨#[]⟩, .string ⟨#[]⟩, .string ⟨#[]⟩, .string ⟨#[]⟩, .string ⟨#[]⟩, .string ⟨#[]⟩] 25)
  have HP0 := Lib.hid ((blk_new w #[.int .i64 x, .int .i64 y, .int .i64 z] 27).alloc (.cells #[.string ⟨#[]⟩, .string ⟨#[]⟩, .string ⟨#[]⟩, .string ⟨#[]⟩, .string ⟨#[]⟩, .string ⟨#[]⟩] 25))
  go_enter Tryz.func108, Tryz.ntmps108
  go_wp2_with fail
  refine (ZE.out _).mono ?_
  rintro e w3 ⟨rfl, hb⟩
  have HB3 := Lib.hid (HB0.out.trans (hb.mono HB0.out.size)); have HP3 := Lib.hid (HP0.out.later hb); have HR3 := Lib.hid (HR0.out.later hb)
  clear hb
  go_wp2_with fail
  rw [HTS.out]
  have hbt := HB3.out.size
  have HBs := Lib.hid (((HB3.out.alloc HB3.out.size (.cells #[.string (qt (tq 0)), .string (qt (tq 1)), .string (qt (tq 2)), .string (qt (tq 3)), .string (qt (tq 4)), .string (qt (tq 5))] 25)).alloc (by simp; omega) (.cells #[.string (qt (tq 0)), .string (qt (tq 1)), .string (qt (tq 2)), .string (qt (tq 3)), .string (qt (tq 4)), .string (qt (tq 5))] 25)))
  have HTs := Lib.hid ((blk_new w3 #[.string (qt (tq 0)), .string (qt (tq 1)), .string (qt (tq 2)), .string (qt (tq 3)), .string (qt (tq 4)), .string (qt (tq 5))] 25).alloc (.cells #[.string (qt (tq 0)), .string (qt (tq 1)), .string (qt (tq 2)), .string (qt (tq 3)), .string (qt (tq 4)), .string (qt (tq 5))] 25))
  have HOs := Lib.hid (blk_new1 w3 (.cells #[.string (qt (tq 0)), .string (qt (tq 1)), .string (qt (tq 2)), .string (qt (tq 3)), .string (qt (tq 4)), .string (qt (tq 5))] 25) #[.string (qt (tq 0)), .string (qt (tq 1)), .string (qt (tq 2)), .string (qt (tq 3)), .string (qt (tq 4)), .string (qt (tq 5))] 25)
  have HPs := Lib.hid ((HP3.out.alloc (.cells #[.string (qt (tq 0)), .string (qt (tq 1)), .string (qt (tq 2)), .string (qt (tq 3)), .string (qt (tq 4)), .string (qt (tq 5))] 25)).alloc (.cells #[.string (qt (tq 0)), .string (qt (tq 1)), .string (qt (tq 2)), .string (qt (tq 3)), .string (qt (tq 4)), .string (qt (tq 5))] 25)); have HRs := Lib.hid ((HR3.out.alloc (.cells #[.string (qt (tq 0)), .string (qt (tq 1)), .string (qt (tq 2)), .string (qt (tq 3)), .string (qt (tq 4)), .string (qt (tq 5))] 25)).alloc (.cells #[.string (qt (tq 0)), .string (qt (tq 1)), .string (qt (tq 2)), .string (qt (tq 3)), .string (qt (tq 4)), .string (qt (tq 5))] 25))
  have hlr := HR3.out.lt
  generalize ((w3.alloc (.cells #[.string (qt (tq 0)), .string (qt (tq 1)), .string (qt (tq 2)), .string (qt (tq 3)), .string (qt (tq 4)), .string (qt (tq 5))] 25)).alloc (.cells #[.string (qt (tq 0)), .string (qt (tq 1)), .string (qt (tq 2)), .string (qt (tq 3)), .string (qt (tq 4)), .string (qt (tq 5))] 25)) = W4 at HBs HTs HOs HPs HRs ⊢
  obtain ⟨BO, hBO⟩ : ∃ BO, BO = w3.heap.size + 1 := ⟨_, rfl⟩
  obtain ⟨BT, hBT⟩ : ∃ BT, BT = w3.heap.size := ⟨_, rfl⟩
  rw [← hBO] at HOs ⊢
  rw [← hBT] at HTs ⊢
  rw [← obC_zero (fun i => qt (ar i)) (fun i => qt (tq i))] at HOs
  have HN1 : Hid (BO = BT + 1) := Lib.hid (by omega)
  have HN2 : Hid (w.heap.size + 1 < BT) := Lib.hid (by omega)
  clear hBO hBT hlr hbt

  go_loopg [9] N (fun d i wr => ∃ j : Nat, i = .int .i64 j ∧ j ≤ 3 ∧ d = N - j ∧ Blk wr w.heap.size #[.int .i64 x, .int .i64 y, .int .i64 z] 27 ∧ Blk wr (w.heap.size + 1) #[.string ⟨#[]⟩, .string ⟨#[]⟩, .string ⟨#[]⟩, .string ⟨#[]⟩, .string ⟨#[]⟩, .string ⟨#[]⟩] 25 ∧ Blk wr BT #[.string (qt (tq 0)), .string (qt (tq 1)), .string (qt (tq 2)), .string (qt (tq 3)), .string (qt (tq 4)), .string (qt (tq 5))] 25 ∧ Blk wr BO (obC (fun i => qt (ar i)) (fun i => qt (tq i)) j) 25 ∧ Below w.heap.size w wr)
  case atStart => exact ⟨0, rfl, by decide, rfl, HPs.out, HRs.out, HTs.out, HOs.out, HBs.out⟩
  case round =>
    obtain ⟨j, rfl, hj, rfl, hp, hr, ht, ho, hb⟩ := hrel
    have HT := Lib.hid ht; have HP := Lib.hid hp; have HR := Lib.hid hr; have HO := Lib.hid ho; have HB := Lib.hid hb
    clear ht hp hr ho hb
    by_cases hlt : j < 3
    · have hj' : j = 0 ∨ j = 1 ∨ j = 2 := by omega
      have p0 := HP.out.cell 0; have p1 := HP.out.cell 1; have p2 := HP.out.cell 2; have t0 := HT.out.cell 0; have t1 := HT.out.cell 1; have t2 := HT.out.cell 2; have t3 := HT.out.cell 3; have t4 := HT.out.cell 4; have t5 := HT.out.cell 5
      rcases hj' with rfl | rfl | rfl
      · go_wp2_with fail
        go_region_held3 (fun w' => w'.cell? ⟨w.heap.size, 0, none⟩ = some (.int .i64 x) ∧ w'.cell? ⟨w.heap.size, 1, none⟩ = some (.int .i64 y) ∧ w'.cell? ⟨w.heap.size, 2, none⟩ = some (.int .i64 z) ∧ w'.cell? ⟨BT, 0, none⟩ = some (.string (qt (tq 0))) ∧ w'.cell? ⟨BT, 1, none⟩ = some (.string (qt (tq 1))) ∧ w'.cell? ⟨BT, 2, none⟩ = some (.string (qt (tq 2))) ∧ w'.cell? ⟨BT, 3, none⟩ = some (.string (qt (tq 3))) ∧ w'.cell? ⟨BT, 4, none⟩ = some (.string (qt (tq 4))) ∧ w'.cell? ⟨BT, 5, none⟩ = some (.string (qt (tq 5))))
          (first | exact HST.out | go_keep | exact ⟨p0, p1, p2, t0, t1, t2, t3, t4, t5⟩ | exact ⟨ap0, ap1, ap2, at0, at1, at2, at3, at4, at5⟩ | exact ⟨bp0, bp1, bp2, bt0, bt1, bt2, bt3, bt4, bt5⟩ | exact ⟨cp0, cp1, cp2, ct0, ct1, ct2, ct3, ct4, ct5⟩ | exact ⟨dp0, dp1, dp2, dt0, dt1, dt2, dt3, dt4, dt5⟩)
          (first
            | (go_at_call 182; refine (CO.out 0 (by decide) _).mono ?_; rintro e wn ⟨rfl, hbn⟩; first | (have HBc := Lib.hid (HBb.out.trans (hbn.mono HBb.out.size)); have HTc := Lib.hid (Blk.later (HTb.out) hbn); have HPc := Lib.hid (Blk.later (HPb.out) hbn); have HRc := Lib.hid (Blk.later (HRb.out) hbn); have HOc := Lib.hid (Blk.later (HOb.out) hbn); have cp0 := HPc.out.cell 0; have cp1 := HPc.out.cell 1; have cp2 := HPc.out.cell 2; have ct0 := HTc.out.cell 0; have ct1 := HTc.out.cell 1; have ct2 := HTc.out.cell 2; have ct3 := HTc.out.cell 3; have ct4 := HTc.out.cell 4; have ct5 := HTc.out.cell 5; clear hbn) | (have HBb := Lib.hid (HBa.out.trans (hbn.mono HBa.out.size)); have HTb := Lib.hid (Blk.later (HTa.out) hbn); have HPb := Lib.hid (Blk.later (HPa.out) hbn); have HRb := Lib.hid (Blk.later (HRa.out) hbn); have HOb := Lib.hid (Blk.later (HOa.out) hbn); have bp0 := HPb.out.cell 0; have bp1 := HPb.out.cell 1; have bp2 := HPb.out.cell 2; have bt0 := HTb.out.cell 0; have bt1 := HTb.out.cell 1; have bt2 := HTb.out.cell 2; have bt3 := HTb.out.cell 3; have bt4 := HTb.out.cell 4; have bt5 := HTb.out.cell 5; clear hbn) | (have HBa := Lib.hid (HB.out.drew.trans (hbn.mono HB.out.drew.size)); have HTa := Lib.hid (Blk.later (HT.out.drew) hbn); have HPa := Lib.hid (Blk.later (HP.out.drew) hbn); have HRa := Lib.hid (Blk.later (HR.out.drew) hbn); have HOa := Lib.hid (Blk.later (HO.out.drew) hbn); have ap0 := HPa.out.cell 0; have ap1 := HPa.out.cell 1; have ap2 := HPa.out.cell 2; have at0 := HTa.out.cell 0; have at1 := HTa.out.cell 1; have at2 := HTa.out.cell 2; have at3 := HTa.out.cell 3; have at4 := HTa.out.cell 4; have at5 := HTa.out.cell 5; clear hbn))
            | (go_at_call 34; refine (CW.out 0 _).mono ?_; rintro e wm ⟨rfl, hbm⟩; first | (have HBc := Lib.hid (HBb.out.trans (hbm.mono HBb.out.size)); have HTc := Lib.hid (Blk.later (HTb.out) hbm); have HPc := Lib.hid (Blk.later (HPb.out) hbm); have HRc := Lib.hid (Blk.later (HRb.out) hbm); have HOc := Lib.hid (Blk.later (HOb.out) hbm); have cp0 := HPc.out.cell 0; have cp1 := HPc.out.cell 1; have cp2 := HPc.out.cell 2; have ct0 := HTc.out.cell 0; have ct1 := HTc.out.cell 1; have ct2 := HTc.out.cell 2; have ct3 := HTc.out.cell 3; have ct4 := HTc.out.cell 4; have ct5 := HTc.out.cell 5; clear hbm) | (have HBb := Lib.hid (HBa.out.trans (hbm.mono HBa.out.size)); have HTb := Lib.hid (Blk.later (HTa.out) hbm); have HPb := Lib.hid (Blk.later (HPa.out) hbm); have HRb := Lib.hid (Blk.later (HRa.out) hbm); have HOb := Lib.hid (Blk.later (HOa.out) hbm); have bp0 := HPb.out.cell 0; have bp1 := HPb.out.cell 1; have bp2 := HPb.out.cell 2; have bt0 := HTb.out.cell 0; have bt1 := HTb.out.cell 1; have bt2 := HTb.out.cell 2; have bt3 := HTb.out.cell 3; have bt4 := HTb.out.cell 4; have bt5 := HTb.out.cell 5; clear hbm) | (have HBa := Lib.hid (HB.out.drew.trans (hbm.mono HB.out.drew.size)); have HTa := Lib.hid (Blk.later (HT.out.drew) hbm); have HPa := Lib.hid (Blk.later (HP.out.drew) hbm); have HRa := Lib.hid (Blk.later (HR.out.drew) hbm); have HOa := Lib.hid (Blk.later (HO.out.drew) hbm); have ap0 := HPa.out.cell 0; have ap1 := HPa.out.cell 1; have ap2 := HPa.out.cell 2; have at0 := HTa.out.cell 0; have at1 := HTa.out.cell 1; have at2 := HTa.out.cell 2; have at3 := HTa.out.cell 3; have at4 := HTa.out.cell 4; have at5 := HTa.out.cell 5; clear hbm))
            | (go_at_call 176; refine (CM.out 0 (by decide) _).mono ?_; rintro e wl ⟨rfl, hbl⟩; first | (have HBc := Lib.hid (HBb.out.trans (hbl.mono HBb.out.size)); have HTc := Lib.hid (Blk.later (HTb.out) hbl); have HPc := Lib.hid (Blk.later (HPb.out) hbl); have HRc := Lib.hid (Blk.later (HRb.out) hbl); have HOc := Lib.hid (Blk.later (HOb.out) hbl); have cp0 := HPc.out.cell 0; have cp1 := HPc.out.cell 1; have cp2 := HPc.out.cell 2; have ct0 := HTc.out.cell 0; have ct1 := HTc.out.cell 1; have ct2 := HTc.out.cell 2; have ct3 := HTc.out.cell 3; have ct4 := HTc.out.cell 4; have ct5 := HTc.out.cell 5; clear hbl) | (have HBb := Lib.hid (HBa.out.trans (hbl.mono HBa.out.size)); have HTb := Lib.hid (Blk.later (HTa.out) hbl); have HPb := Lib.hid (Blk.later (HPa.out) hbl); have HRb := Lib.hid (Blk.later (HRa.out) hbl); have HOb := Lib.hid (Blk.later (HOa.out) hbl); have bp0 := HPb.out.cell 0; have bp1 := HPb.out.cell 1; have bp2 := HPb.out.cell 2; have bt0 := HTb.out.cell 0; have bt1 := HTb.out.cell 1; have bt2 := HTb.out.cell 2; have bt3 := HTb.out.cell 3; have bt4 := HTb.out.cell 4; have bt5 := HTb.out.cell 5; clear hbl) | (have HBa := Lib.hid (HB.out.drew.trans (hbl.mono HB.out.drew.size)); have HTa := Lib.hid (Blk.later (HT.out.drew) hbl); have HPa := Lib.hid (Blk.later (HP.out.drew) hbl); have HRa := Lib.hid (Blk.later (HR.out.drew) hbl); have HOa := Lib.hid (Blk.later (HO.out.drew) hbl); have ap0 := HPa.out.cell 0; have ap1 := HPa.out.cell 1; have ap2 := HPa.out.cell 2; have at0 := HTa.out.cell 0; have at1 := HTa.out.cell 1; have at2 := HTa.out.cell 2; have at3 := HTa.out.cell 3; have at4 := HTa.out.cell 4; have at5 := HTa.out.cell 5; clear hbl))
            | (go_at_call 39; refine (CL.out 0 (by decide) _).mono ?_; rintro e wi ⟨rfl, hbi⟩; have HBd := Lib.hid (HBc.out.trans (hbi.mono HBc.out.size)); have HTd := Lib.hid (Blk.later (HTc.out) hbi); have HPd := Lib.hid (Blk.later (HPc.out) hbi); have HRd := Lib.hid (Blk.later (HRc.out) hbi); have HOd := Lib.hid (Blk.later (HOc.out) hbi); have dp0 := HPd.out.cell 0; have dp1 := HPd.out.cell 1; have dp2 := HPd.out.cell 2; have dt0 := HTd.out.cell 0; have dt1 := HTd.out.cell 1; have dt2 := HTd.out.cell 2; have dt3 := HTd.out.cell 3; have dt4 := HTd.out.cell 4; have dt5 := HTd.out.cell 5; clear hbi; have oK := Blk.cg HOd.out (i := 0) (by simp [obC]); have fK := HOd.out.free 0; have HST : Hid ((wi.setCell ⟨BO, 0, none⟩ (.string (qt (ar 0)))).cell? ⟨w.heap.size, 0, none⟩ = some (.int .i64 x) ∧ (wi.setCell ⟨BO, 0, none⟩ (.string (qt (ar 0)))).cell? ⟨w.heap.size, 1, none⟩ = some (.int .i64 y) ∧ (wi.setCell ⟨BO, 0, none⟩ (.string (qt (ar 0)))).cell? ⟨w.heap.size, 2, none⟩ = some (.int .i64 z) ∧ (wi.setCell ⟨BO, 0, none⟩ (.string (qt (ar 0)))).cell? ⟨BT, 0, none⟩ = some (.string (qt (tq 0))) ∧ (wi.setCell ⟨BO, 0, none⟩ (.string (qt (ar 0)))).cell? ⟨BT, 1, none⟩ = some (.string (qt (tq 1))) ∧ (wi.setCell ⟨BO, 0, none⟩ (.string (qt (ar 0)))).cell? ⟨BT, 2, none⟩ = some (.string (qt (tq 2))) ∧ (wi.setCell ⟨BO, 0, none⟩ (.string (qt (ar 0)))).cell? ⟨BT, 3, none⟩ = some (.string (qt (tq 3))) ∧ (wi.setCell ⟨BO, 0, none⟩ (.string (qt (ar 0)))).cell? ⟨BT, 4, none⟩ = some (.string (qt (tq 4))) ∧ (wi.setCell ⟨BO, 0, none⟩ (.string (qt (ar 0)))).cell? ⟨BT, 5, none⟩ = some (.string (qt (tq 5)))) := Lib.hid (by have hn1 := HN1.out; have hn2 := HN2.out; have hps := Blk.other (a := ⟨BO, 0, none⟩) HPd.out (by show BO ≠ _; omega) (.string (qt (ar 0))); have hts := Blk.other (a := ⟨BO, 0, none⟩) HTd.out (by show BO ≠ _; omega) (.string (qt (ar 0))); exact ⟨hps.cell 0, hps.cell 1, hps.cell 2, hts.cell 0, hts.cell 1, hts.cell 2, hts.cell 3, hts.cell 4, hts.cell 5⟩)))
        all_goals
          go_wp2_with fail
          go_roundg (N - (0 + 1))
          case measure => have := HN.out; omega
          case rel =>
            have hn1 := HN1.out; have hn2 := HN2.out
            refine ⟨1, rfl, by decide, rfl, HPd.out.other (by show BO ≠ _; omega) _, HRd.out.other (by show BO ≠ _; omega) _, HTd.out.other (by show BO ≠ _; omega) _, ?_, HBd.out.setCell (p := ⟨BO, 0, none⟩) (by show _ ≤ BO; omega) _⟩
            rw [← GS.out 0 (by decide)]
            exact HOd.out.set 0 _
      · go_wp2_with fail
        go_region_held3 (fun w' => w'.cell? ⟨w.heap.size, 0, none⟩ = some (.int .i64 x) ∧ w'.cell? ⟨w.heap.size, 1, none⟩ = some (.int .i64 y) ∧ w'.cell? ⟨w.heap.size, 2, none⟩ = some (.int .i64 z) ∧ w'.cell? ⟨BT, 0, none⟩ = some (.string (qt (tq 0))) ∧ w'.cell? ⟨BT, 1, none⟩ = some (.string (qt (tq 1))) ∧ w'.cell? ⟨BT, 2, none⟩ = some (.string (qt (tq 2))) ∧ w'.cell? ⟨BT, 3, none⟩ = some (.string (qt (tq 3))) ∧ w'.cell? ⟨BT, 4, none⟩ = some (.string (qt (tq 4))) ∧ w'.cell? ⟨BT, 5, none⟩ = some (.string (qt (tq 5))))
          (first | exact HST.out | go_keep | exact ⟨p0, p1, p2, t0, t1, t2, t3, t4, t5⟩ | exact ⟨ap0, ap1, ap2, at0, at1, at2, at3, at4, at5⟩ | exact ⟨bp0, bp1, bp2, bt0, bt1, bt2, bt3, bt4, bt5⟩ | exact ⟨cp0, cp1, cp2, ct0, ct1, ct2, ct3, ct4, ct5⟩ | exact ⟨dp0, dp1, dp2, dt0, dt1, dt2, dt3, dt4, dt5⟩)
          (first
            | (go_at_call 182; refine (CO.out 1 (by decide) _).mono ?_; rintro e wn ⟨rfl, hbn⟩; first | (have HBc := Lib.hid (HBb.out.trans (hbn.mono HBb.out.size)); have HTc := Lib.hid (Blk.later (HTb.out) hbn); have HPc := Lib.hid (Blk.later (HPb.out) hbn); have HRc := Lib.hid (Blk.later (HRb.out) hbn); have HOc := Lib.hid (Blk.later (HOb.out) hbn); have cp0 := HPc.out.cell 0; have cp1 := HPc.out.cell 1; have cp2 := HPc.out.cell 2; have ct0 := HTc.out.cell 0; have ct1 := HTc.out.cell 1; have ct2 := HTc.out.cell 2; have ct3 := HTc.out.cell 3; have ct4 := HTc.out.cell 4; have ct5 := HTc.out.cell 5; clear hbn) | (have HBb := Lib.hid (HBa.out.trans (hbn.mono HBa.out.size)); have HTb := Lib.hid (Blk.later (HTa.out) hbn); have HPb := Lib.hid (Blk.later (HPa.out) hbn); have HRb := Lib.hid (Blk.later (HRa.out) hbn); have HOb := Lib.hid (Blk.later (HOa.out) hbn); have bp0 := HPb.out.cell 0; have bp1 := HPb.out.cell 1; have bp2 := HPb.out.cell 2; have bt0 := HTb.out.cell 0; have bt1 := HTb.out.cell 1; have bt2 := HTb.out.cell 2; have bt3 := HTb.out.cell 3; have bt4 := HTb.out.cell 4; have bt5 := HTb.out.cell 5; clear hbn) | (have HBa := Lib.hid (HB.out.drew.trans (hbn.mono HB.out.drew.size)); have HTa := Lib.hid (Blk.later (HT.out.drew) hbn); have HPa := Lib.hid (Blk.later (HP.out.drew) hbn); have HRa := Lib.hid (Blk.later (HR.out.drew) hbn); have HOa := Lib.hid (Blk.later (HO.out.drew) hbn); have ap0 := HPa.out.cell 0; have ap1 := HPa.out.cell 1; have ap2 := HPa.out.cell 2; have at0 := HTa.out.cell 0; have at1 := HTa.out.cell 1; have at2 := HTa.out.cell 2; have at3 := HTa.out.cell 3; have at4 := HTa.out.cell 4; have at5 := HTa.out.cell 5; clear hbn))
            | (go_at_call 34; refine (CW.out 1 _).mono ?_; rintro e wm ⟨rfl, hbm⟩; first | (have HBc := Lib.hid (HBb.out.trans (hbm.mono HBb.out.size)); have HTc := Lib.hid (Blk.later (HTb.out) hbm); have HPc := Lib.hid (Blk.later (HPb.out) hbm); have HRc := Lib.hid (Blk.later (HRb.out) hbm); have HOc := Lib.hid (Blk.later (HOb.out) hbm); have cp0 := HPc.out.cell 0; have cp1 := HPc.out.cell 1; have cp2 := HPc.out.cell 2; have ct0 := HTc.out.cell 0; have ct1 := HTc.out.cell 1; have ct2 := HTc.out.cell 2; have ct3 := HTc.out.cell 3; have ct4 := HTc.out.cell 4; have ct5 := HTc.out.cell 5; clear hbm) | (have HBb := Lib.hid (HBa.out.trans (hbm.mono HBa.out.size)); have HTb := Lib.hid (Blk.later (HTa.out) hbm); have HPb := Lib.hid (Blk.later (HPa.out) hbm); have HRb := Lib.hid (Blk.later (HRa.out) hbm); have HOb := Lib.hid (Blk.later (HOa.out) hbm); have bp0 := HPb.out.cell 0; have bp1 := HPb.out.cell 1; have bp2 := HPb.out.cell 2; have bt0 := HTb.out.cell 0; have bt1 := HTb.out.cell 1; have bt2 := HTb.out.cell 2; have bt3 := HTb.out.cell 3; have bt4 := HTb.out.cell 4; have bt5 := HTb.out.cell 5; clear hbm) | (have HBa := Lib.hid (HB.out.drew.trans (hbm.mono HB.out.drew.size)); have HTa := Lib.hid (Blk.later (HT.out.drew) hbm); have HPa := Lib.hid (Blk.later (HP.out.drew) hbm); have HRa := Lib.hid (Blk.later (HR.out.drew) hbm); have HOa := Lib.hid (Blk.later (HO.out.drew) hbm); have ap0 := HPa.out.cell 0; have ap1 := HPa.out.cell 1; have ap2 := HPa.out.cell 2; have at0 := HTa.out.cell 0; have at1 := HTa.out.cell 1; have at2 := HTa.out.cell 2; have at3 := HTa.out.cell 3; have at4 := HTa.out.cell 4; have at5 := HTa.out.cell 5; clear hbm))
            | (go_at_call 176; refine (CM.out 1 (by decide) _).mono ?_; rintro e wl ⟨rfl, hbl⟩; first | (have HBc := Lib.hid (HBb.out.trans (hbl.mono HBb.out.size)); have HTc := Lib.hid (Blk.later (HTb.out) hbl); have HPc := Lib.hid (Blk.later (HPb.out) hbl); have HRc := Lib.hid (Blk.later (HRb.out) hbl); have HOc := Lib.hid (Blk.later (HOb.out) hbl); have cp0 := HPc.out.cell 0; have cp1 := HPc.out.cell 1; have cp2 := HPc.out.cell 2; have ct0 := HTc.out.cell 0; have ct1 := HTc.out.cell 1; have ct2 := HTc.out.cell 2; have ct3 := HTc.out.cell 3; have ct4 := HTc.out.cell 4; have ct5 := HTc.out.cell 5; clear hbl) | (have HBb := Lib.hid (HBa.out.trans (hbl.mono HBa.out.size)); have HTb := Lib.hid (Blk.later (HTa.out) hbl); have HPb := Lib.hid (Blk.later (HPa.out) hbl); have HRb := Lib.hid (Blk.later (HRa.out) hbl); have HOb := Lib.hid (Blk.later (HOa.out) hbl); have bp0 := HPb.out.cell 0; have bp1 := HPb.out.cell 1; have bp2 := HPb.out.cell 2; have bt0 := HTb.out.cell 0; have bt1 := HTb.out.cell 1; have bt2 := HTb.out.cell 2; have bt3 := HTb.out.cell 3; have bt4 := HTb.out.cell 4; have bt5 := HTb.out.cell 5; clear hbl) | (have HBa := Lib.hid (HB.out.drew.trans (hbl.mono HB.out.drew.size)); have HTa := Lib.hid (Blk.later (HT.out.drew) hbl); have HPa := Lib.hid (Blk.later (HP.out.drew) hbl); have HRa := Lib.hid (Blk.later (HR.out.drew) hbl); have HOa := Lib.hid (Blk.later (HO.out.drew) hbl); have ap0 := HPa.out.cell 0; have ap1 := HPa.out.cell 1; have ap2 := HPa.out.cell 2; have at0 := HTa.out.cell 0; have at1 := HTa.out.cell 1; have at2 := HTa.out.cell 2; have at3 := HTa.out.cell 3; have at4 := HTa.out.cell 4; have at5 := HTa.out.cell 5; clear hbl))
            | (go_at_call 39; refine (CL.out 1 (by decide) _).mono ?_; rintro e wi ⟨rfl, hbi⟩; have HBd := Lib.hid (HBc.out.trans (hbi.mono HBc.out.size)); have HTd := Lib.hid (Blk.later (HTc.out) hbi); have HPd := Lib.hid (Blk.later (HPc.out) hbi); have HRd := Lib.hid (Blk.later (HRc.out) hbi); have HOd := Lib.hid (Blk.later (HOc.out) hbi); have dp0 := HPd.out.cell 0; have dp1 := HPd.out.cell 1; have dp2 := HPd.out.cell 2; have dt0 := HTd.out.cell 0; have dt1 := HTd.out.cell 1; have dt2 := HTd.out.cell 2; have dt3 := HTd.out.cell 3; have dt4 := HTd.out.cell 4; have dt5 := HTd.out.cell 5; clear hbi; have oK := Blk.cg HOd.out (i := 1) (by simp [obC]); have fK := HOd.out.free 1; have HST : Hid ((wi.setCell ⟨BO, 1, none⟩ (.string (qt (ar 1)))).cell? ⟨w.heap.size, 0, none⟩ = some (.int .i64 x) ∧ (wi.setCell ⟨BO, 1, none⟩ (.string (qt (ar 1)))).cell? ⟨w.heap.size, 1, none⟩ = some (.int .i64 y) ∧ (wi.setCell ⟨BO, 1, none⟩ (.string (qt (ar 1)))).cell? ⟨w.heap.size, 2, none⟩ = some (.int .i64 z) ∧ (wi.setCell ⟨BO, 1, none⟩ (.string (qt (ar 1)))).cell? ⟨BT, 0, none⟩ = some (.string (qt (tq 0))) ∧ (wi.setCell ⟨BO, 1, none⟩ (.string (qt (ar 1)))).cell? ⟨BT, 1, none⟩ = some (.string (qt (tq 1))) ∧ (wi.setCell ⟨BO, 1, none⟩ (.string (qt (ar 1)))).cell? ⟨BT, 2, none⟩ = some (.string (qt (tq 2))) ∧ (wi.setCell ⟨BO, 1, none⟩ (.string (qt (ar 1)))).cell? ⟨BT, 3, none⟩ = some (.string (qt (tq 3))) ∧ (wi.setCell ⟨BO, 1, none⟩ (.string (qt (ar 1)))).cell? ⟨BT, 4, none⟩ = some (.string (qt (tq 4))) ∧ (wi.setCell ⟨BO, 1, none⟩ (.string (qt (ar 1)))).cell? ⟨BT, 5, none⟩ = some (.string (qt (tq 5)))) := Lib.hid (by have hn1 := HN1.out; have hn2 := HN2.out; have hps := Blk.other (a := ⟨BO, 1, none⟩) HPd.out (by show BO ≠ _; omega) (.string (qt (ar 1))); have hts := Blk.other (a := ⟨BO, 1, none⟩) HTd.out (by show BO ≠ _; omega) (.string (qt (ar 1))); exact ⟨hps.cell 0, hps.cell 1, hps.cell 2, hts.cell 0, hts.cell 1, hts.cell 2, hts.cell 3, hts.cell 4, hts.cell 5⟩)))
        all_goals
          go_wp2_with fail
          go_roundg (N - (1 + 1))
          case measure => have := HN.out; omega
          case rel =>
            have hn1 := HN1.out; have hn2 := HN2.out
            refine ⟨2, rfl, by decide, rfl, HPd.out.other (by show BO ≠ _; omega) _, HRd.out.other (by show BO ≠ _; omega) _, HTd.out.other (by show BO ≠ _; omega) _, ?_, HBd.out.setCell (p := ⟨BO, 1, none⟩) (by show _ ≤ BO; omega) _⟩
            rw [← GS.out 1 (by decide)]
            exact HOd.out.set 1 _
      · go_wp2_with fail
        go_region_held3 (fun w' => w'.cell? ⟨w.heap.size, 0, none⟩ = some (.int .i64 x) ∧ w'.cell? ⟨w.heap.size, 1, none⟩ = some (.int .i64 y) ∧ w'.cell? ⟨w.heap.size, 2, none⟩ = some (.int .i64 z) ∧ w'.cell? ⟨BT, 0, none⟩ = some (.string (qt (tq 0))) ∧ w'.cell? ⟨BT, 1, none⟩ = some (.string (qt (tq 1))) ∧ w'.cell? ⟨BT, 2, none⟩ = some (.string (qt (tq 2))) ∧ w'.cell? ⟨BT, 3, none⟩ = some (.string (qt (tq 3))) ∧ w'.cell? ⟨BT, 4, none⟩ = some (.string (qt (tq 4))) ∧ w'.cell? ⟨BT, 5, none⟩ = some (.string (qt (tq 5))))
          (first | exact HST.out | go_keep | exact ⟨p0, p1, p2, t0, t1, t2, t3, t4, t5⟩ | exact ⟨ap0, ap1, ap2, at0, at1, at2, at3, at4, at5⟩ | exact ⟨bp0, bp1, bp2, bt0, bt1, bt2, bt3, bt4, bt5⟩ | exact ⟨cp0, cp1, cp2, ct0, ct1, ct2, ct3, ct4, ct5⟩ | exact ⟨dp0, dp1, dp2, dt0, dt1, dt2, dt3, dt4, dt5⟩)
          (first
            | (go_at_call 182; refine (CO.out 2 (by decide) _).mono ?_; rintro e wn ⟨rfl, hbn⟩; first | (have HBc := Lib.hid (HBb.out.trans (hbn.mono HBb.out.size)); have HTc := Lib.hid (Blk.later (HTb.out) hbn); have HPc := Lib.hid (Blk.later (HPb.out) hbn); have HRc := Lib.hid (Blk.later (HRb.out) hbn); have HOc := Lib.hid (Blk.later (HOb.out) hbn); have cp0 := HPc.out.cell 0; have cp1 := HPc.out.cell 1; have cp2 := HPc.out.cell 2; have ct0 := HTc.out.cell 0; have ct1 := HTc.out.cell 1; have ct2 := HTc.out.cell 2; have ct3 := HTc.out.cell 3; have ct4 := HTc.out.cell 4; have ct5 := HTc.out.cell 5; clear hbn) | (have HBb := Lib.hid (HBa.out.trans (hbn.mono HBa.out.size)); have HTb := Lib.hid (Blk.later (HTa.out) hbn); have HPb := Lib.hid (Blk.later (HPa.out) hbn); have HRb := Lib.hid (Blk.later (HRa.out) hbn); have HOb := Lib.hid (Blk.later (HOa.out) hbn); have bp0 := HPb.out.cell 0; have bp1 := HPb.out.cell 1; have bp2 := HPb.out.cell 2; have bt0 := HTb.out.cell 0; have bt1 := HTb.out.cell 1; have bt2 := HTb.out.cell 2; have bt3 := HTb.out.cell 3; have bt4 := HTb.out.cell 4; have bt5 := HTb.out.cell 5; clear hbn) | (have HBa := Lib.hid (HB.out.drew.trans (hbn.mono HB.out.drew.size)); have HTa := Lib.hid (Blk.later (HT.out.drew) hbn); have HPa := Lib.hid (Blk.later (HP.out.drew) hbn); have HRa := Lib.hid (Blk.later (HR.out.drew) hbn); have HOa := Lib.hid (Blk.later (HO.out.drew) hbn); have ap0 := HPa.out.cell 0; have ap1 := HPa.out.cell 1; have ap2 := HPa.out.cell 2; have at0 := HTa.out.cell 0; have at1 := HTa.out.cell 1; have at2 := HTa.out.cell 2; have at3 := HTa.out.cell 3; have at4 := HTa.out.cell 4; have at5 := HTa.out.cell 5; clear hbn))
            | (go_at_call 34; refine (CW.out 2 _).mono ?_; rintro e wm ⟨rfl, hbm⟩; first | (have HBc := Lib.hid (HBb.out.trans (hbm.mono HBb.out.size)); have HTc := Lib.hid (Blk.later (HTb.out) hbm); have HPc := Lib.hid (Blk.later (HPb.out) hbm); have HRc := Lib.hid (Blk.later (HRb.out) hbm); have HOc := Lib.hid (Blk.later (HOb.out) hbm); have cp0 := HPc.out.cell 0; have cp1 := HPc.out.cell 1; have cp2 := HPc.out.cell 2; have ct0 := HTc.out.cell 0; have ct1 := HTc.out.cell 1; have ct2 := HTc.out.cell 2; have ct3 := HTc.out.cell 3; have ct4 := HTc.out.cell 4; have ct5 := HTc.out.cell 5; clear hbm) | (have HBb := Lib.hid (HBa.out.trans (hbm.mono HBa.out.size)); have HTb := Lib.hid (Blk.later (HTa.out) hbm); have HPb := Lib.hid (Blk.later (HPa.out) hbm); have HRb := Lib.hid (Blk.later (HRa.out) hbm); have HOb := Lib.hid (Blk.later (HOa.out) hbm); have bp0 := HPb.out.cell 0; have bp1 := HPb.out.cell 1; have bp2 := HPb.out.cell 2; have bt0 := HTb.out.cell 0; have bt1 := HTb.out.cell 1; have bt2 := HTb.out.cell 2; have bt3 := HTb.out.cell 3; have bt4 := HTb.out.cell 4; have bt5 := HTb.out.cell 5; clear hbm) | (have HBa := Lib.hid (HB.out.drew.trans (hbm.mono HB.out.drew.size)); have HTa := Lib.hid (Blk.later (HT.out.drew) hbm); have HPa := Lib.hid (Blk.later (HP.out.drew) hbm); have HRa := Lib.hid (Blk.later (HR.out.drew) hbm); have HOa := Lib.hid (Blk.later (HO.out.drew) hbm); have ap0 := HPa.out.cell 0; have ap1 := HPa.out.cell 1; have ap2 := HPa.out.cell 2; have at0 := HTa.out.cell 0; have at1 := HTa.out.cell 1; have at2 := HTa.out.cell 2; have at3 := HTa.out.cell 3; have at4 := HTa.out.cell 4; have at5 := HTa.out.cell 5; clear hbm))
            | (go_at_call 176; refine (CM.out 2 (by decide) _).mono ?_; rintro e wl ⟨rfl, hbl⟩; first | (have HBc := Lib.hid (HBb.out.trans (hbl.mono HBb.out.size)); have HTc := Lib.hid (Blk.later (HTb.out) hbl); have HPc := Lib.hid (Blk.later (HPb.out) hbl); have HRc := Lib.hid (Blk.later (HRb.out) hbl); have HOc := Lib.hid (Blk.later (HOb.out) hbl); have cp0 := HPc.out.cell 0; have cp1 := HPc.out.cell 1; have cp2 := HPc.out.cell 2; have ct0 := HTc.out.cell 0; have ct1 := HTc.out.cell 1; have ct2 := HTc.out.cell 2; have ct3 := HTc.out.cell 3; have ct4 := HTc.out.cell 4; have ct5 := HTc.out.cell 5; clear hbl) | (have HBb := Lib.hid (HBa.out.trans (hbl.mono HBa.out.size)); have HTb := Lib.hid (Blk.later (HTa.out) hbl); have HPb := Lib.hid (Blk.later (HPa.out) hbl); have HRb := Lib.hid (Blk.later (HRa.out) hbl); have HOb := Lib.hid (Blk.later (HOa.out) hbl); have bp0 := HPb.out.cell 0; have bp1 := HPb.out.cell 1; have bp2 := HPb.out.cell 2; have bt0 := HTb.out.cell 0; have bt1 := HTb.out.cell 1; have bt2 := HTb.out.cell 2; have bt3 := HTb.out.cell 3; have bt4 := HTb.out.cell 4; have bt5 := HTb.out.cell 5; clear hbl) | (have HBa := Lib.hid (HB.out.drew.trans (hbl.mono HB.out.drew.size)); have HTa := Lib.hid (Blk.later (HT.out.drew) hbl); have HPa := Lib.hid (Blk.later (HP.out.drew) hbl); have HRa := Lib.hid (Blk.later (HR.out.drew) hbl); have HOa := Lib.hid (Blk.later (HO.out.drew) hbl); have ap0 := HPa.out.cell 0; have ap1 := HPa.out.cell 1; have ap2 := HPa.out.cell 2; have at0 := HTa.out.cell 0; have at1 := HTa.out.cell 1; have at2 := HTa.out.cell 2; have at3 := HTa.out.cell 3; have at4 := HTa.out.cell 4; have at5 := HTa.out.cell 5; clear hbl))
            | (go_at_call 39; refine (CL.out 2 (by decide) _).mono ?_; rintro e wi ⟨rfl, hbi⟩; have HBd := Lib.hid (HBc.out.trans (hbi.mono HBc.out.size)); have HTd := Lib.hid (Blk.later (HTc.out) hbi); have HPd := Lib.hid (Blk.later (HPc.out) hbi); have HRd := Lib.hid (Blk.later (HRc.out) hbi); have HOd := Lib.hid (Blk.later (HOc.out) hbi); have dp0 := HPd.out.cell 0; have dp1 := HPd.out.cell 1; have dp2 := HPd.out.cell 2; have dt0 := HTd.out.cell 0; have dt1 := HTd.out.cell 1; have dt2 := HTd.out.cell 2; have dt3 := HTd.out.cell 3; have dt4 := HTd.out.cell 4; have dt5 := HTd.out.cell 5; clear hbi; have oK := Blk.cg HOd.out (i := 2) (by simp [obC]); have fK := HOd.out.free 2; have HST : Hid ((wi.setCell ⟨BO, 2, none⟩ (.string (qt (ar 2)))).cell? ⟨w.heap.size, 0, none⟩ = some (.int .i64 x) ∧ (wi.setCell ⟨BO, 2, none⟩ (.string (qt (ar 2)))).cell? ⟨w.heap.size, 1, none⟩ = some (.int .i64 y) ∧ (wi.setCell ⟨BO, 2, none⟩ (.string (qt (ar 2)))).cell? ⟨w.heap.size, 2, none⟩ = some (.int .i64 z) ∧ (wi.setCell ⟨BO, 2, none⟩ (.string (qt (ar 2)))).cell? ⟨BT, 0, none⟩ = some (.string (qt (tq 0))) ∧ (wi.setCell ⟨BO, 2, none⟩ (.string (qt (ar 2)))).cell? ⟨BT, 1, none⟩ = some (.string (qt (tq 1))) ∧ (wi.setCell ⟨BO, 2, none⟩ (.string (qt (ar 2)))).cell? ⟨BT, 2, none⟩ = some (.string (qt (tq 2))) ∧ (wi.setCell ⟨BO, 2, none⟩ (.string (qt (ar 2)))).cell? ⟨BT, 3, none⟩ = some (.string (qt (tq 3))) ∧ (wi.setCell ⟨BO, 2, none⟩ (.string (qt (ar 2)))).cell? ⟨BT, 4, none⟩ = some (.string (qt (tq 4))) ∧ (wi.setCell ⟨BO, 2, none⟩ (.string (qt (ar 2)))).cell? ⟨BT, 5, none⟩ = some (.string (qt (tq 5)))) := Lib.hid (by have hn1 := HN1.out; have hn2 := HN2.out; have hps := Blk.other (a := ⟨BO, 2, none⟩) HPd.out (by show BO ≠ _; omega) (.string (qt (ar 2))); have hts := Blk.other (a := ⟨BO, 2, none⟩) HTd.out (by show BO ≠ _; omega) (.string (qt (ar 2))); exact ⟨hps.cell 0, hps.cell 1, hps.cell 2, hts.cell 0, hts.cell 1, hts.cell 2, hts.cell 3, hts.cell 4, hts.cell 5⟩)))
        all_goals
          go_wp2_with fail
          go_roundg (N - (2 + 1))
          case measure => have := HN.out; omega
          case rel =>
            have hn1 := HN1.out; have hn2 := HN2.out
            refine ⟨3, rfl, by decide, rfl, HPd.out.other (by show BO ≠ _; omega) _, HRd.out.other (by show BO ≠ _; omega) _, HTd.out.other (by show BO ≠ _; omega) _, ?_, HBd.out.setCell (p := ⟨BO, 2, none⟩) (by show _ ≤ BO; omega) _⟩
            rw [← GS.out 2 (by decide)]
            exact HOd.out.set 2 _
    · have hj3 : j = 3 := by omega
      subst hj3
      rw [obC_three] at HO
      have o0 := HO.out.cell 0; have o1 := HO.out.cell 1; have o2 := HO.out.cell 2; have o3 := HO.out.cell 3; have o4 := HO.out.cell 4; have o5 := HO.out.cell 5
      have r0 := HR.out.cell 0; have r1 := HR.out.cell 1; have r2 := HR.out.cell 2; have r3 := HR.out.cell 3; have r4 := HR.out.cell 4; have r5 := HR.out.cell 5
      have f0 := HR.out.free 0; have f1 := HR.out.free 1; have f2 := HR.out.free 2; have f3 := HR.out.free 3; have f4 := HR.out.free 4; have f5 := HR.out.free 5
      go_wp2_with fail
      rw [HAH.out.1, HAH.out.2.1, HAH.out.2.2]
      have hr3 := (Blk.set (Blk.set (Blk.set (Blk.set (Blk.set (Blk.set HR.out 0 (.string (qt (ar 0)))) 1 (.string (qt (ar 1)))) 2 (.string (qt (ar 2)))) 3 (.string (qt (tq 3)))) 4 (.string (qt (tq 4)))) 5 (.string (qt (tq 5))))
      have hb3 := (Below.setCell (p := ⟨w.heap.size + 1, 5, none⟩) (Below.setCell (p := ⟨w.heap.size + 1, 4, none⟩) (Below.setCell (p := ⟨w.heap.size + 1, 3, none⟩) (Below.setCell (p := ⟨w.heap.size + 1, 2, none⟩) (Below.setCell (p := ⟨w.heap.size + 1, 1, none⟩) (Below.setCell (p := ⟨w.heap.size + 1, 0, none⟩) HB.out (by show _ ≤ w.heap.size + 1; omega) (.string (qt (ar 0)))) (by show _ ≤ w.heap.size + 1; omega) (.string (qt (ar 1)))) (by show _ ≤ w.heap.size + 1; omega) (.string (qt (ar 2)))) (by show _ ≤ w.heap.size + 1; omega) (.string (qt (tq 3)))) (by show _ ≤ w.heap.size + 1; omega) (.string (qt (tq 4)))) (by show _ ≤ w.heap.size + 1; omega) (.string (qt (tq 5))))
      generalize ((((((wr.setCell ⟨w.heap.size + 1, 0, none⟩ (.string (qt (ar 0)))).setCell ⟨w.heap.size + 1, 1, none⟩ (.string (qt (ar 1)))).setCell ⟨w.heap.size + 1, 2, none⟩ (.string (qt (ar 2)))).setCell ⟨w.heap.size + 1, 3, none⟩ (.string (qt (tq 3)))).setCell ⟨w.heap.size + 1, 4, none⟩ (.string (qt (tq 4)))).setCell ⟨w.heap.size + 1, 5, none⟩ (.string (qt (tq 5)))) = W3 at hr3 hb3 ⊢
      have s0 := hr3.cell 0; have s1 := hr3.cell 1; have s2 := hr3.cell 2; have s3 := hr3.cell 3; have s4 := hr3.cell 4; have s5 := hr3.cell 5
      exact bodyPost_ret (by simp [results, Tryz.results108, go_sem, s0, s1, s2, s3, s4, s5]; try rfl) rfl ⟨rfl, hb3⟩

end Go.Proofs.YtbpegjgpdgeadaaGreatDoor
namespace Go.Proofs.YtbpegjgpdgeadaaGreatDoor
open Go Go.RowKit Metro
open Go.Lib (nDigits decDigits)

set_option maxHeartbeats 1000000 in
set_option maxRecDepth 100000 in
theorem refAboutAx_any (k x y z : Int) (s : ByteArray) (w : World) (h : errA k x y z ≠ 0) :
    Calls Tryz.prog 30 #[.int .i64 k, .agg #[.int .i64 x, .int .i64 y, .int .i64 z], .string s] w fun e w' => e = .returned (.tuple #[.agg #[.string ⟨#[]⟩, .string ⟨#[]⟩, .string ⟨#[]⟩, .string ⟨#[]⟩, .string ⟨#[]⟩, .string ⟨#[]⟩], .int .i64 (errA k x y z)]) ∧ Below w.heap.size w w' := by
  have C : Hid (∀ w, Calls Tryz.prog 105 #[.int .i64 k, .agg #[.int .i64 x, .int .i64 y, .int .i64 z]] w fun E w' => E = .returned (.int .i64 (errA k x y z)) ∧ Below w.heap.size w w') := Lib.hid (refAxis_any k x y z)
  obtain ⟨E, hE⟩ : ∃ E, E = errA k x y z := ⟨_, rfl⟩
  rw [← hE] at C h ⊢
  have hne : (E == 0) = false := by rw [beq_eq_false_iff_ne]; exact h
  have HB0 := Lib.hid (below_two w (.cells #[.int .i64 x, .int .i64 y, .int .i64 z] 27) (.cells #[.string ⟨#[]⟩, .string ⟨#[]⟩, .string ⟨#[]⟩, .string ⟨#[]⟩, .string ⟨#[]⟩, .string ⟨#[]⟩] 25))
  have HR0 := Lib.hid (blk_new1 w (.cells #[.int .i64 x, .int .i64 y, .int .i64 z] 27) #[.string ⟨#[]⟩, .string ⟨#[]⟩, .string ⟨#[]⟩, .string ⟨#[]⟩, .string ⟨#[]⟩, .string ⟨#[]⟩] 25)
  clear hE h
  go_enter Tryz.func30, Tryz.ntmps30
  go_wp2_with fail
  refine (C.out _).mono ?_
  rintro e w1 ⟨rfl, hb⟩
  have HB1 := Lib.hid (HB0.out.trans (hb.mono HB0.out.size)); have HR1 := Lib.hid (HR0.out.later hb)
  clear hb
  have r0 := HR1.out.cell 0; have r1 := HR1.out.cell 1; have r2 := HR1.out.cell 2; have r3 := HR1.out.cell 3; have r4 := HR1.out.cell 4; have r5 := HR1.out.cell 5
  have f0 := HR1.out.free 0; have f1 := HR1.out.free 1; have f2 := HR1.out.free 2; have f3 := HR1.out.free 3; have f4 := HR1.out.free 4; have f5 := HR1.out.free 5
  go_wp2_with fail
  have hr3 := (Blk.set (Blk.set (Blk.set (Blk.set (Blk.set (Blk.set HR1.out 0 (.string ⟨#[]⟩)) 1 (.string ⟨#[]⟩)) 2 (.string ⟨#[]⟩)) 3 (.string ⟨#[]⟩)) 4 (.string ⟨#[]⟩)) 5 (.string ⟨#[]⟩))
  have hb3 := (Below.setCell (p := ⟨w.heap.size + 1, 5, none⟩) (Below.setCell (p := ⟨w.heap.size + 1, 4, none⟩) (Below.setCell (p := ⟨w.heap.size + 1, 3, none⟩) (Below.setCell (p := ⟨w.heap.size + 1, 2, none⟩) (Below.setCell (p := ⟨w.heap.size + 1, 1, none⟩) (Below.setCell (p := ⟨w.heap.size + 1, 0, none⟩) HB1.out (by show _ ≤ w.heap.size + 1; omega) (.string ⟨#[]⟩)) (by show _ ≤ w.heap.size + 1; omega) (.string ⟨#[]⟩)) (by show _ ≤ w.heap.size + 1; omega) (.string ⟨#[]⟩)) (by show _ ≤ w.heap.size + 1; omega) (.string ⟨#[]⟩)) (by show _ ≤ w.heap.size + 1; omega) (.string ⟨#[]⟩)) (by show _ ≤ w.heap.size + 1; omega) (.string ⟨#[]⟩))
  generalize ((((((w1.setCell ⟨w.heap.size + 1, 0, none⟩ (.string ⟨#[]⟩)).setCell ⟨w.heap.size + 1, 1, none⟩ (.string ⟨#[]⟩)).setCell ⟨w.heap.size + 1, 2, none⟩ (.string ⟨#[]⟩)).setCell ⟨w.heap.size + 1, 3, none⟩ (.string ⟨#[]⟩)).setCell ⟨w.heap.size + 1, 4, none⟩ (.string ⟨#[]⟩)).setCell ⟨w.heap.size + 1, 5, none⟩ (.string ⟨#[]⟩)) = W3 at hr3 hb3 ⊢
  have s0 := hr3.cell 0; have s1 := hr3.cell 1; have s2 := hr3.cell 2; have s3 := hr3.cell 3; have s4 := hr3.cell 4; have s5 := hr3.cell 5
  exact bodyPost_ret (by simp [results, Tryz.results30, go_sem, s0, s1, s2, s3, s4, s5]; try rfl) rfl ⟨rfl, hb3⟩

set_option maxHeartbeats 1000000 in
set_option maxRecDepth 100000 in
theorem aboutAx_any (k x y z : Int) (s : ByteArray) (w : World) (h : errA k x y z ≠ 0) :
    Calls Tryz.prog 29 #[.int .i64 k, .agg #[.int .i64 x, .int .i64 y, .int .i64 z], .string s] w fun e w' => e = .returned (.tuple #[.agg #[.string ⟨#[]⟩, .string ⟨#[]⟩, .string ⟨#[]⟩, .string ⟨#[]⟩, .string ⟨#[]⟩, .string ⟨#[]⟩], .int .i64 (errA k x y z)]) ∧ Below w.heap.size w w' := by
  have C : Hid (∀ w, Calls Tryz.prog 103 #[.int .i64 k, .agg #[.int .i64 x, .int .i64 y, .int .i64 z]] w fun E w' => E = .returned (.int .i64 (errA k x y z)) ∧ Below w.heap.size w w') := Lib.hid (given_any k x y z)
  obtain ⟨E, hE⟩ : ∃ E, E = errA k x y z := ⟨_, rfl⟩
  rw [← hE] at C h ⊢
  have hne : (E == 0) = false := by rw [beq_eq_false_iff_ne]; exact h
  have HB0 := Lib.hid (below_two w (.cells #[.int .i64 x, .int .i64 y, .int .i64 z] 27) (.cells #[.string ⟨#[]⟩, .string ⟨#[]⟩, .string ⟨#[]⟩, .string ⟨#[]⟩, .string ⟨#[]⟩, .string ⟨#[]⟩] 25))
  have HR0 := Lib.hid (blk_new1 w (.cells #[.int .i64 x, .int .i64 y, .int .i64 z] 27) #[.string ⟨#[]⟩, .string ⟨#[]⟩, .string ⟨#[]⟩, .string ⟨#[]⟩, .string ⟨#[]⟩, .string ⟨#[]⟩] 25)
  clear hE h
  go_enter Tryz.func29, Tryz.ntmps29
  go_wp2_with fail
  refine (C.out _).mono ?_
  rintro e w1 ⟨rfl, hb⟩
  have HB1 := Lib.hid (HB0.out.trans (hb.mono HB0.out.size)); have HR1 := Lib.hid (HR0.out.later hb)
  clear hb
  have r0 := HR1.out.cell 0; have r1 := HR1.out.cell 1; have r2 := HR1.out.cell 2; have r3 := HR1.out.cell 3; have r4 := HR1.out.cell 4; have r5 := HR1.out.cell 5
  have f0 := HR1.out.free 0; have f1 := HR1.out.free 1; have f2 := HR1.out.free 2; have f3 := HR1.out.free 3; have f4 := HR1.out.free 4; have f5 := HR1.out.free 5
  go_wp2_with fail
  have hr3 := (Blk.set (Blk.set (Blk.set (Blk.set (Blk.set (Blk.set HR1.out 0 (.string ⟨#[]⟩)) 1 (.string ⟨#[]⟩)) 2 (.string ⟨#[]⟩)) 3 (.string ⟨#[]⟩)) 4 (.string ⟨#[]⟩)) 5 (.string ⟨#[]⟩))
  have hb3 := (Below.setCell (p := ⟨w.heap.size + 1, 5, none⟩) (Below.setCell (p := ⟨w.heap.size + 1, 4, none⟩) (Below.setCell (p := ⟨w.heap.size + 1, 3, none⟩) (Below.setCell (p := ⟨w.heap.size + 1, 2, none⟩) (Below.setCell (p := ⟨w.heap.size + 1, 1, none⟩) (Below.setCell (p := ⟨w.heap.size + 1, 0, none⟩) HB1.out (by show _ ≤ w.heap.size + 1; omega) (.string ⟨#[]⟩)) (by show _ ≤ w.heap.size + 1; omega) (.string ⟨#[]⟩)) (by show _ ≤ w.heap.size + 1; omega) (.string ⟨#[]⟩)) (by show _ ≤ w.heap.size + 1; omega) (.string ⟨#[]⟩)) (by show _ ≤ w.heap.size + 1; omega) (.string ⟨#[]⟩)) (by show _ ≤ w.heap.size + 1; omega) (.string ⟨#[]⟩))
  generalize ((((((w1.setCell ⟨w.heap.size + 1, 0, none⟩ (.string ⟨#[]⟩)).setCell ⟨w.heap.size + 1, 1, none⟩ (.string ⟨#[]⟩)).setCell ⟨w.heap.size + 1, 2, none⟩ (.string ⟨#[]⟩)).setCell ⟨w.heap.size + 1, 3, none⟩ (.string ⟨#[]⟩)).setCell ⟨w.heap.size + 1, 4, none⟩ (.string ⟨#[]⟩)).setCell ⟨w.heap.size + 1, 5, none⟩ (.string ⟨#[]⟩)) = W3 at hr3 hb3 ⊢
  have s0 := hr3.cell 0; have s1 := hr3.cell 1; have s2 := hr3.cell 2; have s3 := hr3.cell 3; have s4 := hr3.cell 4; have s5 := hr3.cell 5
  exact bodyPost_ret (by simp [results, Tryz.results29, go_sem, s0, s1, s2, s3, s4, s5]; try rfl) rfl ⟨rfl, hb3⟩

set_option maxHeartbeats 1000000 in
set_option maxRecDepth 100000 in
theorem refAboutTurn_any (k x y z : Int) (s : ByteArray) (w : World) (h : errA k x y z = 0) (hs : s.size ≤ 24) (hc : chkQ s.data.toList ≠ 0) :
    Calls Tryz.prog 30 #[.int .i64 k, .agg #[.int .i64 x, .int .i64 y, .int .i64 z], .string s] w fun e w' => e = .returned (.tuple #[.agg #[.string ⟨#[]⟩, .string ⟨#[]⟩, .string ⟨#[]⟩, .string ⟨#[]⟩, .string ⟨#[]⟩, .string ⟨#[]⟩], .int .i64 (chkQ s.data.toList : Nat)]) ∧ Below w.heap.size w w' := by
  have C : Hid (∀ w, Calls Tryz.prog 105 #[.int .i64 k, .agg #[.int .i64 x, .int .i64 y, .int .i64 z]] w fun E w' => E = .returned (.int .i64 (errA k x y z)) ∧ Below w.heap.size w w') := Lib.hid (refAxis_any k x y z)
  rw [h] at C
  have K : Hid (∀ w, Calls Tryz.prog 33 #[.string s] w fun e w' => e = .returned (.int .i64 (chkQ s.data.toList : Int)) ∧ Below w.heap.size w w') := Lib.hid (fun w => refQCheck_any s w (Nat.le_trans hs (by decide)))
  obtain ⟨E, hE⟩ : ∃ E, E = chkQ s.data.toList := ⟨_, rfl⟩
  rw [← hE] at K hc ⊢
  have hne : ((E : Int) == 0) = false := by rw [beq_eq_false_iff_ne]; omega
  have HB0 := Lib.hid (below_two w (.cells #[.int .i64 x, .int .i64 y, .int .i64 z] 27) (.cells #[.string ⟨#[]⟩, .string ⟨#[]⟩, .string ⟨#[]⟩, .string ⟨#[]⟩, .string ⟨#[]⟩, .string ⟨#[]⟩] 25))
  have HR0 := Lib.hid (blk_new1 w (.cells #[.int .i64 x, .int .i64 y, .int .i64 z] 27) #[.string ⟨#[]⟩, .string ⟨#[]⟩, .string ⟨#[]⟩, .string ⟨#[]⟩, .string ⟨#[]⟩, .string ⟨#[]⟩] 25)
  clear hE h hs hc
  go_enter Tryz.func30, Tryz.ntmps30
  go_wp2_with fail
  refine (C.out _).mono ?_
  rintro e w1 ⟨rfl, hb⟩
  have HB1 := Lib.hid (HB0.out.trans (hb.mono HB0.out.size)); have HR1 := Lib.hid (HR0.out.later hb)
  clear hb
  go_wp2_with fail
  refine (K.out _).mono ?_
  rintro e w2 ⟨rfl, hb⟩
  have HB2 := Lib.hid (HB1.out.trans (hb.mono HB1.out.size)); have HR2 := Lib.hid (HR1.out.later hb)
  clear hb
  have r0 := HR2.out.cell 0; have r1 := HR2.out.cell 1; have r2 := HR2.out.cell 2; have r3 := HR2.out.cell 3; have r4 := HR2.out.cell 4; have r5 := HR2.out.cell 5
  have f0 := HR2.out.free 0; have f1 := HR2.out.free 1; have f2 := HR2.out.free 2; have f3 := HR2.out.free 3; have f4 := HR2.out.free 4; have f5 := HR2.out.free 5
  go_wp2_with fail
  have hr3 := (Blk.set (Blk.set (Blk.set (Blk.set (Blk.set (Blk.set HR2.out 0 (.string ⟨#[]⟩)) 1 (.string ⟨#[]⟩)) 2 (.string ⟨#[]⟩)) 3 (.string ⟨#[]⟩)) 4 (.string ⟨#[]⟩)) 5 (.string ⟨#[]⟩))
  have hb3 := (Below.setCell (p := ⟨w.heap.size + 1, 5, none⟩) (Below.setCell (p := ⟨w.heap.size + 1, 4, none⟩) (Below.setCell (p := ⟨w.heap.size + 1, 3, none⟩) (Below.setCell (p := ⟨w.heap.size + 1, 2, none⟩) (Below.setCell (p := ⟨w.heap.size + 1, 1, none⟩) (Below.setCell (p := ⟨w.heap.size + 1, 0, none⟩) HB2.out (by show _ ≤ w.heap.size + 1; omega) (.string ⟨#[]⟩)) (by show _ ≤ w.heap.size + 1; omega) (.string ⟨#[]⟩)) (by show _ ≤ w.heap.size + 1; omega) (.string ⟨#[]⟩)) (by show _ ≤ w.heap.size + 1; omega) (.string ⟨#[]⟩)) (by show _ ≤ w.heap.size + 1; omega) (.string ⟨#[]⟩)) (by show _ ≤ w.heap.size + 1; omega) (.string ⟨#[]⟩))
  generalize ((((((w2.setCell ⟨w.heap.size + 1, 0, none⟩ (.string ⟨#[]⟩)).setCell ⟨w.heap.size + 1, 1, none⟩ (.string ⟨#[]⟩)).setCell ⟨w.heap.size + 1, 2, none⟩ (.string ⟨#[]⟩)).setCell ⟨w.heap.size + 1, 3, none⟩ (.string ⟨#[]⟩)).setCell ⟨w.heap.size + 1, 4, none⟩ (.string ⟨#[]⟩)).setCell ⟨w.heap.size + 1, 5, none⟩ (.string ⟨#[]⟩)) = W3 at hr3 hb3 ⊢
  have s0 := hr3.cell 0; have s1 := hr3.cell 1; have s2 := hr3.cell 2; have s3 := hr3.cell 3; have s4 := hr3.cell 4; have s5 := hr3.cell 5
  exact bodyPost_ret (by simp [results, Tryz.results30, go_sem, s0, s1, s2, s3, s4, s5]; try rfl) rfl ⟨rfl, hb3⟩

set_option maxHeartbeats 1000000 in
set_option maxRecDepth 100000 in
theorem aboutTurn_any (k x y z : Int) (s : ByteArray) (w : World) (hE : Env w) (h : errA k x y z = 0) (hs : s.size ≤ 24) (hc : chkQ s.data.toList ≠ 0) :
    Calls Tryz.prog 29 #[.int .i64 k, .agg #[.int .i64 x, .int .i64 y, .int .i64 z], .string s] w fun e w' => e = .returned (.tuple #[.agg #[.string ⟨#[]⟩, .string ⟨#[]⟩, .string ⟨#[]⟩, .string ⟨#[]⟩, .string ⟨#[]⟩, .string ⟨#[]⟩], .int .i64 (chkQ s.data.toList : Nat)]) ∧ Below w.heap.size w w' := by
  have C : Hid (∀ w, Calls Tryz.prog 103 #[.int .i64 k, .agg #[.int .i64 x, .int .i64 y, .int .i64 z]] w fun E w' => E = .returned (.int .i64 (errA k x y z)) ∧ Below w.heap.size w w') := Lib.hid (given_any k x y z)
  rw [h] at C
  have K : Hid (∀ g w, Env w → Blk w g #[.string s] 22 → Calls Tryz.prog 100 #[.slice (some ⟨g, 0, none⟩) 1 1] w fun e w' => e = .returned (.int .i64 (chkQ s.data.toList : Int)) ∧ Below w.heap.size w w') := Lib.hid (fun g w hE h => by
    have hz : fe (fun _ => s) 1 = chkQ s.data.toList := by rw [fe, fe]; rfl
    have := canonical_any g 1 (fun _ => s) w hE (by decide) (fun i hi => by
      rw [h.cell]
      match i, hi with
      | 0, _ => rfl) (fun _ _ => Nat.le_trans hs (by decide))
    rw [hz] at this
    exact this)
  have HE := Lib.hid hE
  clear hE
  obtain ⟨E, hE⟩ : ∃ E, E = chkQ s.data.toList := ⟨_, rfl⟩
  rw [← hE] at K hc ⊢
  have hne : ((E : Int) == 0) = false := by rw [beq_eq_false_iff_ne]; omega
  have HB0 := Lib.hid (below_two w (.cells #[.int .i64 x, .int .i64 y, .int .i64 z] 27) (.cells #[.string ⟨#[]⟩, .string ⟨#[]⟩, .string ⟨#[]⟩, .string ⟨#[]⟩, .string ⟨#[]⟩, .string ⟨#[]⟩] 25))
  have HR0 := Lib.hid (blk_new1 w (.cells #[.int .i64 x, .int .i64 y, .int .i64 z] 27) #[.string ⟨#[]⟩, .string ⟨#[]⟩, .string ⟨#[]⟩, .string ⟨#[]⟩, .string ⟨#[]⟩, .string ⟨#[]⟩] 25)
  clear hE h hs hc
  go_enter Tryz.func29, Tryz.ntmps29
  go_wp2_with fail
  refine (C.out _).mono ?_
  rintro e w1 ⟨rfl, hb⟩
  have HB1 := Lib.hid (HB0.out.trans (hb.mono HB0.out.size)); have HR1 := Lib.hid (HR0.out.later hb)
  clear hb
  go_wp2_with fail
  refine (K.out _ _ ?_ (blk_new _ _ _)).mono ?_
  · exact HE.out.below (HB1.out.alloc HB1.out.size _)
  rintro e w2 ⟨rfl, hb⟩
  have HB2 := Lib.hid ((HB1.out.alloc HB1.out.size (.cells #[.string s] 22)).trans (hb.mono (by have := HB1.out.size; simp; omega))); have HR2 := Lib.hid ((HR1.out.alloc (.cells #[.string s] 22)).later hb)
  clear hb
  have r0 := HR2.out.cell 0; have r1 := HR2.out.cell 1; have r2 := HR2.out.cell 2; have r3 := HR2.out.cell 3; have r4 := HR2.out.cell 4; have r5 := HR2.out.cell 5
  have f0 := HR2.out.free 0; have f1 := HR2.out.free 1; have f2 := HR2.out.free 2; have f3 := HR2.out.free 3; have f4 := HR2.out.free 4; have f5 := HR2.out.free 5
  go_wp2_with fail
  have hr3 := (Blk.set (Blk.set (Blk.set (Blk.set (Blk.set (Blk.set HR2.out 0 (.string ⟨#[]⟩)) 1 (.string ⟨#[]⟩)) 2 (.string ⟨#[]⟩)) 3 (.string ⟨#[]⟩)) 4 (.string ⟨#[]⟩)) 5 (.string ⟨#[]⟩))
  have hb3 := (Below.setCell (p := ⟨w.heap.size + 1, 5, none⟩) (Below.setCell (p := ⟨w.heap.size + 1, 4, none⟩) (Below.setCell (p := ⟨w.heap.size + 1, 3, none⟩) (Below.setCell (p := ⟨w.heap.size + 1, 2, none⟩) (Below.setCell (p := ⟨w.heap.size + 1, 1, none⟩) (Below.setCell (p := ⟨w.heap.size + 1, 0, none⟩) HB2.out (by show _ ≤ w.heap.size + 1; omega) (.string ⟨#[]⟩)) (by show _ ≤ w.heap.size + 1; omega) (.string ⟨#[]⟩)) (by show _ ≤ w.heap.size + 1; omega) (.string ⟨#[]⟩)) (by show _ ≤ w.heap.size + 1; omega) (.string ⟨#[]⟩)) (by show _ ≤ w.heap.size + 1; omega) (.string ⟨#[]⟩)) (by show _ ≤ w.heap.size + 1; omega) (.string ⟨#[]⟩))
  generalize ((((((w2.setCell ⟨w.heap.size + 1, 0, none⟩ (.string ⟨#[]⟩)).setCell ⟨w.heap.size + 1, 1, none⟩ (.string ⟨#[]⟩)).setCell ⟨w.heap.size + 1, 2, none⟩ (.string ⟨#[]⟩)).setCell ⟨w.heap.size + 1, 3, none⟩ (.string ⟨#[]⟩)).setCell ⟨w.heap.size + 1, 4, none⟩ (.string ⟨#[]⟩)).setCell ⟨w.heap.size + 1, 5, none⟩ (.string ⟨#[]⟩)) = W3 at hr3 hb3 ⊢
  have s0 := hr3.cell 0; have s1 := hr3.cell 1; have s2 := hr3.cell 2; have s3 := hr3.cell 3; have s4 := hr3.cell 4; have s5 := hr3.cell 5
  exact bodyPost_ret (by simp [results, Tryz.results29, go_sem, s0, s1, s2, s3, s4, s5]; try rfl) rfl ⟨rfl, hb3⟩

set_option maxHeartbeats 1000000 in
set_option maxRecDepth 100000 in
theorem refAbout0_any (x y z : Int) (q : Rat) (w : World) (hq : Dig 24 q) (hp : okP x y z = true) :
    Calls Tryz.prog 30 #[.int .i64 0, .agg #[.int .i64 x, .int .i64 y, .int .i64 z], .string (qt q)] w fun e w' => e = .returned (.tuple #[.agg #[.string (qt (around 0 x y z q 0)), .string (qt (around 0 x y z q 1)), .string (qt (around 0 x y z q 2)), .string (qt (around 0 x y z q 3)), .string (qt (around 0 x y z q 4)), .string (qt (around 0 x y z q 5))], .int .i64 0]) ∧ Below w.heap.size w w' := by
  have C := Lib.hid (refAxis_any (0 : Nat) x y z)
  rw [errA_of (by decide) hp] at C
  have K : Hid (∀ w, Calls Tryz.prog 33 #[.string (qt q)] w fun e w' => e = .returned (.int .i64 0) ∧ Below w.heap.size w w') := Lib.hid (fun w => by
    have hs : (qt q).size ≤ 90000 := Nat.le_trans (qt_size (hq.fits (by decide))) (by decide)
    have := refQCheck_any (qt q) w hs
    rw [qt_toList, chkQ_ql (hq.fits (by decide))] at this
    exact this)
  have A := Lib.hid (fun w => refAround0_any x y z q w hq hp)
  obtain ⟨ar, har⟩ : ∃ ar, ar = around 0 x y z q := ⟨_, rfl⟩
  rw [← har] at A ⊢
  have HB0 := Lib.hid (below_two w (.cells #[.int .i64 x, .int .i64 y, .int .i64 z] 27) (.cells #[.string ⟨#[]⟩, .string ⟨#[]⟩, .string ⟨#[]⟩, .string ⟨#[]⟩, .string ⟨#[]⟩, .string ⟨#[]⟩] 25))
  have HR0 := Lib.hid (blk_new1 w (.cells #[.int .i64 x, .int .i64 y, .int .i64 z] 27) #[.string ⟨#[]⟩, .string ⟨#[]⟩, .string ⟨#[]⟩, .string ⟨#[]⟩, .string ⟨#[]⟩, .string ⟨#[]⟩] 25)
  have HP0 := Lib.hid ((blk_new w #[.int .i64 x, .int .i64 y, .int .i64 z] 27).alloc (.cells #[.string ⟨#[]⟩, .string ⟨#[]⟩, .string ⟨#[]⟩, .string ⟨#[]⟩, .string ⟨#[]⟩, .string ⟨#[]⟩] 25))
  clear hq hp har
  go_enter Tryz.func30, Tryz.ntmps30
  go_wp2_with fail
  refine (C.out _).mono ?_
  rintro e w1 ⟨rfl, hb⟩
  have HB1 := Lib.hid (HB0.out.trans (hb.mono HB0.out.size)); have HR1 := Lib.hid (HR0.out.later hb); have HP1 := Lib.hid (HP0.out.later hb)
  clear hb
  go_wp2_with fail
  refine (K.out _).mono ?_
  rintro e w2 ⟨rfl, hb⟩
  have HB2 := Lib.hid (HB1.out.trans (hb.mono HB1.out.size)); have HR2 := Lib.hid (HR1.out.later hb); have HP2 := Lib.hid (HP1.out.later hb)
  clear hb
  have p0 := HP2.out.cell 0; have p1 := HP2.out.cell 1; have p2 := HP2.out.cell 2
  go_wp2_with fail
  refine (A.out _).mono ?_
  rintro e w3 ⟨rfl, hb⟩
  have HB3 := Lib.hid (HB2.out.trans (hb.mono HB2.out.size)); have HR3 := Lib.hid (HR2.out.later hb)
  clear hb p0 p1 p2
  have r0 := HR3.out.cell 0; have r1 := HR3.out.cell 1; have r2 := HR3.out.cell 2; have r3 := HR3.out.cell 3; have r4 := HR3.out.cell 4; have r5 := HR3.out.cell 5
  have f0 := HR3.out.free 0; have f1 := HR3.out.free 1; have f2 := HR3.out.free 2; have f3 := HR3.out.free 3; have f4 := HR3.out.free 4; have f5 := HR3.out.free 5
  go_wp2_with fail
  have hr3 := (Blk.set (Blk.set (Blk.set (Blk.set (Blk.set (Blk.set HR3.out 0 (.string (qt (ar 0)))) 1 (.string (qt (ar 1)))) 2 (.string (qt (ar 2)))) 3 (.string (qt (ar 3)))) 4 (.string (qt (ar 4)))) 5 (.string (qt (ar 5))))
  have hb3 := (Below.setCell (p := ⟨w.heap.size + 1, 5, none⟩) (Below.setCell (p := ⟨w.heap.size + 1, 4, none⟩) (Below.setCell (p := ⟨w.heap.size + 1, 3, none⟩) (Below.setCell (p := ⟨w.heap.size + 1, 2, none⟩) (Below.setCell (p := ⟨w.heap.size + 1, 1, none⟩) (Below.setCell (p := ⟨w.heap.size + 1, 0, none⟩) HB3.out (by show _ ≤ w.heap.size + 1; omega) (.string (qt (ar 0)))) (by show _ ≤ w.heap.size + 1; omega) (.string (qt (ar 1)))) (by show _ ≤ w.heap.size + 1; omega) (.string (qt (ar 2)))) (by show _ ≤ w.heap.size + 1; omega) (.string (qt (ar 3)))) (by show _ ≤ w.heap.size + 1; omega) (.string (qt (ar 4)))) (by show _ ≤ w.heap.size + 1; omega) (.string (qt (ar 5))))
  generalize ((((((w3.setCell ⟨w.heap.size + 1, 0, none⟩ (.string (qt (ar 0)))).setCell ⟨w.heap.size + 1, 1, none⟩ (.string (qt (ar 1)))).setCell ⟨w.heap.size + 1, 2, none⟩ (.string (qt (ar 2)))).setCell ⟨w.heap.size + 1, 3, none⟩ (.string (qt (ar 3)))).setCell ⟨w.heap.size + 1, 4, none⟩ (.string (qt (ar 4)))).setCell ⟨w.heap.size + 1, 5, none⟩ (.string (qt (ar 5)))) = W3 at hr3 hb3 ⊢
  have s0 := hr3.cell 0; have s1 := hr3.cell 1; have s2 := hr3.cell 2; have s3 := hr3.cell 3; have s4 := hr3.cell 4; have s5 := hr3.cell 5
  exact bodyPost_ret (by simp [results, Tryz.results30, go_sem, s0, s1, s2, s3, s4, s5]; try rfl) rfl ⟨rfl, hb3⟩

set_option maxHeartbeats 1000000 in
set_option maxRecDepth 100000 in
theorem refAbout1_any (x y z : Int) (q : Rat) (w : World) (hq : Dig 24 q) (hp : okP x y z = true) :
    Calls Tryz.prog 30 #[.int .i64 1, .agg #[.int .i64 x, .int .i64 y, .int .i64 z], .string (qt q)] w fun e w' => e = .returned (.tuple #[.agg #[.string (qt (around 1 x y z q 0)), .string (qt (around 1 x y z q 1)), .string (qt (around 1 x y z q 2)), .string (qt (around 1 x y z q 3)), .string (qt (around 1 x y z q 4)), .string (qt (around 1 x y z q 5))], .int .i64 0]) ∧ Below w.heap.size w w' := by
  have C := Lib.hid (refAxis_any (1 : Nat) x y z)
  rw [errA_of (by decide) hp] at C
  have K : Hid (∀ w, Calls Tryz.prog 33 #[.string (qt q)] w fun e w' => e = .returned (.int .i64 0) ∧ Below w.heap.size w w') := Lib.hid (fun w => by
    have hs : (qt q).size ≤ 90000 := Nat.le_trans (qt_size (hq.fits (by decide))) (by decide)
    have := refQCheck_any (qt q) w hs
    rw [qt_toList, chkQ_ql (hq.fits (by decide))] at this
    exact this)
  have A := Lib.hid (fun w => refAround1_any x y z q w hq hp)
  obtain ⟨ar, har⟩ : ∃ ar, ar = around 1 x y z q := ⟨_, rfl⟩
  rw [← har] at A ⊢
  have HB0 := Lib.hid (below_two w (.cells #[.int .i64 x, .int .i64 y, .int .i64 z] 27) (.cells #[.string ⟨#[]⟩, .string ⟨#[]⟩, .string ⟨#[]⟩, .string ⟨#[]⟩, .string ⟨#[]⟩, .string ⟨#[]⟩] 25))
  have HR0 := Lib.hid (blk_new1 w (.cells #[.int .i64 x, .int .i64 y, .int .i64 z] 27) #[.string ⟨#[]⟩, .string ⟨#[]⟩, .string ⟨#[]⟩, .string ⟨#[]⟩, .string ⟨#[]⟩, .string ⟨#[]⟩] 25)
  have HP0 := Lib.hid ((blk_new w #[.int .i64 x, .int .i64 y, .int .i64 z] 27).alloc (.cells #[.string ⟨#[]⟩, .string ⟨#[]⟩, .string ⟨#[]⟩, .string ⟨#[]⟩, .string ⟨#[]⟩, .string ⟨#[]⟩] 25))
  clear hq hp har
  go_enter Tryz.func30, Tryz.ntmps30
  go_wp2_with fail
  refine (C.out _).mono ?_
  rintro e w1 ⟨rfl, hb⟩
  have HB1 := Lib.hid (HB0.out.trans (hb.mono HB0.out.size)); have HR1 := Lib.hid (HR0.out.later hb); have HP1 := Lib.hid (HP0.out.later hb)
  clear hb
  go_wp2_with fail
  refine (K.out _).mono ?_
  rintro e w2 ⟨rfl, hb⟩
  have HB2 := Lib.hid (HB1.out.trans (hb.mono HB1.out.size)); have HR2 := Lib.hid (HR1.out.later hb); have HP2 := Lib.hid (HP1.out.later hb)
  clear hb
  have p0 := HP2.out.cell 0; have p1 := HP2.out.cell 1; have p2 := HP2.out.cell 2
  go_wp2_with fail
  refine (A.out _).mono ?_
  rintro e w3 ⟨rfl, hb⟩
  have HB3 := Lib.hid (HB2.out.trans (hb.mono HB2.out.size)); have HR3 := Lib.hid (HR2.out.later hb)
  clear hb p0 p1 p2
  have r0 := HR3.out.cell 0; have r1 := HR3.out.cell 1; have r2 := HR3.out.cell 2; have r3 := HR3.out.cell 3; have r4 := HR3.out.cell 4; have r5 := HR3.out.cell 5
  have f0 := HR3.out.free 0; have f1 := HR3.out.free 1; have f2 := HR3.out.free 2; have f3 := HR3.out.free 3; have f4 := HR3.out.free 4; have f5 := HR3.out.free 5
  go_wp2_with fail
  have hr3 := (Blk.set (Blk.set (Blk.set (Blk.set (Blk.set (Blk.set HR3.out 0 (.string (qt (ar 0)))) 1 (.string (qt (ar 1)))) 2 (.string (qt (ar 2)))) 3 (.string (qt (ar 3)))) 4 (.string (qt (ar 4)))) 5 (.string (qt (ar 5))))
  have hb3 := (Below.setCell (p := ⟨w.heap.size + 1, 5, none⟩) (Below.setCell (p := ⟨w.heap.size + 1, 4, none⟩) (Below.setCell (p := ⟨w.heap.size + 1, 3, none⟩) (Below.setCell (p := ⟨w.heap.size + 1, 2, none⟩) (Below.setCell (p := ⟨w.heap.size + 1, 1, none⟩) (Below.setCell (p := ⟨w.heap.size + 1, 0, none⟩) HB3.out (by show _ ≤ w.heap.size + 1; omega) (.string (qt (ar 0)))) (by show _ ≤ w.heap.size + 1; omega) (.string (qt (ar 1)))) (by show _ ≤ w.heap.size + 1; omega) (.string (qt (ar 2)))) (by show _ ≤ w.heap.size + 1; omega) (.string (qt (ar 3)))) (by show _ ≤ w.heap.size + 1; omega) (.string (qt (ar 4)))) (by show _ ≤ w.heap.size + 1; omega) (.string (qt (ar 5))))
  generalize ((((((w3.setCell ⟨w.heap.size + 1, 0, none⟩ (.string (qt (ar 0)))).setCell ⟨w.heap.size + 1, 1, none⟩ (.string (qt (ar 1)))).setCell ⟨w.heap.size + 1, 2, none⟩ (.string (qt (ar 2)))).setCell ⟨w.heap.size + 1, 3, none⟩ (.string (qt (ar 3)))).setCell ⟨w.heap.size + 1, 4, none⟩ (.string (qt (ar 4)))).setCell ⟨w.heap.size + 1, 5, none⟩ (.string (qt (ar 5)))) = W3 at hr3 hb3 ⊢
  have s0 := hr3.cell 0; have s1 := hr3.cell 1; have s2 := hr3.cell 2; have s3 := hr3.cell 3; have s4 := hr3.cell 4; have s5 := hr3.cell 5
  exact bodyPost_ret (by simp [results, Tryz.results30, go_sem, s0, s1, s2, s3, s4, s5]; try rfl) rfl ⟨rfl, hb3⟩

set_option maxHeartbeats 1000000 in
set_option maxRecDepth 100000 in
theorem refAbout2_any (x y z : Int) (q : Rat) (w : World) (hq : Dig 24 q) (hp : okP x y z = true) :
    Calls Tryz.prog 30 #[.int .i64 2, .agg #[.int .i64 x, .int .i64 y, .int .i64 z], .string (qt q)] w fun e w' => e = .returned (.tuple #[.agg #[.string (qt (around 2 x y z q 0)), .string (qt (around 2 x y z q 1)), .string (qt (around 2 x y z q 2)), .string (qt (around 2 x y z q 3)), .string (qt (around 2 x y z q 4)), .string (qt (around 2 x y z q 5))], .int .i64 0]) ∧ Below w.heap.size w w' := by
  have C := Lib.hid (refAxis_any (2 : Nat) x y z)
  rw [errA_of (by decide) hp] at C
  have K : Hid (∀ w, Calls Tryz.prog 33 #[.string (qt q)] w fun e w' => e = .returned (.int .i64 0) ∧ Below w.heap.size w w') := Lib.hid (fun w => by
    have hs : (qt q).size ≤ 90000 := Nat.le_trans (qt_size (hq.fits (by decide))) (by decide)
    have := refQCheck_any (qt q) w hs
    rw [qt_toList, chkQ_ql (hq.fits (by decide))] at this
    exact this)
  have A := Lib.hid (fun w => refAround2_any x y z q w hq hp)
  obtain ⟨ar, har⟩ : ∃ ar, ar = around 2 x y z q := ⟨_, rfl⟩
  rw [← har] at A ⊢
  have HB0 := Lib.hid (below_two w (.cells #[.int .i64 x, .int .i64 y, .int .i64 z] 27) (.cells #[.string ⟨#[]⟩, .string ⟨#[]⟩, .string ⟨#[]⟩, .string ⟨#[]⟩, .string ⟨#[]⟩, .string ⟨#[]⟩] 25))
  have HR0 := Lib.hid (blk_new1 w (.cells #[.int .i64 x, .int .i64 y, .int .i64 z] 27) #[.string ⟨#[]⟩, .string ⟨#[]⟩, .string ⟨#[]⟩, .string ⟨#[]⟩, .string ⟨#[]⟩, .string ⟨#[]⟩] 25)
  have HP0 := Lib.hid ((blk_new w #[.int .i64 x, .int .i64 y, .int .i64 z] 27).alloc (.cells #[.string ⟨#[]⟩, .string ⟨#[]⟩, .string ⟨#[]⟩, .string ⟨#[]⟩, .string ⟨#[]⟩, .string ⟨#[]⟩] 25))
  clear hq hp har
  go_enter Tryz.func30, Tryz.ntmps30
  go_wp2_with fail
  refine (C.out _).mono ?_
  rintro e w1 ⟨rfl, hb⟩
  have HB1 := Lib.hid (HB0.out.trans (hb.mono HB0.out.size)); have HR1 := Lib.hid (HR0.out.later hb); have HP1 := Lib.hid (HP0.out.later hb)
  clear hb
  go_wp2_with fail
  refine (K.out _).mono ?_
  rintro e w2 ⟨rfl, hb⟩
  have HB2 := Lib.hid (HB1.out.trans (hb.mono HB1.out.size)); have HR2 := Lib.hid (HR1.out.later hb); have HP2 := Lib.hid (HP1.out.later hb)
  clear hb
  have p0 := HP2.out.cell 0; have p1 := HP2.out.cell 1; have p2 := HP2.out.cell 2
  go_wp2_with fail
  refine (A.out _).mono ?_
  rintro e w3 ⟨rfl, hb⟩
  have HB3 := Lib.hid (HB2.out.trans (hb.mono HB2.out.size)); have HR3 := Lib.hid (HR2.out.later hb)
  clear hb p0 p1 p2
  have r0 := HR3.out.cell 0; have r1 := HR3.out.cell 1; have r2 := HR3.out.cell 2; have r3 := HR3.out.cell 3; have r4 := HR3.out.cell 4; have r5 := HR3.out.cell 5
  have f0 := HR3.out.free 0; have f1 := HR3.out.free 1; have f2 := HR3.out.free 2; have f3 := HR3.out.free 3; have f4 := HR3.out.free 4; have f5 := HR3.out.free 5
  go_wp2_with fail
  have hr3 := (Blk.set (Blk.set (Blk.set (Blk.set (Blk.set (Blk.set HR3.out 0 (.string (qt (ar 0)))) 1 (.string (qt (ar 1)))) 2 (.string (qt (ar 2)))) 3 (.string (qt (ar 3)))) 4 (.string (qt (ar 4)))) 5 (.string (qt (ar 5))))
  have hb3 := (Below.setCell (p := ⟨w.heap.size + 1, 5, none⟩) (Below.setCell (p := ⟨w.heap.size + 1, 4, none⟩) (Below.setCell (p := ⟨w.heap.size + 1, 3, none⟩) (Below.setCell (p := ⟨w.heap.size + 1, 2, none⟩) (Below.setCell (p := ⟨w.heap.size + 1, 1, none⟩) (Below.setCell (p := ⟨w.heap.size + 1, 0, none⟩) HB3.out (by show _ ≤ w.heap.size + 1; omega) (.string (qt (ar 0)))) (by show _ ≤ w.heap.size + 1; omega) (.string (qt (ar 1)))) (by show _ ≤ w.heap.size + 1; omega) (.string (qt (ar 2)))) (by show _ ≤ w.heap.size + 1; omega) (.string (qt (ar 3)))) (by show _ ≤ w.heap.size + 1; omega) (.string (qt (ar 4)))) (by show _ ≤ w.heap.size + 1; omega) (.string (qt (ar 5))))
  generalize ((((((w3.setCell ⟨w.heap.size + 1, 0, none⟩ (.string (qt (ar 0)))).setCell ⟨w.heap.size + 1, 1, none⟩ (.string (qt (ar 1)))).setCell ⟨w.heap.size + 1, 2, none⟩ (.string (qt (ar 2)))).setCell ⟨w.heap.size + 1, 3, none⟩ (.string (qt (ar 3)))).setCell ⟨w.heap.size + 1, 4, none⟩ (.string (qt (ar 4)))).setCell ⟨w.heap.size + 1, 5, none⟩ (.string (qt (ar 5)))) = W3 at hr3 hb3 ⊢
  have s0 := hr3.cell 0; have s1 := hr3.cell 1; have s2 := hr3.cell 2; have s3 := hr3.cell 3; have s4 := hr3.cell 4; have s5 := hr3.cell 5
  exact bodyPost_ret (by simp [results, Tryz.results30, go_sem, s0, s1, s2, s3, s4, s5]; try rfl) rfl ⟨rfl, hb3⟩

end Go.Proofs.YtbpegjgpdgeadaaGreatDoor
namespace Go.Proofs.YtbpegjgpdgeadaaGreatDoor
open Go Go.RowKit Metro
open Go.Lib (nDigits decDigits)

set_option maxRecDepth 100000 in
theorem eq23_at (d : Nat) (a b c : ByteArray) (w : World) : (Op.equalIn (d + 2) 23 (.agg #[.string a, .string b, .string c]) (.agg #[.string a, .string b, .string c])).run Tryz.prog w = .ok true w := by
  obtain ⟨i, hi, _, _, _⟩ := info_parts (show (Tryz.prog.info? 22).map (fun i => (i.zero, i.size, i.bytes)) = _ from info22)
  have hc : Tryz.prog.cellsOf 22 = 1 := by kernel_rfl
  rw [run_equalIn_array w (d + 1) _ _ Tryz.underlying23 hi, hc]
  have p0 : ∀ w, (Go.part 22 #[.string a, .string b, .string c] 0).run Tryz.prog w = .ok (.string a) w := fun _ => by kernel_rfl
  have p1 : ∀ w, (Go.part 22 #[.string a, .string b, .string c] 1).run Tryz.prog w = .ok (.string b) w := fun _ => by kernel_rfl
  have p2 : ∀ w, (Go.part 22 #[.string a, .string b, .string c] 2).run Tryz.prog w = .ok (.string c) w := fun _ => by kernel_rfl
  have es : ∀ (s : ByteArray) w, (Op.equalIn (d + 1) 22 (.string s) (.string s)).run Tryz.prog w = .ok true w := fun s w => by
    rw [run_equalIn_string (w := w) d 22 s s Tryz.underlying22]; simp
  rw [show List.range 3 = [0, 1, 2] from rfl]
  simp [Op.eqItems, Sem.run_bind, p0, p1, p2, es, Result.andThen_ok]

set_option maxRecDepth 100000 in
theorem eq25_same (a b c d e f : ByteArray) (w : World) : (Op.equalIn 10000 25 (.agg #[.string a, .string b, .string c, .string d, .string e, .string f]) (.agg #[.string a, .string b, .string c, .string d, .string e, .string f])).run Tryz.prog w = .ok true w := by
  have hf : (Tryz.prog.fieldsOf 25).toList.map (fun f => (f.name, f.type, f.offset)) = [("T", 23, 0), ("W", 23, 3)] := by kernel_rfl
  rw [run_equalIn_struct w 9999 25 _ _ (by kernel_rfl) (by kernel_rfl)]
  match (Tryz.prog.fieldsOf 25).toList, hf with
  | [], hf => simp at hf
  | [_], hf => simp at hf
  | _ :: _ :: _ :: _, hf => simp at hf
  | [x, y], hf =>
    simp only [List.map_cons, List.map_nil, List.cons.injEq, Prod.mk.injEq, and_true] at hf
    obtain ⟨⟨n1, t1, o1⟩, n2, t2, o2⟩ := hf
    have p0 : ∀ w, (Go.part 23 #[.string a, .string b, .string c, .string d, .string e, .string f] 0).run Tryz.prog w = .ok (.agg #[.string a, .string b, .string c]) w := fun _ => by kernel_rfl
    have p1 : ∀ w, (Go.part 23 #[.string a, .string b, .string c, .string d, .string e, .string f] 3).run Tryz.prog w = .ok (.agg #[.string d, .string e, .string f]) w := fun _ => by kernel_rfl
    have q1 : ∀ (a b c : ByteArray) w, (Op.equalIn 9999 23 (.agg #[.string a, .string b, .string c]) (.agg #[.string a, .string b, .string c])).run Tryz.prog w = .ok true w := fun a b c w => eq23_at 9997 a b c w
    simp [Op.eqFields, n1, n2, t1, t2, o1, o2, Sem.run_bind, p0, p1, q1, Result.andThen_ok]

set_option maxHeartbeats 1000000 in
set_option maxRecDepth 100000 in
theorem equalNil_any (w : World) : Calls Tryz.prog 31 #[.slice none 0 0, .slice none 0 0] w fun e w' => e = .returned (.bool true) ∧ Below w.heap.size w w' := by
  go_enter Tryz.func31, Tryz.ntmps31
  go_wp2_with fail
  go_loopg [5, 13] 0 (fun d _ i wr => i = .int .i64 0 ∧ d = 0 ∧ wr = w)
  case atStart => exact ⟨rfl, rfl, rfl⟩
  case round =>
    obtain ⟨rfl, rfl, rfl⟩ := hrel
    go_wp2_with fail
    go_ret
    exact ⟨rfl, Below.refl _ _⟩

/-- Two lists that are read alike are equal. -/
theorem equalOwn_any {n ga gb ca cb : Nat} {ss : Nat → ByteArray} {w : World} (hn : n ≤ 100000) (ha : TextsAt w ga ss n) (hb : TextsAt w gb ss n) :
    Calls Tryz.prog 31 #[.slice (some ⟨ga, 0, none⟩) n ca, .slice (some ⟨gb, 0, none⟩) n cb] w fun e w' => e = .returned (.bool true) ∧ Below w.heap.size w w' := by
  refine (equal_any n ca cb ga gb ss ss w hn ha hb).mono ?_
  rintro e w' ⟨⟨b, hb, rfl⟩, h⟩
  exact ⟨by rw [hb.2 fun _ _ => rfl], h⟩

/-- What About gives, the program's and the reference's. -/
def AboutBoth (k x y z : Int) (s : ByteArray) (a : Nat → ByteArray) (E : Int) : Prop :=
  (∀ w, Env w → Calls Tryz.prog 29 #[.int .i64 k, .agg #[.int .i64 x, .int .i64 y, .int .i64 z], .string s] w fun e w' => e = .returned (.tuple #[.agg #[.string (a 0), .string (a 1), .string (a 2), .string (a 3), .string (a 4), .string (a 5)], .int .i64 E]) ∧ Below w.heap.size w w') ∧
  (∀ w, Calls Tryz.prog 30 #[.int .i64 k, .agg #[.int .i64 x, .int .i64 y, .int .i64 z], .string s] w fun e w' => e = .returned (.tuple #[.agg #[.string (a 0), .string (a 1), .string (a 2), .string (a 3), .string (a 4), .string (a 5)], .int .i64 E]) ∧ Below w.heap.size w w')

theorem aboutBoth (k x y z : Int) (s : ByteArray) (hs : s.size ≤ 24) : ∃ a E, AboutBoth k x y z s a E := by
  by_cases h : errA k x y z = 0
  · by_cases hc : chkQ s.data.toList = 0
    · obtain ⟨q, rfl, hq⟩ := short_num hc hs
      obtain ⟨h0, h3, hp⟩ := errA_ok h
      have : k = 0 ∨ k = 1 ∨ k = 2 := by omega
      rcases this with rfl | rfl | rfl
      · exact ⟨fun i => qt (around 0 x y z q i), 0, fun w hE => about0_any x y z q w hE hq hp, fun w => refAbout0_any x y z q w hq hp⟩
      · exact ⟨fun i => qt (around 1 x y z q i), 0, fun w hE => about1_any x y z q w hE hq hp, fun w => refAbout1_any x y z q w hq hp⟩
      · exact ⟨fun i => qt (around 2 x y z q i), 0, fun w hE => about2_any x y z q w hE hq hp, fun w => refAbout2_any x y z q w hq hp⟩
    · exact ⟨fun _ => ⟨#[]⟩, _, fun w hE => aboutTurn_any k x y z s w hE h hs hc, fun w => refAboutTurn_any k x y z s w h hs hc⟩
  · exact ⟨fun _ => ⟨#[]⟩, _, fun w _ => aboutAx_any k x y z s w h, fun w => refAboutAx_any k x y z s w h⟩

end Go.Proofs.YtbpegjgpdgeadaaGreatDoor
