/- A part of the proof: TorC. Conditions: none. -/
import Derived.Test.YtbpegjgpdgeadaaGreatDoorTorB
namespace Go.Proofs.YtbpegjgpdgeadaaGreatDoor
open Go Go.RowKit Metro
open Go.Lib (nDigits decDigits)

set_option maxHeartbeats 600000 in
theorem refIn_any (x : Int) (w : World) :
    Calls Tryz.prog 109 #[.int .i64 x] w fun E w' => E = .returned (.bool (inC x)) ∧ w' = w := by
  by_cases h1 : -100000 ≤ x
  · by_cases h2 : x ≤ 100000
    · have H : Hid (inC x = true) := Lib.hid (by simp [inC, h1, h2])
      go_enter Tryz.func109, Tryz.ntmps109
      go_wp2
      go_ret
      exact ⟨by rw [H.out]; rfl, rfl⟩
    · have H : Hid (inC x = false) := Lib.hid (by simp [inC]; omega)
      go_enter Tryz.func109, Tryz.ntmps109
      go_wp2
      go_ret
      exact ⟨by rw [H.out]; rfl, rfl⟩
  · have H : Hid (inC x = false) := Lib.hid (by simp [inC]; omega)
    go_enter Tryz.func109, Tryz.ntmps109
    go_wp2
    go_ret
    exact ⟨by rw [H.out]; rfl, rfl⟩

set_option maxHeartbeats 600000 in
set_option maxRecDepth 100000 in
theorem rightSpot_any (x y z : Int) (w : World) :
    Calls Tryz.prog 32 #[.agg #[.int .i64 x, .int .i64 y, .int .i64 z]] w fun E w' => E = .returned (.bool (okP x y z)) ∧ Below w.heap.size w w' := by
  have C := Lib.hid refIn_any
  obtain ⟨a, ha⟩ : ∃ a, a = inC x := ⟨_, rfl⟩
  obtain ⟨b, hb⟩ : ∃ b, b = inC y := ⟨_, rfl⟩
  obtain ⟨c, hc⟩ : ∃ c, c = inC z := ⟨_, rfl⟩
  have H : Hid (okP x y z = (a && b && c)) := Lib.hid (by rw [ha, hb, hc]; rfl)
  have CA := Lib.hid (fun w => refIn_any x w)
  have CB := Lib.hid (fun w => refIn_any y w)
  have CC := Lib.hid (fun w => refIn_any z w)
  rw [← ha] at CA
  rw [← hb] at CB
  rw [← hc] at CC
  clear ha hb hc C
  cases a with
  | false =>
    go_enter Tryz.func32, Tryz.ntmps32
    go_wp2_with fail
    refine (CA.out _).mono ?_
    rintro e w1 ⟨rfl, rfl⟩
    go_wp2_with fail
    go_ret
    exact ⟨by rw [H.out]; rfl, below_one _ _⟩
  | true =>
    cases b with
    | false =>
      go_enter Tryz.func32, Tryz.ntmps32
      go_wp2_with fail
      refine (CA.out _).mono ?_
      rintro e w1 ⟨rfl, rfl⟩
      go_wp2_with fail
      refine (CB.out _).mono ?_
      rintro e w1 ⟨rfl, rfl⟩
      go_wp2_with fail
      go_ret
      exact ⟨by rw [H.out]; rfl, below_one _ _⟩
    | true =>
      go_enter Tryz.func32, Tryz.ntmps32
      go_wp2_with fail
      refine (CA.out _).mono ?_
      rintro e w1 ⟨rfl, rfl⟩
      go_wp2_with fail
      refine (CB.out _).mono ?_
      rintro e w1 ⟨rfl, rfl⟩
      go_wp2_with fail
      refine (CC.out _).mono ?_
      rintro e w1 ⟨rfl, rfl⟩
      go_wp2_with fail
      go_ret
      exact ⟨by rw [H.out]; rfl, below_one _ _⟩
set_option maxHeartbeats 1000000 in
set_option maxRecDepth 100000 in
theorem coordinate_any (k : Nat) (hk : k < 3) (x y z : Int) (w : World) :
    Calls Tryz.prog 182 #[.int .i64 (k : Nat), .agg #[.int .i64 x, .int .i64 y, .int .i64 z]] w fun E w' => E = .returned (.int .i64 (crd x y z k)) ∧ Below w.heap.size w w' := by
  have hk' : k = 0 ∨ k = 1 ∨ k = 2 := by omega
  obtain ⟨i0, i1, i2⟩ := ix56 (.int .i64 x) (.int .i64 y) (.int .i64 z)
  rcases hk' with rfl | rfl | rfl
  all_goals
    go_enter Tryz.func182, Tryz.ntmps182
    go_wp2
    go_ret
    exact ⟨rfl, below_one _ _⟩

theorem qt_one49 : qt 1 = ⟨#[49]⟩ := by
  have : qt ((1 : Int) : Rat) = zt 1 := qt_int 1
  rw [zt_one] at this
  exact this

set_option maxHeartbeats 1000000 in
set_option maxRecDepth 100000 in
/-- The sum of the products of n numbers. -/
theorem dot_any (n ka kb ga gb : Nat) (us bs : Nat → Rat) (w : World) (hn : n ≤ 100) (ha : TextsAt w ga (fun i => qt (us i)) n) (hb : TextsAt w gb (fun i => qt (bs i)) n) (da : ∀ i, i < n → Dig ka (us i)) (db : ∀ i, i < n → Dig kb (bs i)) (hd : 1 + (ka + kb + 1) * n ≤ 4000) :
    Calls Tryz.prog 151 #[.slice (some ⟨ga, 0, none⟩) n n, .slice (some ⟨gb, 0, none⟩) n n] w fun E w' => E = .returned (.string (qt (rsum n fun i => us i * bs i))) ∧ Below w.heap.size w w' := by
  have hsum : ∀ k, k ≤ n → Dig (1 + (ka + kb + 1) * k) (rsum k fun i => us i * bs i) := by
    intro k
    induction k with
    | zero => intro _; rw [rsum_zero]; exact dig_zero _ (by omega)
    | succ k ih =>
      intro hk
      rw [rsum_succ]
      refine ((ih (by omega)).add ((da k (by omega)).mul (db k (by omega)))).mono ?_
      rw [Nat.mul_succ]; omega
  have hle : ∀ k, k < n → (ka + kb + 1) * k + (ka + kb + 1) ≤ (ka + kb + 1) * n := fun k hk => by
    rw [← Nat.mul_succ]; exact Nat.mul_le_mul_left _ hk
  have CT : Hid (∀ k, k < n → ∀ w, Calls Tryz.prog 38 #[.string (qt (us k)), .string (qt (bs k))] w fun e w' => e = .returned (.string (qt (us k * bs k))) ∧ Below w.heap.size w w') := Lib.hid (fun k hk w => by
    have := hle k hk
    exact refQTimes_any _ _ w ((da k hk).mono (by omega)) ((db k hk).mono (by omega)))
  have CP : Hid (∀ k, k < n → ∀ w, Calls Tryz.prog 37 #[.string (qt (rsum k fun i => us i * bs i)), .string (qt (us k * bs k))] w fun e w' => e = .returned (.string (qt (rsum (k + 1) fun i => us i * bs i))) ∧ Below w.heap.size w w') := Lib.hid (fun k hk w => by
    have := hle k hk
    rw [rsum_succ]
    exact refQPlus_any _ _ w ((hsum k (by omega)).mono (by omega)) (((da k hk).mul (db k hk)).mono (by omega)))
  have HA := Lib.hid ha; have HB := Lib.hid hb
  have H0 : Hid (rsum 0 (fun i => us i * bs i) = 0) := Lib.hid (rsum_zero _)
  clear ha hb da db hd hsum hle
  generalize hF : (fun k => rsum k fun i => us i * bs i) = F at *
  have HF : Hid (∀ k, rsum k (fun i => us i * bs i) = F k) := Lib.hid fun k => congrFun hF k
  have CP' : Hid (∀ k, k < n → ∀ w, Calls Tryz.prog 37 #[.string (qt (F k)), .string (qt (us k * bs k))] w fun e w' => e = .returned (.string (qt (F (k + 1)))) ∧ Below w.heap.size w w') := Lib.hid (by
    intro k hk w
    have := CP.out k hk w
    rw [HF.out, HF.out] at this
    exact this)
  rw [HF.out]
  rw [HF.out] at H0
  clear hF CP
  go_enter Tryz.func151, Tryz.ntmps151
  go_wp2_with fail
  go_loopg [5, 6] n (fun d s i wr => ∃ k : Nat, i = .int .i64 k ∧ s = .string (qt (F k)) ∧ k ≤ n ∧ d = n - k ∧ Below w.heap.size w wr)
  case atStart => exact ⟨0, rfl, by rw [H0.out, qt_zero48], Nat.zero_le _, rfl, Below.refl _ _⟩
  case round =>
    obtain ⟨k, rfl, rfl, hk, rfl, hbw⟩ := hrel
    by_cases hlt : k < n
    · have c1 := HA.out k hlt
      have c2 := HB.out k hlt
      have l1 := World.block_lt_of_cell? w _ c1
      have l2 := World.block_lt_of_cell? w _ c2
      have d1 := (hbw.cell (p := ⟨ga, k, none⟩) l1).trans c1
      have d2 := (hbw.cell (p := ⟨gb, k, none⟩) l2).trans c2
      have HBw := Lib.hid hbw
      have C1 := Lib.hid c1; have C2 := Lib.hid c2; have L1 := Lib.hid l1; have L2 := Lib.hid l2
      clear hbw c1 c2 l1 l2
      go_wp2_with fail
      go_region_held3 (fun w' => w'.cell? ⟨ga, k, none⟩ = some (.string (qt (us k))) ∧ w'.cell? ⟨gb, k, none⟩ = some (.string (qt (bs k))))
        (first | go_keep | exact ⟨d1, d2⟩ | exact ⟨e1, e2⟩ | exact ⟨f1, f2⟩)
        (first
          | (go_at_call 38; refine (CT.out k hlt _).mono ?_; rintro e w2 ⟨rfl, hb2⟩; have HB2 := Lib.hid (HBw.out.drew.trans (hb2.mono HBw.out.drew.size)); have e1 := (HB2.out.cell (p := ⟨ga, k, none⟩) L1.out).trans C1.out; have e2 := (HB2.out.cell (p := ⟨gb, k, none⟩) L2.out).trans C2.out; clear hb2)
          | (go_at_call 37; refine (CP'.out k hlt _).mono ?_; rintro e w3 ⟨rfl, hb3⟩; have HB3 := Lib.hid (HB2.out.trans (hb3.mono HB2.out.size)); have f1 := (HB3.out.cell (p := ⟨ga, k, none⟩) L1.out).trans C1.out; have f2 := (HB3.out.cell (p := ⟨gb, k, none⟩) L2.out).trans C2.out; clear hb3))
      all_goals
        go_wp2_with fail
        go_roundg (n - (k + 1))
        case measure => omega
        case rel => exact ⟨k + 1, by go_num, rfl, by omega, rfl, HB3.out⟩
    · have hkn : k = n := by omega
      subst hkn
      have HBw := Lib.hid hbw
      clear hbw
      go_wp2_with fail
      go_ret
      exact ⟨rfl, HBw.out⟩
end Go.Proofs.YtbpegjgpdgeadaaGreatDoor
namespace Go.Proofs.YtbpegjgpdgeadaaGreatDoor
open Go Go.RowKit Metro
open Go.Lib (nDigits decDigits)

theorem qt_neg_int (n : Int) : qt ((-n : Int) : Rat) = qt (-(n : Rat)) := by rw [Rat.intCast_neg]
theorem dig_coord {n : Int} (h : -100000 ≤ n ∧ n ≤ 100000) : Dig 6 (n : Rat) := dig_int _ (by decide) (by omega)

set_option maxHeartbeats 1000000 in
set_option maxRecDepth 100000 in
/-- The coefficients as texts. -/
theorem refRow_any (k : Nat) (hk : k < 3) (x y z : Int) (w : World) (hp : okP x y z = true) :
    Calls Tryz.prog 106 #[.int .i64 (k : Nat), .agg #[.int .i64 x, .int .i64 y, .int .i64 z]] w fun E w' => ∃ g, E = .returned (.slice (some ⟨g, 0, none⟩) 6 6) ∧ w.heap.size ≤ g ∧ g < w'.heap.size ∧ TextsAt w' g (fun i => qt (frm x y z k i : Rat)) 6 ∧ Below w.heap.size w w' := by
  have hpp := okP_parts hp
  have C : Hid (∀ (n : Int) (w : World), (-100000 ≤ n ∧ n ≤ 100000) → Calls Tryz.prog 34 #[.int .i64 n] w fun e w' => e = .returned (.string (qt (n : Rat))) ∧ Below w.heap.size w w') := Lib.hid (fun n w h => refQWhole_any n w (by omega) (by omega))
  have TU : Hid (∀ (n : Int) (w : World), (-100000 ≤ n ∧ n ≤ 100000) → Calls Tryz.prog 178 #[.string (qt (n : Rat))] w fun e w' => e = .returned (.string (qt ((-n : Int) : Rat))) ∧ Below w.heap.size w w') := Lib.hid (fun n w h => by
    rw [qt_neg_int]
    exact refQTurned_any _ w ((dig_coord h).mono (by decide)))
  have HX := Lib.hid hpp.1; have HY := Lib.hid hpp.2.1; have HZ := Lib.hid hpp.2.2
  have Q0 := Lib.hid qt_zero48; have Q1 := Lib.hid qt_one49
  clear hpp hp
  have hk' : k = 0 ∨ k = 1 ∨ k = 2 := by omega
  have HP0 := Lib.hid (blk_new w #[.int .i64 x, .int .i64 y, .int .i64 z] 27)
  have HB0 := Lib.hid (below_one w (.cells #[.int .i64 x, .int .i64 y, .int .i64 z] 27))
  rcases hk' with rfl | rfl | rfl
  · go_enter Tryz.func106, Tryz.ntmps106
    have p0 := HP0.out.cell 0; have p1 := HP0.out.cell 1; have p2 := HP0.out.cell 2
    go_wp2_with fail
    go_region_held3 (fun w' => w'.cell? ⟨w.heap.size, 0, none⟩ = some (.int .i64 x) ∧ w'.cell? ⟨w.heap.size, 1, none⟩ = some (.int .i64 y) ∧ w'.cell? ⟨w.heap.size, 2, none⟩ = some (.int .i64 z))
      (first | go_keep | exact ⟨p0, p1, p2⟩ | exact ⟨ap0, ap1, ap2⟩ | exact ⟨bp0, bp1, bp2⟩ | exact ⟨cp0, cp1, cp2⟩)
      (first
        | (go_at_call 34; refine (C.out _ _ (by first | exact HX.out | exact HY.out | exact HZ.out)).mono ?_; rintro e wn ⟨rfl, hbn⟩; first
          | (have HBc := Lib.hid (HBb.out.trans (hbn.mono HBb.out.size)); have HPc := Lib.hid (HPb.out.later hbn); have cp0 := HPc.out.cell 0; have cp1 := HPc.out.cell 1; have cp2 := HPc.out.cell 2; clear hbn)
          | (have HBb := Lib.hid (HBa.out.trans (hbn.mono HBa.out.size)); have HPb := Lib.hid (HPa.out.later hbn); have bp0 := HPb.out.cell 0; have bp1 := HPb.out.cell 1; have bp2 := HPb.out.cell 2; clear hbn)
          | (have HBa := Lib.hid (HB0.out.drew.trans (hbn.mono HB0.out.drew.size)); have HPa := Lib.hid (Blk.later HP0.out.drew hbn); have ap0 := HPa.out.cell 0; have ap1 := HPa.out.cell 1; have ap2 := HPa.out.cell 2; clear hbn)))
    all_goals
      go_wp2_with fail
      refine (TU.out _ _ HY.out).mono ?_
      rintro e wt ⟨rfl, hbt⟩
      have HBt := Lib.hid (HBc.out.trans (hbt.mono HBc.out.size))
      clear hbt
      go_wp2_with fail
      go_ret
      refine ⟨wt.heap.size, rfl, HBt.out.size, by simp, ?_, HBt.out.alloc HBt.out.size _⟩
      have hb := blk_new wt
      have e0 := Q0.out; have e1 := Q1.out
      intro i hi
      rw [Blk.cell (hb _ _)]
      match i, hi with
      | 0, _ => first | (show some (Value.string ⟨#[49]⟩) = some (.string (qt 1)); rw [e1]) | (show some (Value.string ⟨#[48]⟩) = some (.string (qt 0)); rw [e0])
      | 1, _ => first | (show some (Value.string ⟨#[49]⟩) = some (.string (qt 1)); rw [e1]) | (show some (Value.string ⟨#[48]⟩) = some (.string (qt 0)); rw [e0])
      | 2, _ => first | (show some (Value.string ⟨#[49]⟩) = some (.string (qt 1)); rw [e1]) | (show some (Value.string ⟨#[48]⟩) = some (.string (qt 0)); rw [e0])
      | 3, _ => first | rfl | (show some (Value.string ⟨#[48]⟩) = some (.string (qt 0)); rw [e0])
      | 4, _ => first | rfl | (show some (Value.string ⟨#[48]⟩) = some (.string (qt 0)); rw [e0])
      | 5, _ => first | rfl | (show some (Value.string ⟨#[48]⟩) = some (.string (qt 0)); rw [e0])
  · go_enter Tryz.func106, Tryz.ntmps106
    have p0 := HP0.out.cell 0; have p1 := HP0.out.cell 1; have p2 := HP0.out.cell 2
    go_wp2_with fail
    go_region_held3 (fun w' => w'.cell? ⟨w.heap.size, 0, none⟩ = some (.int .i64 x) ∧ w'.cell? ⟨w.heap.size, 1, none⟩ = some (.int .i64 y) ∧ w'.cell? ⟨w.heap.size, 2, none⟩ = some (.int .i64 z))
      (first | go_keep | exact ⟨p0, p1, p2⟩ | exact ⟨ap0, ap1, ap2⟩ | exact ⟨bp0, bp1, bp2⟩ | exact ⟨cp0, cp1, cp2⟩)
      (first
        | (go_at_call 34; refine (C.out _ _ (by first | exact HX.out | exact HY.out | exact HZ.out)).mono ?_; rintro e wn ⟨rfl, hbn⟩; first
          | (have HBc := Lib.hid (HBb.out.trans (hbn.mono HBb.out.size)); have HPc := Lib.hid (HPb.out.later hbn); have cp0 := HPc.out.cell 0; have cp1 := HPc.out.cell 1; have cp2 := HPc.out.cell 2; clear hbn)
          | (have HBb := Lib.hid (HBa.out.trans (hbn.mono HBa.out.size)); have HPb := Lib.hid (HPa.out.later hbn); have bp0 := HPb.out.cell 0; have bp1 := HPb.out.cell 1; have bp2 := HPb.out.cell 2; clear hbn)
          | (have HBa := Lib.hid (HB0.out.drew.trans (hbn.mono HB0.out.drew.size)); have HPa := Lib.hid (Blk.later HP0.out.drew hbn); have ap0 := HPa.out.cell 0; have ap1 := HPa.out.cell 1; have ap2 := HPa.out.cell 2; clear hbn)))
    all_goals
      go_wp2_with fail
      refine (TU.out _ _ HZ.out).mono ?_
      rintro e wt ⟨rfl, hbt⟩
      have HBt := Lib.hid (HBc.out.trans (hbt.mono HBc.out.size))
      clear hbt
      go_wp2_with fail
      go_ret
      refine ⟨wt.heap.size, rfl, HBt.out.size, by simp, ?_, HBt.out.alloc HBt.out.size _⟩
      have hb := blk_new wt
      have e0 := Q0.out; have e1 := Q1.out
      intro i hi
      rw [Blk.cell (hb _ _)]
      match i, hi with
      | 0, _ => first | (show some (Value.string ⟨#[49]⟩) = some (.string (qt 1)); rw [e1]) | (show some (Value.string ⟨#[48]⟩) = some (.string (qt 0)); rw [e0])
      | 1, _ => first | (show some (Value.string ⟨#[49]⟩) = some (.string (qt 1)); rw [e1]) | (show some (Value.string ⟨#[48]⟩) = some (.string (qt 0)); rw [e0])
      | 2, _ => first | (show some (Value.string ⟨#[49]⟩) = some (.string (qt 1)); rw [e1]) | (show some (Value.string ⟨#[48]⟩) = some (.string (qt 0)); rw [e0])
      | 3, _ => first | rfl | (show some (Value.string ⟨#[48]⟩) = some (.string (qt 0)); rw [e0])
      | 4, _ => first | rfl | (show some (Value.string ⟨#[48]⟩) = some (.string (qt 0)); rw [e0])
      | 5, _ => first | rfl | (show some (Value.string ⟨#[48]⟩) = some (.string (qt 0)); rw [e0])
  · go_enter Tryz.func106, Tryz.ntmps106
    have p0 := HP0.out.cell 0; have p1 := HP0.out.cell 1; have p2 := HP0.out.cell 2
    go_wp2_with fail
    go_region_held3 (fun w' => w'.cell? ⟨w.heap.size, 0, none⟩ = some (.int .i64 x) ∧ w'.cell? ⟨w.heap.size, 1, none⟩ = some (.int .i64 y) ∧ w'.cell? ⟨w.heap.size, 2, none⟩ = some (.int .i64 z))
      (first | go_keep | exact ⟨p0, p1, p2⟩ | exact ⟨ap0, ap1, ap2⟩ | exact ⟨bp0, bp1, bp2⟩ | exact ⟨cp0, cp1, cp2⟩)
      (first
        | (go_at_call 34; refine (C.out _ _ (by first | exact HX.out | exact HY.out | exact HZ.out)).mono ?_; rintro e wn ⟨rfl, hbn⟩; first
          | (have HBc := Lib.hid (HBb.out.trans (hbn.mono HBb.out.size)); have HPc := Lib.hid (HPb.out.later hbn); have cp0 := HPc.out.cell 0; have cp1 := HPc.out.cell 1; have cp2 := HPc.out.cell 2; clear hbn)
          | (have HBb := Lib.hid (HBa.out.trans (hbn.mono HBa.out.size)); have HPb := Lib.hid (HPa.out.later hbn); have bp0 := HPb.out.cell 0; have bp1 := HPb.out.cell 1; have bp2 := HPb.out.cell 2; clear hbn)
          | (have HBa := Lib.hid (HB0.out.drew.trans (hbn.mono HB0.out.drew.size)); have HPa := Lib.hid (Blk.later HP0.out.drew hbn); have ap0 := HPa.out.cell 0; have ap1 := HPa.out.cell 1; have ap2 := HPa.out.cell 2; clear hbn)))
    all_goals
      go_wp2_with fail
      refine (TU.out _ _ HX.out).mono ?_
      rintro e wt ⟨rfl, hbt⟩
      have HBt := Lib.hid (HBc.out.trans (hbt.mono HBc.out.size))
      clear hbt
      go_wp2_with fail
      go_ret
      refine ⟨wt.heap.size, rfl, HBt.out.size, by simp, ?_, HBt.out.alloc HBt.out.size _⟩
      have hb := blk_new wt
      have e0 := Q0.out; have e1 := Q1.out
      intro i hi
      rw [Blk.cell (hb _ _)]
      match i, hi with
      | 0, _ => first | (show some (Value.string ⟨#[49]⟩) = some (.string (qt 1)); rw [e1]) | (show some (Value.string ⟨#[48]⟩) = some (.string (qt 0)); rw [e0])
      | 1, _ => first | (show some (Value.string ⟨#[49]⟩) = some (.string (qt 1)); rw [e1]) | (show some (Value.string ⟨#[48]⟩) = some (.string (qt 0)); rw [e0])
      | 2, _ => first | (show some (Value.string ⟨#[49]⟩) = some (.string (qt 1)); rw [e1]) | (show some (Value.string ⟨#[48]⟩) = some (.string (qt 0)); rw [e0])
      | 3, _ => first | rfl | (show some (Value.string ⟨#[48]⟩) = some (.string (qt 0)); rw [e0])
      | 4, _ => first | rfl | (show some (Value.string ⟨#[48]⟩) = some (.string (qt 0)); rw [e0])
      | 5, _ => first | rfl | (show some (Value.string ⟨#[48]⟩) = some (.string (qt 0)); rw [e0])
end Go.Proofs.YtbpegjgpdgeadaaGreatDoor
namespace Go.Proofs.YtbpegjgpdgeadaaGreatDoor
open Go Go.RowKit Metro
open Go.Lib (nDigits decDigits)

theorem frm_dig {x y z : Int} (hp : okP x y z = true) (k i : Nat) : Dig 6 (frm x y z k i : Rat) := dig_int _ (by decide) (by have := frm_small hp k i; omega)

set_option maxHeartbeats 2000000 in
set_option maxRecDepth 100000 in
/-- A coordinate of a right point behind a right torsor. -/
theorem refMoved_any (q : Nat → Rat) (x y z : Int) (k : Nat) (hk : k < 3) (w : World) (hp : okP x y z = true) (hq : ∀ i, i < 6 → Dig 24 (q i)) :
    Calls Tryz.prog 176 #[.agg #[.string (qt (q 0)), .string (qt (q 1)), .string (qt (q 2)), .string (qt (q 3)), .string (qt (q 4)), .string (qt (q 5))], .agg #[.int .i64 x, .int .i64 y, .int .i64 z], .int .i64 (k : Nat)] w fun E w' => E = .returned (.string (qt (gone q x y z k))) ∧ Below w.heap.size w w' := by
  have CC := Lib.hid (coordinate_any k hk x y z)
  have CW := Lib.hid (fun w => refQWhole_any (crd x y z k) w (by have := crd_small hp k; omega) (by have := crd_small hp k; omega))
  have RW := Lib.hid (fun w => refRow_any k hk x y z w hp)
  have NU := Lib.hid (refTorNumbers_any (fun i => qt (q i)))
  have DT : Hid (∀ ga gb w, TextsAt w ga (fun i => qt (frm x y z k i : Rat)) 6 → TextsAt w gb (fun i => qt (q i)) 6 → Calls Tryz.prog 151 #[.slice (some ⟨ga, 0, none⟩) 6 6, .slice (some ⟨gb, 0, none⟩) 6 6] w fun E w' => E = .returned (.string (qt (dot6 (frm x y z k) q))) ∧ Below w.heap.size w w') := Lib.hid (fun ga gb w h1 h2 =>
    dot_any 6 6 24 ga gb (fun i => (frm x y z k i : Rat)) q w (by decide) h1 h2 (fun i _ => frm_dig hp k i) hq (by decide))
  have PL := Lib.hid (fun w => refQPlus_any (crd x y z k : Rat) (dot6 (frm x y z k) q) w ((crd_dig hp k).mono (by decide)) ((dot_dig (fun i _ => frm_small hp k i) hq).mono (by decide)))
  have HG : Hid ((crd x y z k : Rat) + dot6 (frm x y z k) q = gone q x y z k) := Lib.hid rfl
  rw [HG.out] at PL
  clear hp hq hk HG
  obtain ⟨K, hK⟩ : ∃ K : Int, K = (k : Nat) := ⟨_, rfl⟩
  rw [← hK] at CC RW ⊢
  clear hK
  have HT0 := Lib.hid ((blk_new w #[.string (qt (q 0)), .string (qt (q 1)), .string (qt (q 2)), .string (qt (q 3)), .string (qt (q 4)), .string (qt (q 5))] 25).alloc (.cells #[.int .i64 x, .int .i64 y, .int .i64 z] 27))
  have HP0 := Lib.hid (blk_new1 w (.cells #[.string (qt (q 0)), .string (qt (q 1)), .string (qt (q 2)), .string (qt (q 3)), .string (qt (q 4)), .string (qt (q 5))] 25) #[.int .i64 x, .int .i64 y, .int .i64 z] 27)
  have HB0 := Lib.hid (below_two w (.cells #[.string (qt (q 0)), .string (qt (q 1)), .string (qt (q 2)), .string (qt (q 3)), .string (qt (q 4)), .string (qt (q 5))] 25) (.cells #[.int .i64 x, .int .i64 y, .int .i64 z] 27))
  go_enter Tryz.func176, Tryz.ntmps176
  have p0 := HP0.out.cell 0; have p1 := HP0.out.cell 1; have p2 := HP0.out.cell 2; have t0 := HT0.out.cell 0; have t1 := HT0.out.cell 1; have t2 := HT0.out.cell 2; have t3 := HT0.out.cell 3; have t4 := HT0.out.cell 4; have t5 := HT0.out.cell 5
  go_wp2_with fail
  go_region_held3 (fun w' => w'.cell? ⟨w.heap.size + 1, 0, none⟩ = some (.int .i64 x) ∧ w'.cell? ⟨w.heap.size + 1, 1, none⟩ = some (.int .i64 y) ∧ w'.cell? ⟨w.heap.size + 1, 2, none⟩ = some (.int .i64 z) ∧ w'.cell? ⟨w.heap.size, 0, none⟩ = some (.string (qt (q 0))) ∧ w'.cell? ⟨w.heap.size, 1, none⟩ = some (.string (qt (q 1))) ∧ w'.cell? ⟨w.heap.size, 2, none⟩ = some (.string (qt (q 2))) ∧ w'.cell? ⟨w.heap.size, 3, none⟩ = some (.string (qt (q 3))) ∧ w'.cell? ⟨w.heap.size, 4, none⟩ = some (.string (qt (q 4))) ∧ w'.cell? ⟨w.heap.size, 5, none⟩ = some (.string (qt (q 5))))
    (first | go_keep | exact ⟨p0, p1, p2, t0, t1, t2, t3, t4, t5⟩ | exact ⟨ap0, ap1, ap2, at0, at1, at2, at3, at4, at5⟩ | exact ⟨bp0, bp1, bp2, bt0, bt1, bt2, bt3, bt4, bt5⟩ | exact ⟨cp0, cp1, cp2, ct0, ct1, ct2, ct3, ct4, ct5⟩ | exact ⟨dp0, dp1, dp2, dt0, dt1, dt2, dt3, dt4, dt5⟩ | exact ⟨ep0, ep1, ep2, et0, et1, et2, et3, et4, et5⟩ | exact ⟨fp0, fp1, fp2, ft0, ft1, ft2, ft3, ft4, ft5⟩)
    (first
      | (go_at_call 182; refine (CC.out _).mono ?_; rintro e wa ⟨rfl, hba⟩; have HBa := Lib.hid (HB0.out.drew.trans (hba.mono HB0.out.drew.size)); have HTa := Lib.hid (Blk.later (HT0.out.drew) hba); have HPa := Lib.hid (Blk.later (HP0.out.drew) hba); have ap0 := HPa.out.cell 0; have ap1 := HPa.out.cell 1; have ap2 := HPa.out.cell 2; have at0 := HTa.out.cell 0; have at1 := HTa.out.cell 1; have at2 := HTa.out.cell 2; have at3 := HTa.out.cell 3; have at4 := HTa.out.cell 4; have at5 := HTa.out.cell 5; clear hba)
      | (go_at_call 34; refine (CW.out _).mono ?_; rintro e wb ⟨rfl, hbb⟩; have HBb := Lib.hid (HBa.out.trans (hbb.mono HBa.out.size)); have HTb := Lib.hid (Blk.later (HTa.out) hbb); have HPb := Lib.hid (Blk.later (HPa.out) hbb); have bp0 := HPb.out.cell 0; have bp1 := HPb.out.cell 1; have bp2 := HPb.out.cell 2; have bt0 := HTb.out.cell 0; have bt1 := HTb.out.cell 1; have bt2 := HTb.out.cell 2; have bt3 := HTb.out.cell 3; have bt4 := HTb.out.cell 4; have bt5 := HTb.out.cell 5; clear hbb)
      | (go_at_call 106; refine (RW.out _).mono ?_; rintro e wc ⟨gr, rfl, hgr, hgl, hrow, hbc⟩; have HBc := Lib.hid (HBb.out.trans (hbc.mono HBb.out.size)); have HTc := Lib.hid (Blk.later (HTb.out) hbc); have HPc := Lib.hid (Blk.later (HPb.out) hbc); have cp0 := HPc.out.cell 0; have cp1 := HPc.out.cell 1; have cp2 := HPc.out.cell 2; have ct0 := HTc.out.cell 0; have ct1 := HTc.out.cell 1; have ct2 := HTc.out.cell 2; have ct3 := HTc.out.cell 3; have ct4 := HTc.out.cell 4; have ct5 := HTc.out.cell 5; have HRc := Lib.hid hrow; have HLc := Lib.hid hgl; clear hbc hrow hgl hgr)
      | (go_at_call 91; refine (NU.out _).mono ?_; rintro e wd ⟨gn, rfl, hgn, hnum, hgl, hbd⟩; have HBd := Lib.hid (HBc.out.trans (hbd.mono HBc.out.size)); have HTd := Lib.hid (Blk.later (HTc.out) hbd); have HPd := Lib.hid (Blk.later (HPc.out) hbd); have dp0 := HPd.out.cell 0; have dp1 := HPd.out.cell 1; have dp2 := HPd.out.cell 2; have dt0 := HTd.out.cell 0; have dt1 := HTd.out.cell 1; have dt2 := HTd.out.cell 2; have dt3 := HTd.out.cell 3; have dt4 := HTd.out.cell 4; have dt5 := HTd.out.cell 5; have HRd := Lib.hid (HRc.out.below hbd HLc.out); have HNd := Lib.hid hnum; clear hbd hnum hgl hgn)
      | (go_at_call 151; refine (DT.out _ _ _ HRd.out HNd.out).mono ?_; rintro e we ⟨rfl, hbe⟩; have HBe := Lib.hid (HBd.out.trans (hbe.mono HBd.out.size)); have HTe := Lib.hid (Blk.later (HTd.out) hbe); have HPe := Lib.hid (Blk.later (HPd.out) hbe); have ep0 := HPe.out.cell 0; have ep1 := HPe.out.cell 1; have ep2 := HPe.out.cell 2; have et0 := HTe.out.cell 0; have et1 := HTe.out.cell 1; have et2 := HTe.out.cell 2; have et3 := HTe.out.cell 3; have et4 := HTe.out.cell 4; have et5 := HTe.out.cell 5; clear hbe)
      | (go_at_call 37; refine (PL.out _).mono ?_; rintro e wf ⟨rfl, hbf⟩; have HBf := Lib.hid (HBe.out.trans (hbf.mono HBe.out.size)); have HTf := Lib.hid (Blk.later (HTe.out) hbf); have HPf := Lib.hid (Blk.later (HPe.out) hbf); have fp0 := HPf.out.cell 0; have fp1 := HPf.out.cell 1; have fp2 := HPf.out.cell 2; have ft0 := HTf.out.cell 0; have ft1 := HTf.out.cell 1; have ft2 := HTf.out.cell 2; have ft3 := HTf.out.cell 3; have ft4 := HTf.out.cell 4; have ft5 := HTf.out.cell 5; clear hbf))
  all_goals
    go_wp2_with fail
    go_ret
    exact ⟨rfl, HBf.out⟩
end Go.Proofs.YtbpegjgpdgeadaaGreatDoor
namespace Go.Proofs.YtbpegjgpdgeadaaGreatDoor
open Go Go.RowKit Metro
open Go.Lib (nDigits decDigits)

/-- Whatever a cell holds. -/
def cg (w : World) (a : Addr) : Value := (w.cell? a).getD default
theorem Blk.cg {w : World} {b T : Nat} {cs : Array Value} (h : Blk w b cs T) {i : Nat} (hi : i < cs.size) : w.cell? ⟨b, i, none⟩ = some (Go.Proofs.YtbpegjgpdgeadaaGreatDoor.cg w ⟨b, i, none⟩) := by
  unfold Go.Proofs.YtbpegjgpdgeadaaGreatDoor.cg
  rw [h.cell, Array.getElem?_eq_getElem hi]
  rfl

set_option maxHeartbeats 600000 in
set_option maxRecDepth 100000 in
theorem refGone_any (q : Nat → Rat) (x y z : Int) (w : World) (hp : okP x y z = true) (hq : ∀ i, i < 6 → Dig 24 (q i)) :
    Calls Tryz.prog 99 #[.agg #[.string (qt (q 0)), .string (qt (q 1)), .string (qt (q 2)), .string (qt (q 3)), .string (qt (q 4)), .string (qt (q 5))], .agg #[.int .i64 x, .int .i64 y, .int .i64 z]] w fun E w' => E = .returned (.agg #[.string (qt (gone q x y z 0)), .string (qt (gone q x y z 1)), .string (qt (gone q x y z 2))]) ∧ Below w.heap.size w w' := by
  have M0 : Hid (∀ w, Calls Tryz.prog 176 #[.agg #[.string (qt (q 0)), .string (qt (q 1)), .string (qt (q 2)), .string (qt (q 3)), .string (qt (q 4)), .string (qt (q 5))], .agg #[.int .i64 x, .int .i64 y, .int .i64 z], .int .i64 0] w fun E w' => E = .returned (.string (qt (gone q x y z 0))) ∧ Below w.heap.size w w') := Lib.hid (fun w => refMoved_any q x y z 0 (by decide) w hp hq)
  have M1 : Hid (∀ w, Calls Tryz.prog 176 #[.agg #[.string (qt (q 0)), .string (qt (q 1)), .string (qt (q 2)), .string (qt (q 3)), .string (qt (q 4)), .string (qt (q 5))], .agg #[.int .i64 x, .int .i64 y, .int .i64 z], .int .i64 1] w fun E w' => E = .returned (.string (qt (gone q x y z 1))) ∧ Below w.heap.size w w') := Lib.hid (fun w => refMoved_any q x y z 1 (by decide) w hp hq)
  have M2 : Hid (∀ w, Calls Tryz.prog 176 #[.agg #[.string (qt (q 0)), .string (qt (q 1)), .string (qt (q 2)), .string (qt (q 3)), .string (qt (q 4)), .string (qt (q 5))], .agg #[.int .i64 x, .int .i64 y, .int .i64 z], .int .i64 2] w fun E w' => E = .returned (.string (qt (gone q x y z 2))) ∧ Below w.heap.size w w') := Lib.hid (fun w => refMoved_any q x y z 2 (by decide) w hp hq)
  clear hp hq
  have HT0 := Lib.hid (((blk_new w #[.string (qt (q 0)), .string (qt (q 1)), .string (qt (q 2)), .string (qt (q 3)), .string (qt (q 4)), .string (qt (q 5))] 25).alloc (.cells #[.int .i64 x, .int .i64 y, .int .i64 z] 27)).alloc (.cells #[.string ⟨#[]⟩, .string ⟨#[]⟩, .string ⟨#[]⟩] 23))
  have HP0 := Lib.hid ((blk_new1 w (.cells #[.string (qt (q 0)), .string (qt (q 1)), .string (qt (q 2)), .string (qt (q 3)), .string (qt (q 4)), .string (qt (q 5))] 25) #[.int .i64 x, .int .i64 y, .int .i64 z] 27).alloc (.cells #[.string ⟨#[]⟩, .string ⟨#[]⟩, .string ⟨#[]⟩] 23))
  have HR0 := Lib.hid (blk_new2 w (.cells #[.string (qt (q 0)), .string (qt (q 1)), .string (qt (q 2)), .string (qt (q 3)), .string (qt (q 4)), .string (qt (q 5))] 25) (.cells #[.int .i64 x, .int .i64 y, .int .i64 z] 27) #[.string ⟨#[]⟩, .string ⟨#[]⟩, .string ⟨#[]⟩] 23)
  have HB0 := Lib.hid (below_three w (.cells #[.string (qt (q 0)), .string (qt (q 1)), .string (qt (q 2)), .string (qt (q 3)), .string (qt (q 4)), .string (qt (q 5))] 25) (.cells #[.int .i64 x, .int .i64 y, .int .i64 z] 27) (.cells #[.string ⟨#[]⟩, .string ⟨#[]⟩, .string ⟨#[]⟩] 23))
  go_enter Tryz.func99, Tryz.ntmps99
  go_wp2_with fail
  generalize (((w.alloc (.cells #[.string (qt (q 0)), .string (qt (q 1)), .string (qt (q 2)), .string (qt (q 3)), .string (qt (q 4)), .string (qt (q 5))] 25)).alloc (.cells #[.int .i64 x, .int .i64 y, .int .i64 z] 27)).alloc (.cells #[.string ⟨#[]⟩, .string ⟨#[]⟩, .string ⟨#[]⟩] 23)) = W0 at HT0 HP0 HR0 HB0 ⊢
  have p0 := HP0.out.cell 0; have p1 := HP0.out.cell 1; have p2 := HP0.out.cell 2; have t0 := HT0.out.cell 0; have t1 := HT0.out.cell 1; have t2 := HT0.out.cell 2; have t3 := HT0.out.cell 3; have t4 := HT0.out.cell 4; have t5 := HT0.out.cell 5; have r0 := Blk.cg HR0.out (i := 0) (by decide); have f0 := HR0.out.free 0; have r1 := Blk.cg HR0.out (i := 1) (by decide); have f1 := HR0.out.free 1; have r2 := Blk.cg HR0.out (i := 2) (by decide); have f2 := HR0.out.free 2
  have rr0 := Blk.cg (Blk.drew HR0.out) (i := 0) (by simp); have rr1 := Blk.cg (Blk.drew HR0.out) (i := 1) (by simp); have rr2 := Blk.cg (Blk.drew HR0.out) (i := 2) (by simp)
  go_region_held3 (fun w' => w'.cell? ⟨w.heap.size + 1, 0, none⟩ = some (.int .i64 x) ∧ w'.cell? ⟨w.heap.size + 1, 1, none⟩ = some (.int .i64 y) ∧ w'.cell? ⟨w.heap.size + 1, 2, none⟩ = some (.int .i64 z) ∧ w'.cell? ⟨w.heap.size, 0, none⟩ = some (.string (qt (q 0))) ∧ w'.cell? ⟨w.heap.size, 1, none⟩ = some (.string (qt (q 1))) ∧ w'.cell? ⟨w.heap.size, 2, none⟩ = some (.string (qt (q 2))) ∧ w'.cell? ⟨w.heap.size, 3, none⟩ = some (.string (qt (q 3))) ∧ w'.cell? ⟨w.heap.size, 4, none⟩ = some (.string (qt (q 4))) ∧ w'.cell? ⟨w.heap.size, 5, none⟩ = some (.string (qt (q 5))) ∧ w'.frozen? ⟨w.heap.size + 1 + 1, 0, none⟩ = false ∧ w'.frozen? ⟨w.heap.size + 1 + 1, 1, none⟩ = false ∧ w'.frozen? ⟨w.heap.size + 1 + 1, 2, none⟩ = false)
    (first | exact HST.out | go_keep | exact ⟨p0, p1, p2, t0, t1, t2, t3, t4, t5, f0, f1, f2⟩ | exact ⟨ap0, ap1, ap2, at0, at1, at2, at3, at4, at5, af0, af1, af2⟩ | exact ⟨bp0, bp1, bp2, bt0, bt1, bt2, bt3, bt4, bt5, bf0, bf1, bf2⟩ | exact ⟨cp0, cp1, cp2, ct0, ct1, ct2, ct3, ct4, ct5, cf0, cf1, cf2⟩ | exact HST.out)
    (first
      | (go_at_call 176; first
        | (have hx := HBb; clear hx; refine (M2.out _).mono ?_; rintro e wc ⟨rfl, hbc⟩; have HBc := Lib.hid (HBb.out.trans (hbc.mono HBb.out.size)); have HTc := Lib.hid (Blk.later (HTb.out) hbc); have HPc := Lib.hid (Blk.later (HPb.out) hbc); have HRc := Lib.hid (Blk.later (HRb.out) hbc); have cp0 := HPc.out.cell 0; have cp1 := HPc.out.cell 1; have cp2 := HPc.out.cell 2; have ct0 := HTc.out.cell 0; have ct1 := HTc.out.cell 1; have ct2 := HTc.out.cell 2; have ct3 := HTc.out.cell 3; have ct4 := HTc.out.cell 4; have ct5 := HTc.out.cell 5; have cr0 := Blk.cg HRc.out (i := 0) (by decide); have cf0 := HRc.out.free 0; have cr1 := Blk.cg HRc.out (i := 1) (by decide); have cf1 := HRc.out.free 1; have cr2 := Blk.cg HRc.out (i := 2) (by decide); have cf2 := HRc.out.free 2; have HST : Hid ((((wc.setCell ⟨w.heap.size + 1 + 1, 0, none⟩ (.string (qt (gone q x y z 0)))).setCell ⟨w.heap.size + 1 + 1, 1, none⟩ (.string (qt (gone q x y z 1)))).setCell ⟨w.heap.size + 1 + 1, 2, none⟩ (.string (qt (gone q x y z 2)))).cell? ⟨w.heap.size + 1, 0, none⟩ = some (.int .i64 x) ∧ (((wc.setCell ⟨w.heap.size + 1 + 1, 0, none⟩ (.string (qt (gone q x y z 0)))).setCell ⟨w.heap.size + 1 + 1, 1, none⟩ (.string (qt (gone q x y z 1)))).setCell ⟨w.heap.size + 1 + 1, 2, none⟩ (.string (qt (gone q x y z 2)))).cell? ⟨w.heap.size + 1, 1, none⟩ = some (.int .i64 y) ∧ (((wc.setCell ⟨w.heap.size + 1 + 1, 0, none⟩ (.string (qt (gone q x y z 0)))).setCell ⟨w.heap.size + 1 + 1, 1, none⟩ (.string (qt (gone q x y z 1)))).setCell ⟨w.heap.size + 1 + 1, 2, none⟩ (.string (qt (gone q x y z 2)))).cell? ⟨w.heap.size + 1, 2, none⟩ = some (.int .i64 z) ∧ (((wc.setCell ⟨w.heap.size + 1 + 1, 0, none⟩ (.string (qt (gone q x y z 0)))).setCell ⟨w.heap.size + 1 + 1, 1, none⟩ (.string (qt (gone q x y z 1)))).setCell ⟨w.heap.size + 1 + 1, 2, none⟩ (.string (qt (gone q x y z 2)))).cell? ⟨w.heap.size, 0, none⟩ = some (.string (qt (q 0))) ∧ (((wc.setCell ⟨w.heap.size + 1 + 1, 0, none⟩ (.string (qt (gone q x y z 0)))).setCell ⟨w.heap.size + 1 + 1, 1, none⟩ (.string (qt (gone q x y z 1)))).setCell ⟨w.heap.size + 1 + 1, 2, none⟩ (.string (qt (gone q x y z 2)))).cell? ⟨w.heap.size, 1, none⟩ = some (.string (qt (q 1))) ∧ (((wc.setCell ⟨w.heap.size + 1 + 1, 0, none⟩ (.string (qt (gone q x y z 0)))).setCell ⟨w.heap.size + 1 + 1, 1, none⟩ (.string (qt (gone q x y z 1)))).setCell ⟨w.heap.size + 1 + 1, 2, none⟩ (.string (qt (gone q x y z 2)))).cell? ⟨w.heap.size, 2, none⟩ = some (.string (qt (q 2))) ∧ (((wc.setCell ⟨w.heap.size + 1 + 1, 0, none⟩ (.string (qt (gone q x y z 0)))).setCell ⟨w.heap.size + 1 + 1, 1, none⟩ (.string (qt (gone q x y z 1)))).setCell ⟨w.heap.size + 1 + 1, 2, none⟩ (.string (qt (gone q x y z 2)))).cell? ⟨w.heap.size, 3, none⟩ = some (.string (qt (q 3))) ∧ (((wc.setCell ⟨w.heap.size + 1 + 1, 0, none⟩ (.string (qt (gone q x y z 0)))).setCell ⟨w.heap.size + 1 + 1, 1, none⟩ (.string (qt (gone q x y z 1)))).setCell ⟨w.heap.size + 1 + 1, 2, none⟩ (.string (qt (gone q x y z 2)))).cell? ⟨w.heap.size, 4, none⟩ = some (.string (qt (q 4))) ∧ (((wc.setCell ⟨w.heap.size + 1 + 1, 0, none⟩ (.string (qt (gone q x y z 0)))).setCell ⟨w.heap.size + 1 + 1, 1, none⟩ (.string (qt (gone q x y z 1)))).setCell ⟨w.heap.size + 1 + 1, 2, none⟩ (.string (qt (gone q x y z 2)))).cell? ⟨w.heap.size, 5, none⟩ = some (.string (qt (q 5))) ∧ (((wc.setCell ⟨w.heap.size + 1 + 1, 0, none⟩ (.string (qt (gone q x y z 0)))).setCell ⟨w.heap.size + 1 + 1, 1, none⟩ (.string (qt (gone q x y z 1)))).setCell ⟨w.heap.size + 1 + 1, 2, none⟩ (.string (qt (gone q x y z 2)))).frozen? ⟨w.heap.size + 1 + 1, 0, none⟩ = false ∧ (((wc.setCell ⟨w.heap.size + 1 + 1, 0, none⟩ (.string (qt (gone q x y z 0)))).setCell ⟨w.heap.size + 1 + 1, 1, none⟩ (.string (qt (gone q x y z 1)))).setCell ⟨w.heap.size + 1 + 1, 2, none⟩ (.string (qt (gone q x y z 2)))).frozen? ⟨w.heap.size + 1 + 1, 1, none⟩ = false ∧ (((wc.setCell ⟨w.heap.size + 1 + 1, 0, none⟩ (.string (qt (gone q x y z 0)))).setCell ⟨w.heap.size + 1 + 1, 1, none⟩ (.string (qt (gone q x y z 1)))).setCell ⟨w.heap.size + 1 + 1, 2, none⟩ (.string (qt (gone q x y z 2)))).frozen? ⟨w.heap.size + 1 + 1, 2, none⟩ = false) := Lib.hid (by have hps := (Blk.other (a := ⟨w.heap.size + 1 + 1, 2, none⟩) (Blk.other (a := ⟨w.heap.size + 1 + 1, 1, none⟩) (Blk.other (a := ⟨w.heap.size + 1 + 1, 0, none⟩) HPc.out (by show w.heap.size + 1 + 1 ≠ _; omega) (.string (qt (gone q x y z 0)))) (by show w.heap.size + 1 + 1 ≠ _; omega) (.string (qt (gone q x y z 1)))) (by show w.heap.size + 1 + 1 ≠ _; omega) (.string (qt (gone q x y z 2)))); have hts := (Blk.other (a := ⟨w.heap.size + 1 + 1, 2, none⟩) (Blk.other (a := ⟨w.heap.size + 1 + 1, 1, none⟩) (Blk.other (a := ⟨w.heap.size + 1 + 1, 0, none⟩) HTc.out (by show w.heap.size + 1 + 1 ≠ _; omega) (.string (qt (gone q x y z 0)))) (by show w.heap.size + 1 + 1 ≠ _; omega) (.string (qt (gone q x y z 1)))) (by show w.heap.size + 1 + 1 ≠ _; omega) (.string (qt (gone q x y z 2)))); have hrs := (Blk.set (Blk.set (Blk.set HRc.out 0 (.string (qt (gone q x y z 0)))) 1 (.string (qt (gone q x y z 1)))) 2 (.string (qt (gone q x y z 2)))); exact ⟨hps.cell 0, hps.cell 1, hps.cell 2, hts.cell 0, hts.cell 1, hts.cell 2, hts.cell 3, hts.cell 4, hts.cell 5, hrs.free 0, hrs.free 1, hrs.free 2⟩); clear hbc)
        | (have hx := HBa; clear hx; refine (M1.out _).mono ?_; rintro e wb ⟨rfl, hbb⟩; have HBb := Lib.hid (HBa.out.trans (hbb.mono HBa.out.size)); have HTb := Lib.hid (Blk.later (HTa.out) hbb); have HPb := Lib.hid (Blk.later (HPa.out) hbb); have HRb := Lib.hid (Blk.later (HRa.out) hbb); have bp0 := HPb.out.cell 0; have bp1 := HPb.out.cell 1; have bp2 := HPb.out.cell 2; have bt0 := HTb.out.cell 0; have bt1 := HTb.out.cell 1; have bt2 := HTb.out.cell 2; have bt3 := HTb.out.cell 3; have bt4 := HTb.out.cell 4; have bt5 := HTb.out.cell 5; have br0 := Blk.cg HRb.out (i := 0) (by decide); have bf0 := HRb.out.free 0; have br1 := Blk.cg HRb.out (i := 1) (by decide); have bf1 := HRb.out.free 1; have br2 := Blk.cg HRb.out (i := 2) (by decide); have bf2 := HRb.out.free 2; clear hbb)
        | (refine (M0.out _).mono ?_; rintro e wa ⟨rfl, hba⟩; have HBa := Lib.hid (HB0.out.drew.trans (hba.mono HB0.out.drew.size)); have HTa := Lib.hid (Blk.later (HT0.out.drew) hba); have HPa := Lib.hid (Blk.later (HP0.out.drew) hba); have HRa := Lib.hid (Blk.later (HR0.out.drew) hba); have ap0 := HPa.out.cell 0; have ap1 := HPa.out.cell 1; have ap2 := HPa.out.cell 2; have at0 := HTa.out.cell 0; have at1 := HTa.out.cell 1; have at2 := HTa.out.cell 2; have at3 := HTa.out.cell 3; have at4 := HTa.out.cell 4; have at5 := HTa.out.cell 5; have ar0 := Blk.cg HRa.out (i := 0) (by decide); have af0 := HRa.out.free 0; have ar1 := Blk.cg HRa.out (i := 1) (by decide); have af1 := HRa.out.free 1; have ar2 := Blk.cg HRa.out (i := 2) (by decide); have af2 := HRa.out.free 2; clear hba)))
  all_goals
    go_wp2_with fail
    have hr3 := (Blk.set (Blk.set (Blk.set HRc.out 0 (.string (qt (gone q x y z 0)))) 1 (.string (qt (gone q x y z 1)))) 2 (.string (qt (gone q x y z 2))))
    have hb3 := (Below.setCell (p := ⟨w.heap.size + 1 + 1, 2, none⟩) (Below.setCell (p := ⟨w.heap.size + 1 + 1, 1, none⟩) (Below.setCell (p := ⟨w.heap.size + 1 + 1, 0, none⟩) HBc.out (by show _ ≤ w.heap.size + 1 + 1; omega) (.string (qt (gone q x y z 0)))) (by show _ ≤ w.heap.size + 1 + 1; omega) (.string (qt (gone q x y z 1)))) (by show _ ≤ w.heap.size + 1 + 1; omega) (.string (qt (gone q x y z 2))))
    generalize (((wc.setCell ⟨w.heap.size + 1 + 1, 0, none⟩ (.string (qt (gone q x y z 0)))).setCell ⟨w.heap.size + 1 + 1, 1, none⟩ (.string (qt (gone q x y z 1)))).setCell ⟨w.heap.size + 1 + 1, 2, none⟩ (.string (qt (gone q x y z 2)))) = W3 at hr3 hb3 ⊢
    have s0 := hr3.cell 0; have s1 := hr3.cell 1; have s2 := hr3.cell 2
    exact bodyPost_ret (by simp [results, Tryz.results99, go_sem, s0, s1, s2]; try rfl) rfl ⟨rfl, hb3⟩
end Go.Proofs.YtbpegjgpdgeadaaGreatDoor
namespace Go.Proofs.YtbpegjgpdgeadaaGreatDoor
open Go Go.RowKit Metro
open Go.Lib (nDigits decDigits)

set_option maxHeartbeats 1000000 in
set_option maxRecDepth 100000 in
theorem refApplyErr_any (t : Nat → ByteArray) (x y z : Int) (w : World) (hs : ∀ i, i < 6 → (t i).size ≤ 90000) (h0 : fe t 6 ≠ 0) :
    Calls Tryz.prog 22 #[.agg #[.string (t 0), .string (t 1), .string (t 2), .string (t 3), .string (t 4), .string (t 5)], .agg #[.int .i64 x, .int .i64 y, .int .i64 z]] w
      fun e w' => e = .returned (.tuple #[.agg #[.string ⟨#[]⟩, .string ⟨#[]⟩, .string ⟨#[]⟩], .int .i64 (fe t 6 : Nat)]) ∧ Below w.heap.size w w' := by
  have C := Lib.hid (fun w => refTorCheck_any t w hs)
  obtain ⟨E, hEe⟩ : ∃ E, E = fe t 6 := ⟨_, rfl⟩
  rw [← hEe] at C h0 ⊢
  have hne : ((E : Int) == 0) = false := by rw [beq_eq_false_iff_ne]; omega
  clear hEe hs h0
  go_enter Tryz.func22, Tryz.ntmps22
  go_wp2_with fail
  have hb0 := below_three w (.cells #[.string (t 0), .string (t 1), .string (t 2), .string (t 3), .string (t 4), .string (t 5)] 25) (.cells #[.int .i64 x, .int .i64 y, .int .i64 z] 27) (.cells #[.string ⟨#[]⟩, .string ⟨#[]⟩, .string ⟨#[]⟩] 23)
  have hr := blk_new2 w (.cells #[.string (t 0), .string (t 1), .string (t 2), .string (t 3), .string (t 4), .string (t 5)] 25) (.cells #[.int .i64 x, .int .i64 y, .int .i64 z] 27) #[.string ⟨#[]⟩, .string ⟨#[]⟩, .string ⟨#[]⟩] 23
  have HB0 := Lib.hid hb0; have HR0 := Lib.hid hr
  clear hb0 hr
  refine (C.out _).mono ?_
  rintro e w1 ⟨rfl, hb1⟩
  have hr := HR0.out.later hb1
  have HB1 := Lib.hid (HB0.out.trans (hb1.mono HB0.out.size))
  have r0 := hr.cell 0; have r1 := hr.cell 1; have r2 := hr.cell 2
  have f0 := hr.free 0; have f1 := hr.free 1; have f2 := hr.free 2
  clear hb1
  go_wp2_with fail
  have hr3 := ((hr.set 0 (.string ⟨#[]⟩)).set 1 (.string ⟨#[]⟩)).set 2 (.string ⟨#[]⟩)
  have hb3 := ((HB1.out.setCell (p := ⟨w.heap.size + 1 + 1, 0, none⟩) (by show _ ≤ w.heap.size + 1 + 1; omega) (.string ⟨#[]⟩)).setCell (p := ⟨w.heap.size + 1 + 1, 1, none⟩) (by show _ ≤ w.heap.size + 1 + 1; omega) (.string ⟨#[]⟩)).setCell (p := ⟨w.heap.size + 1 + 1, 2, none⟩) (by show _ ≤ w.heap.size + 1 + 1; omega) (.string ⟨#[]⟩)
  generalize (((w1.setCell ⟨w.heap.size + 1 + 1, 0, none⟩ (.string ⟨#[]⟩)).setCell ⟨w.heap.size + 1 + 1, 1, none⟩ (.string ⟨#[]⟩)).setCell ⟨w.heap.size + 1 + 1, 2, none⟩ (.string ⟨#[]⟩)) = W3 at hr3 hb3 ⊢
  have s0 := hr3.cell 0; have s1 := hr3.cell 1; have s2 := hr3.cell 2
  exact bodyPost_ret (by simp [results, Tryz.results22, go_sem, s0, s1, s2]; try rfl) rfl ⟨rfl, hb3⟩
set_option maxHeartbeats 1000000 in
set_option maxRecDepth 100000 in
theorem refApplyPt_any (t : Nat → ByteArray) (x y z : Int) (w : World) (hs : ∀ i, i < 6 → (t i).size ≤ 90000) (h0 : fe t 6 = 0) (hp : okP x y z = false) :
    Calls Tryz.prog 22 #[.agg #[.string (t 0), .string (t 1), .string (t 2), .string (t 3), .string (t 4), .string (t 5)], .agg #[.int .i64 x, .int .i64 y, .int .i64 z]] w
      fun e w' => e = .returned (.tuple #[.agg #[.string ⟨#[]⟩, .string ⟨#[]⟩, .string ⟨#[]⟩], .int .i64 2]) ∧ Below w.heap.size w w' := by
  have C := Lib.hid (fun w => refTorCheck_any t w hs)
  rw [h0] at C
  have S := Lib.hid (rightSpot_any x y z)
  rw [hp] at S
  clear hs h0 hp
  go_enter Tryz.func22, Tryz.ntmps22
  go_wp2_with fail
  have hb0 := below_three w (.cells #[.string (t 0), .string (t 1), .string (t 2), .string (t 3), .string (t 4), .string (t 5)] 25) (.cells #[.int .i64 x, .int .i64 y, .int .i64 z] 27) (.cells #[.string ⟨#[]⟩, .string ⟨#[]⟩, .string ⟨#[]⟩] 23)
  have hr := blk_new2 w (.cells #[.string (t 0), .string (t 1), .string (t 2), .string (t 3), .string (t 4), .string (t 5)] 25) (.cells #[.int .i64 x, .int .i64 y, .int .i64 z] 27) #[.string ⟨#[]⟩, .string ⟨#[]⟩, .string ⟨#[]⟩] 23
  have hp := (blk_new1 w (.cells #[.string (t 0), .string (t 1), .string (t 2), .string (t 3), .string (t 4), .string (t 5)] 25) #[.int .i64 x, .int .i64 y, .int .i64 z] 27).alloc (.cells #[.string ⟨#[]⟩, .string ⟨#[]⟩, .string ⟨#[]⟩] 23)
  have HB0 := Lib.hid hb0; have HR0 := Lib.hid hr; have HP0 := Lib.hid hp
  clear hb0 hr hp
  refine (C.out _).mono ?_
  rintro e w1 ⟨rfl, hb1⟩
  have HR1 := Lib.hid (HR0.out.later hb1); have HP1 := Lib.hid (HP0.out.later hb1)
  have HB1 := Lib.hid (HB0.out.trans (hb1.mono HB0.out.size))
  clear hb1
  have p0 := HP1.out.cell 0; have p1 := HP1.out.cell 1; have p2 := HP1.out.cell 2
  go_wp2_with fail
  refine (S.out _).mono ?_
  rintro e w2 ⟨rfl, hb2⟩
  have hr := HR1.out.later hb2
  have HB2 := Lib.hid (HB1.out.trans (hb2.mono HB1.out.size))
  have r0 := hr.cell 0; have r1 := hr.cell 1; have r2 := hr.cell 2
  have f0 := hr.free 0; have f1 := hr.free 1; have f2 := hr.free 2
  clear hb2 p0 p1 p2
  go_wp2_with fail
  have hr3 := ((hr.set 0 (.string ⟨#[]⟩)).set 1 (.string ⟨#[]⟩)).set 2 (.string ⟨#[]⟩)
  have hb3 := ((HB2.out.setCell (p := ⟨w.heap.size + 1 + 1, 0, none⟩) (by show _ ≤ w.heap.size + 1 + 1; omega) (.string ⟨#[]⟩)).setCell (p := ⟨w.heap.size + 1 + 1, 1, none⟩) (by show _ ≤ w.heap.size + 1 + 1; omega) (.string ⟨#[]⟩)).setCell (p := ⟨w.heap.size + 1 + 1, 2, none⟩) (by show _ ≤ w.heap.size + 1 + 1; omega) (.string ⟨#[]⟩)
  generalize (((w2.setCell ⟨w.heap.size + 1 + 1, 0, none⟩ (.string ⟨#[]⟩)).setCell ⟨w.heap.size + 1 + 1, 1, none⟩ (.string ⟨#[]⟩)).setCell ⟨w.heap.size + 1 + 1, 2, none⟩ (.string ⟨#[]⟩)) = W3 at hr3 hb3 ⊢
  have s0 := hr3.cell 0; have s1 := hr3.cell 1; have s2 := hr3.cell 2
  exact bodyPost_ret (by simp [results, Tryz.results22, go_sem, s0, s1, s2]; try rfl) rfl ⟨rfl, hb3⟩
set_option maxHeartbeats 1000000 in
set_option maxRecDepth 100000 in
theorem refApplyOk_any (q : Nat → Rat) (x y z : Int) (w : World) (hq : ∀ i, i < 6 → Dig 24 (q i)) (hp : okP x y z = true) :
    Calls Tryz.prog 22 #[.agg #[.string (qt (q 0)), .string (qt (q 1)), .string (qt (q 2)), .string (qt (q 3)), .string (qt (q 4)), .string (qt (q 5))], .agg #[.int .i64 x, .int .i64 y, .int .i64 z]] w fun e w' => e = .returned (.tuple #[.agg #[.string (qt (gone q x y z 0)), .string (qt (gone q x y z 1)), .string (qt (gone q x y z 2))], .int .i64 0]) ∧ Below w.heap.size w w' := by
  have C : Hid (∀ w, Calls Tryz.prog 24 #[.agg #[.string (qt (q 0)), .string (qt (q 1)), .string (qt (q 2)), .string (qt (q 3)), .string (qt (q 4)), .string (qt (q 5))]] w fun e w' => e = .returned (.int .i64 0) ∧ Below w.heap.size w w') := Lib.hid (fun w => by
    have := refTorCheck_any (fun i => qt (q i)) w (fun i hi => Nat.le_trans (qt_size ((hq i hi).fits (by decide))) (by decide))
    rw [fe_qt hq] at this
    exact this)
  have S := Lib.hid (rightSpot_any x y z)
  have G := Lib.hid (fun w => refGone_any q x y z w hp hq)
  rw [hp] at S
  clear hq hp
  go_enter Tryz.func22, Tryz.ntmps22
  go_wp2_with fail
  have HB0 := Lib.hid (below_three w (.cells #[.string (qt (q 0)), .string (qt (q 1)), .string (qt (q 2)), .string (qt (q 3)), .string (qt (q 4)), .string (qt (q 5))] 25) (.cells #[.int .i64 x, .int .i64 y, .int .i64 z] 27) (.cells #[.string ⟨#[]⟩, .string ⟨#[]⟩, .string ⟨#[]⟩] 23))
  have HR0 := Lib.hid (blk_new2 w (.cells #[.string (qt (q 0)), .string (qt (q 1)), .string (qt (q 2)), .string (qt (q 3)), .string (qt (q 4)), .string (qt (q 5))] 25) (.cells #[.int .i64 x, .int .i64 y, .int .i64 z] 27) #[.string ⟨#[]⟩, .string ⟨#[]⟩, .string ⟨#[]⟩] 23)
  have HP0 := Lib.hid ((blk_new1 w (.cells #[.string (qt (q 0)), .string (qt (q 1)), .string (qt (q 2)), .string (qt (q 3)), .string (qt (q 4)), .string (qt (q 5))] 25) #[.int .i64 x, .int .i64 y, .int .i64 z] 27).alloc (.cells #[.string ⟨#[]⟩, .string ⟨#[]⟩, .string ⟨#[]⟩] 23))
  have HT0 := Lib.hid (((blk_new w #[.string (qt (q 0)), .string (qt (q 1)), .string (qt (q 2)), .string (qt (q 3)), .string (qt (q 4)), .string (qt (q 5))] 25).alloc (.cells #[.int .i64 x, .int .i64 y, .int .i64 z] 27)).alloc (.cells #[.string ⟨#[]⟩, .string ⟨#[]⟩, .string ⟨#[]⟩] 23))
  refine (C.out _).mono ?_
  rintro e w1 ⟨rfl, hb1⟩
  have HR1 := Lib.hid (HR0.out.later hb1); have HP1 := Lib.hid (HP0.out.later hb1); have HT1 := Lib.hid (HT0.out.later hb1)
  have HB1 := Lib.hid (HB0.out.trans (hb1.mono HB0.out.size))
  clear hb1
  have p0 := HP1.out.cell 0; have p1 := HP1.out.cell 1; have p2 := HP1.out.cell 2
  go_wp2_with fail
  refine (S.out _).mono ?_
  rintro e w2 ⟨rfl, hb2⟩
  have HR2 := Lib.hid (HR1.out.later hb2); have HP2 := Lib.hid (HP1.out.later hb2); have HT2 := Lib.hid (HT1.out.later hb2)
  have HB2 := Lib.hid (HB1.out.trans (hb2.mono HB1.out.size))
  clear hb2 p0 p1 p2
  have p0 := HP2.out.cell 0; have p1 := HP2.out.cell 1; have p2 := HP2.out.cell 2
  have t0 := HT2.out.cell 0; have t1 := HT2.out.cell 1; have t2 := HT2.out.cell 2; have t3 := HT2.out.cell 3; have t4 := HT2.out.cell 4; have t5 := HT2.out.cell 5
  go_wp2_with fail
  refine (G.out _).mono ?_
  rintro e w3 ⟨rfl, hb3⟩
  have HR3 := Lib.hid (HR2.out.later hb3)
  have HB3 := Lib.hid (HB2.out.trans (hb3.mono HB2.out.size))
  clear hb3
  have r0 := HR3.out.cell 0; have r1 := HR3.out.cell 1; have r2 := HR3.out.cell 2
  have f0 := HR3.out.free 0; have f1 := HR3.out.free 1; have f2 := HR3.out.free 2
  go_wp2_with fail
  have hr3 := (Blk.set (Blk.set (Blk.set HR3.out 0 (.string (qt (gone q x y z 0)))) 1 (.string (qt (gone q x y z 1)))) 2 (.string (qt (gone q x y z 2))))
  have hb3 := (Below.setCell (p := ⟨w.heap.size + 1 + 1, 2, none⟩) (Below.setCell (p := ⟨w.heap.size + 1 + 1, 1, none⟩) (Below.setCell (p := ⟨w.heap.size + 1 + 1, 0, none⟩) HB3.out (by show _ ≤ w.heap.size + 1 + 1; omega) (.string (qt (gone q x y z 0)))) (by show _ ≤ w.heap.size + 1 + 1; omega) (.string (qt (gone q x y z 1)))) (by show _ ≤ w.heap.size + 1 + 1; omega) (.string (qt (gone q x y z 2))))
  generalize (((w3.setCell ⟨w.heap.size + 1 + 1, 0, none⟩ (.string (qt (gone q x y z 0)))).setCell ⟨w.heap.size + 1 + 1, 1, none⟩ (.string (qt (gone q x y z 1)))).setCell ⟨w.heap.size + 1 + 1, 2, none⟩ (.string (qt (gone q x y z 2)))) = W3 at hr3 hb3 ⊢
  have s0 := hr3.cell 0; have s1 := hr3.cell 1; have s2 := hr3.cell 2
  exact bodyPost_ret (by simp [results, Tryz.results22, go_sem, s0, s1, s2]; try rfl) rfl ⟨rfl, hb3⟩

end Go.Proofs.YtbpegjgpdgeadaaGreatDoor
