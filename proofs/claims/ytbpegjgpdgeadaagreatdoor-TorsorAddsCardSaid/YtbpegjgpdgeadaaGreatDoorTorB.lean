/- A part of the proof: TorB. Conditions: none. -/
import Derived.Test.YtbpegjgpdgeadaaGreatDoorTorA
namespace Go.Proofs.YtbpegjgpdgeadaaGreatDoor
open Go Go.RowKit Metro
open Go.Lib (nDigits decDigits)

theorem Dig.add {ka kb : Nat} {a b : Rat} (ha : Dig ka a) (hb : Dig kb b) : Dig (ka + kb + 1) (a + b) := by
  rw [add_parts]
  have h1 : nDigits (a.num * b.den + b.num * a.den).natAbs ≤ ka + kb + 1 := dig_add (k := ka + kb) (dig_mul ha.1 hb.den (by omega)) (dig_mul hb.1 ha.den (by omega)) (by omega)
  have h2 : nDigits ((a.den : Int) * b.den).natAbs ≤ ka + kb := dig_mul ha.den hb.den (by omega)
  exact ⟨Nat.le_trans (nDigits_mono (low_num_le (denP a b))) h1, Nat.le_trans (nDigits_mono (low_den_le (denP a b))) (by omega)⟩
theorem Dig.neg {k : Nat} {a : Rat} (h : Dig k a) : Dig k (-a) := ⟨by rw [Rat.neg_num, Int.natAbs_neg]; exact h.1, by rw [Rat.neg_den]; exact h.2⟩
theorem Dig.sub {ka kb : Nat} {a b : Rat} (ha : Dig ka a) (hb : Dig kb b) : Dig (ka + kb + 1) (a - b) := by
  rw [Rat.sub_eq_add_neg]; exact ha.add hb.neg
theorem Dig.mul {ka kb : Nat} {a b : Rat} (ha : Dig ka a) (hb : Dig kb b) : Dig (ka + kb) (a * b) := by
  rw [mul_parts]
  have h1 : nDigits (a.num * b.num).natAbs ≤ ka + kb := dig_mul ha.1 hb.1 (by omega)
  have h2 : nDigits ((a.den : Int) * b.den).natAbs ≤ ka + kb := dig_mul ha.den hb.den (by omega)
  exact ⟨Nat.le_trans (nDigits_mono (low_num_le (denP a b))) h1, Nat.le_trans (nDigits_mono (low_den_le (denP a b))) h2⟩
theorem dig_int {k : Nat} (n : Int) (hk : 1 ≤ k) (h : n.natAbs < 10 ^ k) : Dig k (n : Rat) := by
  refine ⟨by rw [Rat.num_intCast]; exact (Metro.nDigits_le hk).2 h, ?_⟩
  rw [Rat.den_intCast]
  exact (Metro.nDigits_le hk).2 (Nat.lt_of_lt_of_le (by decide : 1 < 10 ^ 1) (Nat.pow_le_pow_right (by decide) hk))

/-- The first k products. -/
def part (c : Nat → Int) (q : Nat → Rat) (k : Nat) : Rat := rsum k fun i => (c i : Rat) * q i
theorem part_succ (c : Nat → Int) (q : Nat → Rat) (k : Nat) : part c q (k + 1) = part c q k + (c k : Rat) * q k := by unfold part; rw [rsum_succ]
theorem part_six (c : Nat → Int) (q : Nat → Rat) : part c q 6 = dot6 c q := rfl

theorem part_dig {D : Nat} {c : Nat → Int} {q : Nat → Rat} (hc : ∀ i, i < 6 → (c i).natAbs < 1000000) (hq : ∀ i, i < 6 → Dig D (q i)) : ∀ k, k ≤ 6 → Dig (1 + (D + 7) * k) (part c q k) := by
  intro k
  induction k with
  | zero => intro _; exact dig_zero 1 (by decide)
  | succ k ih =>
    intro hk
    rw [part_succ]
    exact ((ih (by omega)).add ((dig_int (k := 6) (c k) (by decide) (hc k (by omega))).mul (hq k (by omega)))).mono (by rw [Nat.mul_succ]; omega)

theorem ix134 (x0 x1 x2 x3 x4 x5 : Value) : (∀ w, (Instr.index 134 (.agg #[x0, x1, x2, x3, x4, x5]) (.int .i64 0)).run Tryz.prog w = .ok x0 w) ∧ (∀ w, (Instr.index 134 (.agg #[x0, x1, x2, x3, x4, x5]) (.int .i64 1)).run Tryz.prog w = .ok x1 w) ∧ (∀ w, (Instr.index 134 (.agg #[x0, x1, x2, x3, x4, x5]) (.int .i64 2)).run Tryz.prog w = .ok x2 w) ∧ (∀ w, (Instr.index 134 (.agg #[x0, x1, x2, x3, x4, x5]) (.int .i64 3)).run Tryz.prog w = .ok x3 w) ∧ (∀ w, (Instr.index 134 (.agg #[x0, x1, x2, x3, x4, x5]) (.int .i64 4)).run Tryz.prog w = .ok x4 w) ∧ (∀ w, (Instr.index 134 (.agg #[x0, x1, x2, x3, x4, x5]) (.int .i64 5)).run Tryz.prog w = .ok x5 w) :=
  ⟨fun _ => by kernel_rfl, fun _ => by kernel_rfl, fun _ => by kernel_rfl, fun _ => by kernel_rfl, fun _ => by kernel_rfl, fun _ => by kernel_rfl⟩

set_option maxHeartbeats 2000000 in
set_option maxRecDepth 100000 in
theorem times6_any {D : Nat} (N : Nat) (hN : N = 6) (c : Nat → Int) (q : Nat → Rat) (w : World) (hE : Env w) (hc : ∀ i, i < 6 → (c i).natAbs < 1000000) (hq : ∀ i, i < 6 → Dig D (q i)) (hD : D ≤ 150 := by decide) :
    Calls Tryz.prog 94 #[.agg #[.int .i64 (c 0), .int .i64 (c 1), .int .i64 (c 2), .int .i64 (c 3), .int .i64 (c 4), .int .i64 (c 5)], .agg #[.string (qt (q 0)), .string (qt (q 1)), .string (qt (q 2)), .string (qt (q 3)), .string (qt (q 4)), .string (qt (q 5))]] w
      fun e w' => e = .returned (.tuple #[.string (qt (dot6 c q)), .int .i64 0]) ∧ Below w.heap.size w w' := by
  have HE := Lib.hid hE; have HC := Lib.hid hc; have HQ := Lib.hid hq
  have HD := Lib.hid (part_dig hc hq)
  clear hE hc hq
  go_enter Tryz.func94, Tryz.ntmps94
  go_wp2_with fail
  have hcells := alloc2_new w (.cells #[.int .i64 (c 0), .int .i64 (c 1), .int .i64 (c 2), .int .i64 (c 3), .int .i64 (c 4), .int .i64 (c 5)] 134) (.cells #[.string (qt (q 0)), .string (qt (q 1)), .string (qt (q 2)), .string (qt (q 3)), .string (qt (q 4)), .string (qt (q 5))] 136)
  have hT := textsAt_six (t := fun i => qt (q i)) hcells
  have hB0 := below_two w (.cells #[.int .i64 (c 0), .int .i64 (c 1), .int .i64 (c 2), .int .i64 (c 3), .int .i64 (c 4), .int .i64 (c 5)] 134) (.cells #[.string (qt (q 0)), .string (qt (q 1)), .string (qt (q 2)), .string (qt (q 3)), .string (qt (q 4)), .string (qt (q 5))] 136)
  have hlt0 : w.heap.size + 1 < ((w.alloc (.cells #[.int .i64 (c 0), .int .i64 (c 1), .int .i64 (c 2), .int .i64 (c 3), .int .i64 (c 4), .int .i64 (c 5)] 134)).alloc (.cells #[.string (qt (q 0)), .string (qt (q 1)), .string (qt (q 2)), .string (qt (q 3)), .string (qt (q 4)), .string (qt (q 5))] 136)).heap.size := by simp
  obtain ⟨G, hG⟩ : ∃ G, G = w.heap.size + 1 := ⟨_, rfl⟩
  rw [← hG] at hT hlt0 ⊢
  have HG := Lib.hid hG
  clear hcells hG
  generalize ((w.alloc (.cells #[.int .i64 (c 0), .int .i64 (c 1), .int .i64 (c 2), .int .i64 (c 3), .int .i64 (c 4), .int .i64 (c 5)] 134)).alloc (.cells #[.string (qt (q 0)), .string (qt (q 1)), .string (qt (q 2)), .string (qt (q 3)), .string (qt (q 4)), .string (qt (q 5))] 136)) = W0 at hT hB0 hlt0 ⊢
  have HT := Lib.hid hT; have HB0 := Lib.hid hB0; have HL0 := Lib.hid hlt0
  clear hT hB0 hlt0
  have CW : Hid (∀ k, k < 6 → ∀ w, Env w → Calls Tryz.prog 98 #[.int .i64 (c k)] w fun e w' => e = .returned (.string (qt (c k : Rat))) ∧ Below w.heap.size w w') := Lib.hid (fun k hk w hE => by
    have := HC.out k hk
    exact qwhole_any (c k) w (by omega) (by omega) hE)
  have CM : Hid (∀ k, k < 6 → ∀ w, Env w → Calls Tryz.prog 81 #[.string (qt (c k : Rat)), .string (qt (q k))] w fun e w' => QOk ((c k : Rat) * q k) e w w') := Lib.hid (fun k hk w hE =>
    qmul_any (c k : Rat) (q k) 6 D w hE (dig_int (c k) (by decide) (HC.out k hk)) (HQ.out k hk) (by omega))
  have CA : Hid (∀ k, k < 6 → ∀ w, Env w → Calls Tryz.prog 97 #[.string (qt (part c q k)), .string (qt ((c k : Rat) * q k))] w fun e w' => QOk (part c q (k + 1)) e w w') := Lib.hid (fun k hk w hE => by
    rw [part_succ]
    have h5 : (D + 7) * k ≤ 157 * 5 := Nat.mul_le_mul (by omega) (by omega)
    exact qadd_any _ _ (1 + (D + 7) * k) (6 + D) w hE (HD.out k (by omega)) ((dig_int (k := 6) (c k) (by decide) (HC.out k hk)).mul (HQ.out k hk)) (by omega))
  have HN := Lib.hid hN
  have H6 := Lib.hid (part_six c q)
  clear hN hD
  go_loopg [6, 7, 8, 9, 10, 12] N (fun d s _ _ _ _ i wr => ∃ k : Nat, i = .int .i64 k ∧ k ≤ 6 ∧ d = N - k ∧ s = .string (qt (part c q k)) ∧ Below w.heap.size w wr ∧ TextsAt wr G (fun i => qt (q i)) 6 ∧ G < wr.heap.size)
  case atStart => exact ⟨0, rfl, by decide, rfl, by rw [show part c q 0 = 0 from rfl, qt_zero48], HB0.out, HT.out, HL0.out⟩
  case round =>
    obtain ⟨k, rfl, hk, rfl, rfl, hb, ht, hGl⟩ := hrel
    have HB := Lib.hid hb; have HT' := Lib.hid ht; have HGl := Lib.hid hGl
    clear hb ht hGl
    by_cases hlt : k < 6
    · have hk' : k = 0 ∨ k = 1 ∨ k = 2 ∨ k = 3 ∨ k = 4 ∨ k = 5 := by omega
      have HEr := Lib.hid (HE.out.below HB.out).drew
      obtain ⟨i0, i1, i2, i3, i4, i5⟩ := ix134 (.int .i64 (c 0)) (.int .i64 (c 1)) (.int .i64 (c 2)) (.int .i64 (c 3)) (.int .i64 (c 4)) (.int .i64 (c 5))
      have d0 : wr.cell? ⟨G, k, none⟩ = some (.string (qt (q k))) := HT'.out k hlt
      rcases hk' with rfl | rfl | rfl | rfl | rfl | rfl
      · go_wp2_with fail
        go_region_held3 (fun w' => w'.cell? ⟨G, 0, none⟩ = some (.string (qt (q 0))))
          (first | go_keep | exact d0 | exact d1 | exact d2)
          (first
            | (go_at_call 98; refine (CW.out _ (by decide) _ HEr.out).mono ?_; rintro e w1 ⟨rfl, hb1⟩; have HB1 := Lib.hid (HB.out.drew.trans (hb1.mono HB.out.drew.size)); have HT1 := Lib.hid (TextsAt.below (w := wr.drew) HT'.out hb1 HGl.out); have hG1 := Nat.lt_of_lt_of_le HGl.out hb1.size; have HE1 := Lib.hid (HE.out.below HB1.out); have d1 := HT1.out 0 (by decide); clear hb1)
            | (go_at_call 81; refine (CM.out _ (by decide) _ HE1.out).mono ?_; rintro e w2 ⟨rfl, hb2⟩; have HB2 := Lib.hid (HB1.out.trans (hb2.mono HB1.out.size)); have HT2 := Lib.hid (HT1.out.below hb2 hG1); have hG2 := Nat.lt_of_lt_of_le hG1 hb2.size; have HE2 := Lib.hid (HE.out.below HB2.out); have d2 := HT2.out 0 (by decide); clear hb2))
        all_goals
          go_wp2_with fail
          refine (CA.out _ (by decide) _ HE2.out).mono ?_
          rintro e w3 ⟨rfl, hb3⟩
          have HB3 := Lib.hid (HB2.out.trans (hb3.mono HB2.out.size))
          have HT3 := Lib.hid (HT2.out.below hb3 hG2)
          have HG3 := Lib.hid (Nat.lt_of_lt_of_le hG2 hb3.size)
          clear hb3
          go_wp2_with fail
          go_roundg (N - (0 + 1))
          case measure => have := HN.out; omega
          case rel => exact ⟨1, rfl, by decide, rfl, rfl, HB3.out, HT3.out, HG3.out⟩
      · go_wp2_with fail
        go_region_held3 (fun w' => w'.cell? ⟨G, 1, none⟩ = some (.string (qt (q 1))))
          (first | go_keep | exact d0 | exact d1 | exact d2)
          (first
            | (go_at_call 98; refine (CW.out _ (by decide) _ HEr.out).mono ?_; rintro e w1 ⟨rfl, hb1⟩; have HB1 := Lib.hid (HB.out.drew.trans (hb1.mono HB.out.drew.size)); have HT1 := Lib.hid (TextsAt.below (w := wr.drew) HT'.out hb1 HGl.out); have hG1 := Nat.lt_of_lt_of_le HGl.out hb1.size; have HE1 := Lib.hid (HE.out.below HB1.out); have d1 := HT1.out 1 (by decide); clear hb1)
            | (go_at_call 81; refine (CM.out _ (by decide) _ HE1.out).mono ?_; rintro e w2 ⟨rfl, hb2⟩; have HB2 := Lib.hid (HB1.out.trans (hb2.mono HB1.out.size)); have HT2 := Lib.hid (HT1.out.below hb2 hG1); have hG2 := Nat.lt_of_lt_of_le hG1 hb2.size; have HE2 := Lib.hid (HE.out.below HB2.out); have d2 := HT2.out 1 (by decide); clear hb2))
        all_goals
          go_wp2_with fail
          refine (CA.out _ (by decide) _ HE2.out).mono ?_
          rintro e w3 ⟨rfl, hb3⟩
          have HB3 := Lib.hid (HB2.out.trans (hb3.mono HB2.out.size))
          have HT3 := Lib.hid (HT2.out.below hb3 hG2)
          have HG3 := Lib.hid (Nat.lt_of_lt_of_le hG2 hb3.size)
          clear hb3
          go_wp2_with fail
          go_roundg (N - (1 + 1))
          case measure => have := HN.out; omega
          case rel => exact ⟨2, rfl, by decide, rfl, rfl, HB3.out, HT3.out, HG3.out⟩
      · go_wp2_with fail
        go_region_held3 (fun w' => w'.cell? ⟨G, 2, none⟩ = some (.string (qt (q 2))))
          (first | go_keep | exact d0 | exact d1 | exact d2)
          (first
            | (go_at_call 98; refine (CW.out _ (by decide) _ HEr.out).mono ?_; rintro e w1 ⟨rfl, hb1⟩; have HB1 := Lib.hid (HB.out.drew.trans (hb1.mono HB.out.drew.size)); have HT1 := Lib.hid (TextsAt.below (w := wr.drew) HT'.out hb1 HGl.out); have hG1 := Nat.lt_of_lt_of_le HGl.out hb1.size; have HE1 := Lib.hid (HE.out.below HB1.out); have d1 := HT1.out 2 (by decide); clear hb1)
            | (go_at_call 81; refine (CM.out _ (by decide) _ HE1.out).mono ?_; rintro e w2 ⟨rfl, hb2⟩; have HB2 := Lib.hid (HB1.out.trans (hb2.mono HB1.out.size)); have HT2 := Lib.hid (HT1.out.below hb2 hG1); have hG2 := Nat.lt_of_lt_of_le hG1 hb2.size; have HE2 := Lib.hid (HE.out.below HB2.out); have d2 := HT2.out 2 (by decide); clear hb2))
        all_goals
          go_wp2_with fail
          refine (CA.out _ (by decide) _ HE2.out).mono ?_
          rintro e w3 ⟨rfl, hb3⟩
          have HB3 := Lib.hid (HB2.out.trans (hb3.mono HB2.out.size))
          have HT3 := Lib.hid (HT2.out.below hb3 hG2)
          have HG3 := Lib.hid (Nat.lt_of_lt_of_le hG2 hb3.size)
          clear hb3
          go_wp2_with fail
          go_roundg (N - (2 + 1))
          case measure => have := HN.out; omega
          case rel => exact ⟨3, rfl, by decide, rfl, rfl, HB3.out, HT3.out, HG3.out⟩
      · go_wp2_with fail
        go_region_held3 (fun w' => w'.cell? ⟨G, 3, none⟩ = some (.string (qt (q 3))))
          (first | go_keep | exact d0 | exact d1 | exact d2)
          (first
            | (go_at_call 98; refine (CW.out _ (by decide) _ HEr.out).mono ?_; rintro e w1 ⟨rfl, hb1⟩; have HB1 := Lib.hid (HB.out.drew.trans (hb1.mono HB.out.drew.size)); have HT1 := Lib.hid (TextsAt.below (w := wr.drew) HT'.out hb1 HGl.out); have hG1 := Nat.lt_of_lt_of_le HGl.out hb1.size; have HE1 := Lib.hid (HE.out.below HB1.out); have d1 := HT1.out 3 (by decide); clear hb1)
            | (go_at_call 81; refine (CM.out _ (by decide) _ HE1.out).mono ?_; rintro e w2 ⟨rfl, hb2⟩; have HB2 := Lib.hid (HB1.out.trans (hb2.mono HB1.out.size)); have HT2 := Lib.hid (HT1.out.below hb2 hG1); have hG2 := Nat.lt_of_lt_of_le hG1 hb2.size; have HE2 := Lib.hid (HE.out.below HB2.out); have d2 := HT2.out 3 (by decide); clear hb2))
        all_goals
          go_wp2_with fail
          refine (CA.out _ (by decide) _ HE2.out).mono ?_
          rintro e w3 ⟨rfl, hb3⟩
          have HB3 := Lib.hid (HB2.out.trans (hb3.mono HB2.out.size))
          have HT3 := Lib.hid (HT2.out.below hb3 hG2)
          have HG3 := Lib.hid (Nat.lt_of_lt_of_le hG2 hb3.size)
          clear hb3
          go_wp2_with fail
          go_roundg (N - (3 + 1))
          case measure => have := HN.out; omega
          case rel => exact ⟨4, rfl, by decide, rfl, rfl, HB3.out, HT3.out, HG3.out⟩
      · go_wp2_with fail
        go_region_held3 (fun w' => w'.cell? ⟨G, 4, none⟩ = some (.string (qt (q 4))))
          (first | go_keep | exact d0 | exact d1 | exact d2)
          (first
            | (go_at_call 98; refine (CW.out _ (by decide) _ HEr.out).mono ?_; rintro e w1 ⟨rfl, hb1⟩; have HB1 := Lib.hid (HB.out.drew.trans (hb1.mono HB.out.drew.size)); have HT1 := Lib.hid (TextsAt.below (w := wr.drew) HT'.out hb1 HGl.out); have hG1 := Nat.lt_of_lt_of_le HGl.out hb1.size; have HE1 := Lib.hid (HE.out.below HB1.out); have d1 := HT1.out 4 (by decide); clear hb1)
            | (go_at_call 81; refine (CM.out _ (by decide) _ HE1.out).mono ?_; rintro e w2 ⟨rfl, hb2⟩; have HB2 := Lib.hid (HB1.out.trans (hb2.mono HB1.out.size)); have HT2 := Lib.hid (HT1.out.below hb2 hG1); have hG2 := Nat.lt_of_lt_of_le hG1 hb2.size; have HE2 := Lib.hid (HE.out.below HB2.out); have d2 := HT2.out 4 (by decide); clear hb2))
        all_goals
          go_wp2_with fail
          refine (CA.out _ (by decide) _ HE2.out).mono ?_
          rintro e w3 ⟨rfl, hb3⟩
          have HB3 := Lib.hid (HB2.out.trans (hb3.mono HB2.out.size))
          have HT3 := Lib.hid (HT2.out.below hb3 hG2)
          have HG3 := Lib.hid (Nat.lt_of_lt_of_le hG2 hb3.size)
          clear hb3
          go_wp2_with fail
          go_roundg (N - (4 + 1))
          case measure => have := HN.out; omega
          case rel => exact ⟨5, rfl, by decide, rfl, rfl, HB3.out, HT3.out, HG3.out⟩
      · go_wp2_with fail
        go_region_held3 (fun w' => w'.cell? ⟨G, 5, none⟩ = some (.string (qt (q 5))))
          (first | go_keep | exact d0 | exact d1 | exact d2)
          (first
            | (go_at_call 98; refine (CW.out _ (by decide) _ HEr.out).mono ?_; rintro e w1 ⟨rfl, hb1⟩; have HB1 := Lib.hid (HB.out.drew.trans (hb1.mono HB.out.drew.size)); have HT1 := Lib.hid (TextsAt.below (w := wr.drew) HT'.out hb1 HGl.out); have hG1 := Nat.lt_of_lt_of_le HGl.out hb1.size; have HE1 := Lib.hid (HE.out.below HB1.out); have d1 := HT1.out 5 (by decide); clear hb1)
            | (go_at_call 81; refine (CM.out _ (by decide) _ HE1.out).mono ?_; rintro e w2 ⟨rfl, hb2⟩; have HB2 := Lib.hid (HB1.out.trans (hb2.mono HB1.out.size)); have HT2 := Lib.hid (HT1.out.below hb2 hG1); have hG2 := Nat.lt_of_lt_of_le hG1 hb2.size; have HE2 := Lib.hid (HE.out.below HB2.out); have d2 := HT2.out 5 (by decide); clear hb2))
        all_goals
          go_wp2_with fail
          refine (CA.out _ (by decide) _ HE2.out).mono ?_
          rintro e w3 ⟨rfl, hb3⟩
          have HB3 := Lib.hid (HB2.out.trans (hb3.mono HB2.out.size))
          have HT3 := Lib.hid (HT2.out.below hb3 hG2)
          have HG3 := Lib.hid (Nat.lt_of_lt_of_le hG2 hb3.size)
          clear hb3
          go_wp2_with fail
          go_roundg (N - (5 + 1))
          case measure => have := HN.out; omega
          case rel => exact ⟨6, rfl, by decide, rfl, rfl, HB3.out, HT3.out, HG3.out⟩
    · have hk6 : k = 6 := by omega
      subst hk6
      rw [H6.out]
      go_wp2_with fail
      go_ret2
      exact ⟨rfl, HB.out⟩
end Go.Proofs.YtbpegjgpdgeadaaGreatDoor
namespace Go.Proofs.YtbpegjgpdgeadaaGreatDoor
open Go Go.RowKit Metro
open Go.Lib (nDigits decDigits)

/-- These cells lie in block b. -/
def Blk (w : World) (b : Nat) (cs : Array Value) (T : Nat) : Prop := w.heap[b]? = some (.cells cs T (0, 0))
section
variable {w : World} {b T : Nat} {cs : Array Value}
theorem Blk.lt (h : Blk w b cs T) : b < w.heap.size := (Array.getElem?_eq_some_iff.1 h).1
theorem Blk.cell (h : Blk w b cs T) (i : Nat) : w.cell? ⟨b, i, none⟩ = cs[i]? := Lib.cell_of_heap h i
theorem Blk.free (h : Blk w b cs T) (i : Nat) : w.frozen? ⟨b, i, none⟩ = false := Lib.frozen_of_heap h i
theorem Blk.below {B : Nat} {w' : World} (h : Blk w b cs T) (hb : Below B w w') (hB : b < B) : Blk w' b cs T := by
  unfold Blk; rw [hb.block b hB]; exact h
theorem Blk.later {w' : World} (h : Blk w b cs T) (hb : Below w.heap.size w w') : Blk w' b cs T := h.below hb h.lt
theorem Blk.drew (h : Blk w b cs T) : Blk w.drew b cs T := h
theorem Blk.alloc (h : Blk w b cs T) (o : Obj) : Blk (w.alloc o) b cs T := h.later (below_one w o)
theorem Blk.set (h : Blk w b cs T) (i : Nat) (v : Value) : Blk (w.setCell ⟨b, i, none⟩ v) b (cs.setIfInBounds i v) T := by
  unfold Blk World.setCell
  simp only [Array.getElem?_modify, if_true]
  rw [show w.heap[b]? = _ from h]
  simp
theorem Blk.other {a : Addr} (h : Blk w b cs T) (ha : a.block ≠ b) (v : Value) : Blk (w.setCell a v) b cs T := by
  unfold Blk
  rw [Below.heap_setCell _ _ _ _ (Ne.symm ha)]
  exact h
end
theorem blk_new (w : World) (cs : Array Value) (T : Nat) : Blk (w.alloc (.cells cs T)) w.heap.size cs T := heap_alloc_new w _
theorem blk_new1 (w : World) (o : Obj) (cs : Array Value) (T : Nat) : Blk ((w.alloc o).alloc (.cells cs T)) (w.heap.size + 1) cs T := alloc2_new w o _
theorem blk_new2 (w : World) (o p : Obj) (cs : Array Value) (T : Nat) : Blk (((w.alloc o).alloc p).alloc (.cells cs T)) (w.heap.size + 1 + 1) cs T := by
  have := heap_alloc_new ((w.alloc o).alloc p) (.cells cs T)
  rwa [show ((w.alloc o).alloc p).heap.size = w.heap.size + 1 + 1 from by simp] at this
theorem below_three (w : World) (o p q : Obj) : Below w.heap.size w (((w.alloc o).alloc p).alloc q) := (below_two w o p).alloc (by simp; omega) _

/-- Six texts as cells. -/
def t6 (t : Nat → ByteArray) : Array Value := #[.string (t 0), .string (t 1), .string (t 2), .string (t 3), .string (t 4), .string (t 5)]
def e3 : Array Value := #[.string ⟨#[]⟩, .string ⟨#[]⟩, .string ⟨#[]⟩]
def e6 : Array Value := #[.string ⟨#[]⟩, .string ⟨#[]⟩, .string ⟨#[]⟩, .string ⟨#[]⟩, .string ⟨#[]⟩, .string ⟨#[]⟩]

set_option maxHeartbeats 1000000 in
set_option maxRecDepth 100000 in
theorem applyErr_any (t : Nat → ByteArray) (x y z : Int) (w : World) (hE : Env w) (hs : ∀ i, i < 6 → (t i).size ≤ 4000000000) (h0 : fe t 6 ≠ 0) :
    Calls Tryz.prog 21 #[.agg #[.string (t 0), .string (t 1), .string (t 2), .string (t 3), .string (t 4), .string (t 5)], .agg #[.int .i64 x, .int .i64 y, .int .i64 z]] w
      fun e w' => e = .returned (.tuple #[.agg #[.string ⟨#[]⟩, .string ⟨#[]⟩, .string ⟨#[]⟩], .int .i64 (fe t 6 : Nat)]) ∧ Below w.heap.size w w' := by
  have C := Lib.hid (fun w hE => torCheck_any t w hE hs)
  obtain ⟨E, hEe⟩ : ∃ E, E = fe t 6 := ⟨_, rfl⟩
  rw [← hEe] at C h0 ⊢
  have hne : ((E : Int) == 0) = false := by rw [beq_eq_false_iff_ne]; omega
  have HE := Lib.hid hE
  clear hE hEe hs h0
  go_enter Tryz.func21, Tryz.ntmps21
  go_wp2_with fail
  have hb0 := below_three w (.cells #[.string (t 0), .string (t 1), .string (t 2), .string (t 3), .string (t 4), .string (t 5)] 25) (.cells #[.int .i64 x, .int .i64 y, .int .i64 z] 27) (.cells #[.string ⟨#[]⟩, .string ⟨#[]⟩, .string ⟨#[]⟩] 23)
  have hr := blk_new2 w (.cells #[.string (t 0), .string (t 1), .string (t 2), .string (t 3), .string (t 4), .string (t 5)] 25) (.cells #[.int .i64 x, .int .i64 y, .int .i64 z] 27) #[.string ⟨#[]⟩, .string ⟨#[]⟩, .string ⟨#[]⟩] 23
  have HB0 := Lib.hid hb0; have HR0 := Lib.hid hr
  clear hb0 hr
  refine (C.out _ (HE.out.below HB0.out)).mono ?_
  rintro e w1 ⟨rfl, hb1⟩
  have hr := HR0.out.later hb1
  have HB1 := Lib.hid (HB0.out.trans (hb1.mono HB0.out.size))
  have r0 := hr.cell 0; have r1 := hr.cell 1; have r2 := hr.cell 2
  have f0 := hr.free 0; have f1 := hr.free 1; have f2 := hr.free 2
  clear hb1
  go_wp2_with fail
  have hr3 := ((hr.set 0 (.string ⟨#[]⟩)).set 1 (.string ⟨#[]⟩)).set 2 (.string ⟨#[]⟩)
  have hb3 := ((HB1.out.setCell (p := ⟨w.heap.size + 1 + 1, 0, none⟩) (by show _ ≤ w.heap.size + 1 + 1; omega) (.string ⟨#[]⟩)).setCell (p := ⟨w.heap.size + 1 + 1, 1, none⟩) (by show _ ≤ w.heap.size + 1 + 1; omega) (.string ⟨#[]⟩)).setCell (p := ⟨w.heap.size + 1 + 1, 2, none⟩) (by show _ ≤ w.heap.size + 1 + 1; omega) (.string ⟨#[]⟩)
  generalize (((w1.setCell ⟨w.heap.size + 1 + 1, 0, none⟩ (.string ⟨#[]⟩)).setCell ⟨w.heap.size + 1 + 1, 1, none⟩ (.string ⟨#[]⟩)).setCell ⟨w.heap.size + 1 + 1, 2, none⟩ (.string ⟨#[]⟩)) = W3 at hr3 hb3 ⊢
  have s0 := hr3.cell 0; have s1 := hr3.cell 1; have s2 := hr3.cell 2
  exact bodyPost_ret (by simp [results, Tryz.results21, go_sem, s0, s1, s2]; try rfl) rfl ⟨rfl, hb3⟩
end Go.Proofs.YtbpegjgpdgeadaaGreatDoor
namespace Go.Proofs.YtbpegjgpdgeadaaGreatDoor
open Go Go.RowKit Metro
open Go.Lib (nDigits decDigits)

theorem errP_cases (x y z : Int) : (okP x y z = true ∧ errP x y z = 0) ∨ (okP x y z = false ∧ errP x y z = 2) := by
  unfold errP; cases okP x y z <;> simp

set_option maxHeartbeats 1000000 in
set_option maxRecDepth 100000 in
theorem applyPt_any (t : Nat → ByteArray) (x y z : Int) (w : World) (hE : Env w) (hs : ∀ i, i < 6 → (t i).size ≤ 4000000000) (h0 : fe t 6 = 0) (hp : okP x y z = false) :
    Calls Tryz.prog 21 #[.agg #[.string (t 0), .string (t 1), .string (t 2), .string (t 3), .string (t 4), .string (t 5)], .agg #[.int .i64 x, .int .i64 y, .int .i64 z]] w
      fun e w' => e = .returned (.tuple #[.agg #[.string ⟨#[]⟩, .string ⟨#[]⟩, .string ⟨#[]⟩], .int .i64 2]) ∧ Below w.heap.size w w' := by
  have C := Lib.hid (fun w hE => torCheck_any t w hE hs)
  rw [h0] at C
  have S := Lib.hid (spot1_any x y z 27)
  rw [show errP x y z = 2 from by unfold errP; rw [hp]; rfl] at S
  have HE := Lib.hid hE
  clear hE hs h0 hp
  go_enter Tryz.func21, Tryz.ntmps21
  go_wp2_with fail
  have hb0 := below_three w (.cells #[.string (t 0), .string (t 1), .string (t 2), .string (t 3), .string (t 4), .string (t 5)] 25) (.cells #[.int .i64 x, .int .i64 y, .int .i64 z] 27) (.cells #[.string ⟨#[]⟩, .string ⟨#[]⟩, .string ⟨#[]⟩] 23)
  have hr := blk_new2 w (.cells #[.string (t 0), .string (t 1), .string (t 2), .string (t 3), .string (t 4), .string (t 5)] 25) (.cells #[.int .i64 x, .int .i64 y, .int .i64 z] 27) #[.string ⟨#[]⟩, .string ⟨#[]⟩, .string ⟨#[]⟩] 23
  have hp := (blk_new1 w (.cells #[.string (t 0), .string (t 1), .string (t 2), .string (t 3), .string (t 4), .string (t 5)] 25) #[.int .i64 x, .int .i64 y, .int .i64 z] 27).alloc (.cells #[.string ⟨#[]⟩, .string ⟨#[]⟩, .string ⟨#[]⟩] 23)
  have HB0 := Lib.hid hb0; have HR0 := Lib.hid hr; have HP0 := Lib.hid hp
  clear hb0 hr hp
  refine (C.out _ (HE.out.below HB0.out)).mono ?_
  rintro e w1 ⟨rfl, hb1⟩
  have HR1 := Lib.hid (HR0.out.later hb1); have HP1 := Lib.hid (HP0.out.later hb1)
  have HB1 := Lib.hid (HB0.out.trans (hb1.mono HB0.out.size))
  clear hb1
  have p0 := HP1.out.cell 0; have p1 := HP1.out.cell 1; have p2 := HP1.out.cell 2
  go_wp2_with fail
  refine (S.out _ _ (blk_new _ _ _)).mono ?_
  rintro e w2 ⟨rfl, hb2⟩
  have hr := (HR1.out.alloc (.cells #[.int .i64 x, .int .i64 y, .int .i64 z] 27)).later hb2
  have HB2 := Lib.hid ((HB1.out.alloc HB1.out.size (.cells #[.int .i64 x, .int .i64 y, .int .i64 z] 27)).trans (hb2.mono (by have := HB1.out.size; simp; omega)))
  have r0 := hr.cell 0; have r1 := hr.cell 1; have r2 := hr.cell 2
  have f0 := hr.free 0; have f1 := hr.free 1; have f2 := hr.free 2
  clear hb2 p0 p1 p2
  go_wp2_with fail
  have hr3 := ((hr.set 0 (.string ⟨#[]⟩)).set 1 (.string ⟨#[]⟩)).set 2 (.string ⟨#[]⟩)
  have hb3 := ((HB2.out.setCell (p := ⟨w.heap.size + 1 + 1, 0, none⟩) (by show _ ≤ w.heap.size + 1 + 1; omega) (.string ⟨#[]⟩)).setCell (p := ⟨w.heap.size + 1 + 1, 1, none⟩) (by show _ ≤ w.heap.size + 1 + 1; omega) (.string ⟨#[]⟩)).setCell (p := ⟨w.heap.size + 1 + 1, 2, none⟩) (by show _ ≤ w.heap.size + 1 + 1; omega) (.string ⟨#[]⟩)
  generalize (((w2.setCell ⟨w.heap.size + 1 + 1, 0, none⟩ (.string ⟨#[]⟩)).setCell ⟨w.heap.size + 1 + 1, 1, none⟩ (.string ⟨#[]⟩)).setCell ⟨w.heap.size + 1 + 1, 2, none⟩ (.string ⟨#[]⟩)) = W3 at hr3 hb3 ⊢
  have s0 := hr3.cell 0; have s1 := hr3.cell 1; have s2 := hr3.cell 2
  exact bodyPost_ret (by simp [results, Tryz.results21, go_sem, s0, s1, s2]; try rfl) rfl ⟨rfl, hb3⟩
end Go.Proofs.YtbpegjgpdgeadaaGreatDoor
namespace Go.Proofs.YtbpegjgpdgeadaaGreatDoor
open Go Go.RowKit Metro
open Go.Lib (nDigits decDigits)

theorem ix56 (x0 x1 x2 : Value) : (∀ w, (Instr.index 56 (.agg #[x0, x1, x2]) (.int .i64 0)).run Tryz.prog w = .ok x0 w) ∧ (∀ w, (Instr.index 56 (.agg #[x0, x1, x2]) (.int .i64 1)).run Tryz.prog w = .ok x1 w) ∧ (∀ w, (Instr.index 56 (.agg #[x0, x1, x2]) (.int .i64 2)).run Tryz.prog w = .ok x2 w) :=
  ⟨fun _ => by kernel_rfl, fun _ => by kernel_rfl, fun _ => by kernel_rfl⟩

/-- The first k texts of three. -/
def oc (g : Nat → ByteArray) (k i : Nat) : ByteArray := if i < k then g i else ⟨#[]⟩
def ocC (g : Nat → ByteArray) (k : Nat) : Array Value := #[.string (oc g k 0), .string (oc g k 1), .string (oc g k 2)]
theorem ocC_zero (g : Nat → ByteArray) : ocC g 0 = #[.string ⟨#[]⟩, .string ⟨#[]⟩, .string ⟨#[]⟩] := by simp [ocC, oc]
theorem ocC_three (g : Nat → ByteArray) : ocC g 3 = #[.string (g 0), .string (g 1), .string (g 2)] := by simp [ocC, oc]
theorem ocC_set (g : Nat → ByteArray) {k : Nat} (hk : k < 3) : (ocC g k).setIfInBounds k (.string (g k)) = ocC g (k + 1) := by
  have : k = 0 ∨ k = 1 ∨ k = 2 := by omega
  rcases this with rfl | rfl | rfl <;> simp [ocC, oc]

theorem crd_small {x y z : Int} (hp : okP x y z = true) (k : Nat) : -100000 ≤ crd x y z k ∧ crd x y z k ≤ 100000 := by
  unfold okP at hp
  simp only [Bool.and_eq_true, inC_iff] at hp
  unfold crd
  split <;> omega
theorem frm_small {x y z : Int} (hp : okP x y z = true) (k i : Nat) : (frm x y z k i).natAbs < 1000000 := by
  unfold okP at hp
  simp only [Bool.and_eq_true, inC_iff] at hp
  unfold frm
  split <;> omega
theorem okP_parts {x y z : Int} (hp : okP x y z = true) : (-100000 ≤ x ∧ x ≤ 100000) ∧ (-100000 ≤ y ∧ y ≤ 100000) ∧ (-100000 ≤ z ∧ z ≤ 100000) := by
  unfold okP at hp
  simp only [Bool.and_eq_true, inC_iff] at hp
  exact ⟨hp.1.1, hp.1.2, hp.2⟩
theorem fe_qt {D : Nat} {q : Nat → Rat} {n : Nat} (hq : ∀ i, i < n → Dig D (q i)) (hD : D ≤ 1024 := by decide) : fe (fun i => qt (q i)) n = 0 :=
  fe_zero.2 fun i hi => by rw [qt_toList]; exact chkQ_ql ((hq i hi).fits hD)
theorem dot_dig {D : Nat} {c : Nat → Int} {q : Nat → Rat} (hc : ∀ i, i < 6 → (c i).natAbs < 1000000) (hq : ∀ i, i < 6 → Dig D (q i)) : Dig (1 + (D + 7) * 6) (dot6 c q) := part_dig hc hq 6 (by decide)
theorem crd_dig {x y z : Int} (hp : okP x y z = true) (k : Nat) : Dig 6 (crd x y z k : Rat) := dig_int _ (by decide) (by have := crd_small hp k; omega)
theorem gone_dig {D : Nat} {x y z : Int} {q : Nat → Rat} (hp : okP x y z = true) (hq : ∀ i, i < 6 → Dig D (q i)) (k : Nat) : Dig (6 + (1 + (D + 7) * 6) + 1) (gone q x y z k) :=
  (crd_dig hp k).add (dot_dig (fun i _ => frm_small hp k i) hq)

set_option maxHeartbeats 4000000 in
set_option maxRecDepth 100000 in
theorem applyOk_any {D : Nat} (q : Nat → Rat) (x y z : Int) (w : World) (hE : Env w) (hq : ∀ i, i < 6 → Dig D (q i)) (hp : okP x y z = true) (hD : D ≤ 150 := by decide) :
    Calls Tryz.prog 21 #[.agg #[.string (qt (q 0)), .string (qt (q 1)), .string (qt (q 2)), .string (qt (q 3)), .string (qt (q 4)), .string (qt (q 5))], .agg #[.int .i64 x, .int .i64 y, .int .i64 z]] w
      fun e w' => e = .returned (.tuple #[.agg #[.string (qt (gone q x y z 0)), .string (qt (gone q x y z 1)), .string (qt (gone q x y z 2))], .int .i64 0]) ∧ Below w.heap.size w w' := by
  have C : Hid (∀ w, Env w → Calls Tryz.prog 23 #[.agg #[.string (qt (q 0)), .string (qt (q 1)), .string (qt (q 2)), .string (qt (q 3)), .string (qt (q 4)), .string (qt (q 5))]] w fun e w' => e = .returned (.int .i64 0) ∧ Below w.heap.size w w') := Lib.hid (fun w hE => by
    have := torCheck_any (fun i => qt (q i)) w hE (fun i hi => Nat.le_trans (qt_size ((hq i hi).fits (by omega))) (by decide))
    rw [fe_qt hq (by omega)] at this
    exact this)
  have S := Lib.hid (spot1_any x y z 27)
  rw [show errP x y z = 0 from by unfold errP; rw [hp]; rfl] at S
  have CO := Lib.hid (coordinates_any x y z)
  have hpp := okP_parts hp
  have CF : Hid (∀ k, k < 3 → ∀ w, Calls Tryz.prog 95 #[.int .i64 (k : Nat), .agg #[.int .i64 x, .int .i64 y, .int .i64 z]] w fun E w' => E = .returned (.agg #[.int .i64 (frm x y z k 0), .int .i64 (frm x y z k 1), .int .i64 (frm x y z k 2), .int .i64 (frm x y z k 3), .int .i64 (frm x y z k 4), .int .i64 (frm x y z k 5)]) ∧ Below w.heap.size w w') := Lib.hid (fun k hk w => form_any k hk x y z w hpp.1 hpp.2.1 hpp.2.2)
  have CN := Lib.hid (numbers_any (qt (q 0)) (qt (q 1)) (qt (q 2)) (qt (q 3)) (qt (q 4)) (qt (q 5)))
  have CT : Hid (∀ k w, Env w → Calls Tryz.prog 94 #[.agg #[.int .i64 (frm x y z k 0), .int .i64 (frm x y z k 1), .int .i64 (frm x y z k 2), .int .i64 (frm x y z k 3), .int .i64 (frm x y z k 4), .int .i64 (frm x y z k 5)], .agg #[.string (qt (q 0)), .string (qt (q 1)), .string (qt (q 2)), .string (qt (q 3)), .string (qt (q 4)), .string (qt (q 5))]] w
      fun e w' => e = .returned (.tuple #[.string (qt (dot6 (frm x y z k) q)), .int .i64 0]) ∧ Below w.heap.size w w') := Lib.hid (fun k w hE => times6_any 6 rfl (frm x y z k) q w hE (fun i _ => frm_small hp k i) hq hD)
  have CW : Hid (∀ k w, Env w → Calls Tryz.prog 98 #[.int .i64 (crd x y z k)] w fun e w' => e = .returned (.string (qt (crd x y z k : Rat))) ∧ Below w.heap.size w w') := Lib.hid (fun k w hE => by
    have := crd_small hp k
    exact qwhole_any (crd x y z k) w (by omega) (by omega) hE)
  have CA : Hid (∀ k w, Env w → Calls Tryz.prog 97 #[.string (qt (crd x y z k : Rat)), .string (qt (dot6 (frm x y z k) q))] w fun e w' => QOk (gone q x y z k) e w w') := Lib.hid (fun k w hE =>
    qadd_any _ _ 6 (1 + (D + 7) * 6) w hE (crd_dig hp k) (dot_dig (fun i _ => frm_small hp k i) hq) (by omega))
  have HE := Lib.hid hE
  clear hE hq hp hpp hD
  obtain ⟨N, hN⟩ : ∃ N : Nat, N = 3 := ⟨_, rfl⟩
  have HN := Lib.hid hN
  clear hN
  have GS : Hid (∀ k, k < 3 → (ocC (fun i => qt (gone q x y z i)) k).setIfInBounds k (.string (qt (gone q x y z k))) = ocC (fun i => qt (gone q x y z i)) (k + 1)) := Lib.hid fun k hk => ocC_set _ hk
  go_enter Tryz.func21, Tryz.ntmps21
  go_wp2_with fail
  have hb0 := below_three w (.cells #[.string (qt (q 0)), .string (qt (q 1)), .string (qt (q 2)), .string (qt (q 3)), .string (qt (q 4)), .string (qt (q 5))] 25) (.cells #[.int .i64 x, .int .i64 y, .int .i64 z] 27) (.cells #[.string ⟨#[]⟩, .string ⟨#[]⟩, .string ⟨#[]⟩] 23)
  have hr := blk_new2 w (.cells #[.string (qt (q 0)), .string (qt (q 1)), .string (qt (q 2)), .string (qt (q 3)), .string (qt (q 4)), .string (qt (q 5))] 25) (.cells #[.int .i64 x, .int .i64 y, .int .i64 z] 27) #[.string ⟨#[]⟩, .string ⟨#[]⟩, .string ⟨#[]⟩] 23
  have hp := (blk_new1 w (.cells #[.string (qt (q 0)), .string (qt (q 1)), .string (qt (q 2)), .string (qt (q 3)), .string (qt (q 4)), .string (qt (q 5))] 25) #[.int .i64 x, .int .i64 y, .int .i64 z] 27).alloc (.cells #[.string ⟨#[]⟩, .string ⟨#[]⟩, .string ⟨#[]⟩] 23)
  have ht := ((blk_new w #[.string (qt (q 0)), .string (qt (q 1)), .string (qt (q 2)), .string (qt (q 3)), .string (qt (q 4)), .string (qt (q 5))] 25).alloc (.cells #[.int .i64 x, .int .i64 y, .int .i64 z] 27)).alloc (.cells #[.string ⟨#[]⟩, .string ⟨#[]⟩, .string ⟨#[]⟩] 23)
  have HB0 := Lib.hid hb0; have HR0 := Lib.hid hr; have HP0 := Lib.hid hp; have HT0 := Lib.hid ht
  clear hb0 hr hp ht
  refine (C.out _ (HE.out.below HB0.out)).mono ?_
  rintro e w1 ⟨rfl, hb1⟩
  have HR1 := Lib.hid (HR0.out.later hb1); have HP1 := Lib.hid (HP0.out.later hb1); have HT1 := Lib.hid (HT0.out.later hb1)
  have HB1 := Lib.hid (HB0.out.trans (hb1.mono HB0.out.size))
  clear hb1
  have p0 := HP1.out.cell 0; have p1 := HP1.out.cell 1; have p2 := HP1.out.cell 2
  go_wp2_with fail
  refine (S.out _ _ (blk_new _ _ _)).mono ?_
  rintro e w2 ⟨rfl, hb2⟩
  have HR2 := Lib.hid ((HR1.out.alloc (.cells #[.int .i64 x, .int .i64 y, .int .i64 z] 27)).later hb2); have HP2 := Lib.hid ((HP1.out.alloc (.cells #[.int .i64 x, .int .i64 y, .int .i64 z] 27)).later hb2); have HT2 := Lib.hid ((HT1.out.alloc (.cells #[.int .i64 x, .int .i64 y, .int .i64 z] 27)).later hb2)
  have HB2 := Lib.hid ((HB1.out.alloc HB1.out.size (.cells #[.int .i64 x, .int .i64 y, .int .i64 z] 27)).trans (hb2.mono (by have := HB1.out.size; simp; omega)))
  clear hb2 p0 p1 p2
  have p0 := HP2.out.cell 0; have p1 := HP2.out.cell 1; have p2 := HP2.out.cell 2
  have hlp := HP2.out.lt
  go_wp2_with fail
  refine (CO.out _).mono ?_
  rintro e w3 ⟨rfl, hb3⟩
  have HR3 := Lib.hid ((HR2.out.alloc (.cells #[.string ⟨#[]⟩, .string ⟨#[]⟩, .string ⟨#[]⟩] 23)).later hb3); have HP3 := Lib.hid ((HP2.out.alloc (.cells #[.string ⟨#[]⟩, .string ⟨#[]⟩, .string ⟨#[]⟩] 23)).later hb3); have HT3 := Lib.hid ((HT2.out.alloc (.cells #[.string ⟨#[]⟩, .string ⟨#[]⟩, .string ⟨#[]⟩] 23)).later hb3)
  have HO3 := Lib.hid ((blk_new w2 #[.string ⟨#[]⟩, .string ⟨#[]⟩, .string ⟨#[]⟩] 23).later hb3)
  have HB3 := Lib.hid ((HB2.out.alloc HB2.out.size (.cells #[.string ⟨#[]⟩, .string ⟨#[]⟩, .string ⟨#[]⟩] 23)).trans (hb3.mono (by have := HB2.out.size; simp; omega)))
  have hlr := HR2.out.lt
  clear hb3 p0 p1 p2 hlp
  obtain ⟨O, hO⟩ : ∃ O, O = w2.heap.size := ⟨_, rfl⟩
  rw [← hO] at HO3 hlr ⊢
  rw [← ocC_zero (fun i => qt (gone q x y z i))] at HO3
  clear hO
  have HLr := Lib.hid hlr
  clear hlr
  go_wp2_with fail
  go_loopg [9, 10, 11, 12, 28] N (fun d _ _ _ _ i wr => ∃ k : Nat, i = .int .i64 k ∧ k ≤ 3 ∧ d = N - k ∧ Blk wr w.heap.size #[.string (qt (q 0)), .string (qt (q 1)), .string (qt (q 2)), .string (qt (q 3)), .string (qt (q 4)), .string (qt (q 5))] 25 ∧ Blk wr (w.heap.size + 1) #[.int .i64 x, .int .i64 y, .int .i64 z] 27 ∧ Blk wr (w.heap.size + 1 + 1) #[.string ⟨#[]⟩, .string ⟨#[]⟩, .string ⟨#[]⟩] 23 ∧ Blk wr O (ocC (fun i => qt (gone q x y z i)) k) 23 ∧ Below w.heap.size w wr)
  case atStart => exact ⟨0, rfl, by decide, rfl, HT3.out, HP3.out, HR3.out, HO3.out, HB3.out⟩
  case round =>
    obtain ⟨k, rfl, hk, rfl, ht, hp, hr, ho, hb⟩ := hrel
    have HT := Lib.hid ht; have HP := Lib.hid hp; have HR := Lib.hid hr; have HO := Lib.hid ho; have HB := Lib.hid hb
    clear ht hp hr ho hb
    by_cases hlt : k < 3
    · have hk' : k = 0 ∨ k = 1 ∨ k = 2 := by omega
      obtain ⟨i0, i1, i2⟩ := ix56 (.int .i64 x) (.int .i64 y) (.int .i64 z)
      have p0 := HP.out.cell 0; have p1 := HP.out.cell 1; have p2 := HP.out.cell 2
      have t0 := HT.out.cell 0; have t1 := HT.out.cell 1; have t2 := HT.out.cell 2; have t3 := HT.out.cell 3; have t4 := HT.out.cell 4; have t5 := HT.out.cell 5
      have HEr := Lib.hid (HE.out.below HB.out).drew
      rcases hk' with rfl | rfl | rfl
      · go_wp2_with fail
        go_region_held3 (fun w' => w'.cell? ⟨w.heap.size + 1, 0, none⟩ = some (.int .i64 x) ∧ w'.cell? ⟨w.heap.size + 1, 1, none⟩ = some (.int .i64 y) ∧ w'.cell? ⟨w.heap.size + 1, 2, none⟩ = some (.int .i64 z) ∧ w'.cell? ⟨w.heap.size, 0, none⟩ = some (.string (qt (q 0))) ∧ w'.cell? ⟨w.heap.size, 1, none⟩ = some (.string (qt (q 1))) ∧ w'.cell? ⟨w.heap.size, 2, none⟩ = some (.string (qt (q 2))) ∧ w'.cell? ⟨w.heap.size, 3, none⟩ = some (.string (qt (q 3))) ∧ w'.cell? ⟨w.heap.size, 4, none⟩ = some (.string (qt (q 4))) ∧ w'.cell? ⟨w.heap.size, 5, none⟩ = some (.string (qt (q 5))))
          (first | go_keep | exact ⟨p0, p1, p2, t0, t1, t2, t3, t4, t5⟩ | exact ⟨ap0, ap1, ap2, at0, at1, at2, at3, at4, at5⟩ | exact ⟨bp0, bp1, bp2, bt0, bt1, bt2, bt3, bt4, bt5⟩ | exact ⟨cp0, cp1, cp2, ct0, ct1, ct2, ct3, ct4, ct5⟩)
          (first
            | (go_at_call 95; refine (CF.out _ (by decide) _).mono ?_; rintro e wn ⟨rfl, hbn⟩; first | (have HBb := Lib.hid (HBa.out.trans (hbn.mono HBa.out.size)); have HTb := Lib.hid (Blk.later (HTa.out) hbn); have HPb := Lib.hid (Blk.later (HPa.out) hbn); have HRb := Lib.hid (Blk.later (HRa.out) hbn); have HOb := Lib.hid (Blk.later (HOa.out) hbn); have bp0 := HPb.out.cell 0; have bp1 := HPb.out.cell 1; have bp2 := HPb.out.cell 2; have bt0 := HTb.out.cell 0; have bt1 := HTb.out.cell 1; have bt2 := HTb.out.cell 2; have bt3 := HTb.out.cell 3; have bt4 := HTb.out.cell 4; have bt5 := HTb.out.cell 5; clear hbn) | (have HBa := Lib.hid (HB.out.drew.trans (hbn.mono HB.out.drew.size)); have HTa := Lib.hid (Blk.later (HT.out.drew) hbn); have HPa := Lib.hid (Blk.later (HP.out.drew) hbn); have HRa := Lib.hid (Blk.later (HR.out.drew) hbn); have HOa := Lib.hid (Blk.later (HO.out.drew) hbn); have ap0 := HPa.out.cell 0; have ap1 := HPa.out.cell 1; have ap2 := HPa.out.cell 2; have at0 := HTa.out.cell 0; have at1 := HTa.out.cell 1; have at2 := HTa.out.cell 2; have at3 := HTa.out.cell 3; have at4 := HTa.out.cell 4; have at5 := HTa.out.cell 5; clear hbn))
            | (go_at_call 96; refine (CN.out _).mono ?_; rintro e wm ⟨rfl, hbm⟩; first | (have HBb := Lib.hid (HBa.out.trans (hbm.mono HBa.out.size)); have HTb := Lib.hid (Blk.later (HTa.out) hbm); have HPb := Lib.hid (Blk.later (HPa.out) hbm); have HRb := Lib.hid (Blk.later (HRa.out) hbm); have HOb := Lib.hid (Blk.later (HOa.out) hbm); have bp0 := HPb.out.cell 0; have bp1 := HPb.out.cell 1; have bp2 := HPb.out.cell 2; have bt0 := HTb.out.cell 0; have bt1 := HTb.out.cell 1; have bt2 := HTb.out.cell 2; have bt3 := HTb.out.cell 3; have bt4 := HTb.out.cell 4; have bt5 := HTb.out.cell 5; clear hbm) | (have HBa := Lib.hid (HB.out.drew.trans (hbm.mono HB.out.drew.size)); have HTa := Lib.hid (Blk.later (HT.out.drew) hbm); have HPa := Lib.hid (Blk.later (HP.out.drew) hbm); have HRa := Lib.hid (Blk.later (HR.out.drew) hbm); have HOa := Lib.hid (Blk.later (HO.out.drew) hbm); have ap0 := HPa.out.cell 0; have ap1 := HPa.out.cell 1; have ap2 := HPa.out.cell 2; have at0 := HTa.out.cell 0; have at1 := HTa.out.cell 1; have at2 := HTa.out.cell 2; have at3 := HTa.out.cell 3; have at4 := HTa.out.cell 4; have at5 := HTa.out.cell 5; clear hbm))
            | (go_at_call 94; refine (CT.out 0 _ (HE.out.below HBb.out)).mono ?_; rintro e wl ⟨rfl, hbl⟩; have HBc := Lib.hid (HBb.out.trans (hbl.mono HBb.out.size)); have HTc := Lib.hid (Blk.later (HTb.out) hbl); have HPc := Lib.hid (Blk.later (HPb.out) hbl); have HRc := Lib.hid (Blk.later (HRb.out) hbl); have HOc := Lib.hid (Blk.later (HOb.out) hbl); have cp0 := HPc.out.cell 0; have cp1 := HPc.out.cell 1; have cp2 := HPc.out.cell 2; have ct0 := HTc.out.cell 0; have ct1 := HTc.out.cell 1; have ct2 := HTc.out.cell 2; have ct3 := HTc.out.cell 3; have ct4 := HTc.out.cell 4; have ct5 := HTc.out.cell 5; clear hbl))
        all_goals
          go_wp2_with fail
          refine (CW.out 0 _ (HE.out.below HBc.out)).mono ?_
          rintro e wi ⟨rfl, hbi⟩
          have HBd := Lib.hid (HBc.out.trans (hbi.mono HBc.out.size)); have HTd := Lib.hid (Blk.later (HTc.out) hbi); have HPd := Lib.hid (Blk.later (HPc.out) hbi); have HRd := Lib.hid (Blk.later (HRc.out) hbi); have HOd := Lib.hid (Blk.later (HOc.out) hbi); clear hbi
          go_wp2_with fail
          refine (CA.out 0 _ (HE.out.below HBd.out)).mono ?_
          rintro e wj ⟨rfl, hbj⟩
          have HBe := Lib.hid (HBd.out.trans (hbj.mono HBd.out.size)); have HTe := Lib.hid (Blk.later (HTd.out) hbj); have HPe := Lib.hid (Blk.later (HPd.out) hbj); have HRe := Lib.hid (Blk.later (HRd.out) hbj); have HOe := Lib.hid (Blk.later (HOd.out) hbj); clear hbj
          have oK := HOe.out.cell 0
          have fK := HOe.out.free 0
          go_wp2_with fail
          go_roundg (N - (0 + 1))
          case measure => have := HN.out; omega
          case rel =>
            have hlr := HLr.out
            refine ⟨1, rfl, by decide, rfl, HTe.out.other (by show O ≠ _; omega) _, HPe.out.other (by show O ≠ _; omega) _, HRe.out.other (by show O ≠ _; omega) _, ?_, HBe.out.setCell (p := ⟨O, 0, none⟩) (by show _ ≤ O; omega) _⟩
            rw [← GS.out 0 (by decide)]
            exact HOe.out.set 0 _
      · go_wp2_with fail
        go_region_held3 (fun w' => w'.cell? ⟨w.heap.size + 1, 0, none⟩ = some (.int .i64 x) ∧ w'.cell? ⟨w.heap.size + 1, 1, none⟩ = some (.int .i64 y) ∧ w'.cell? ⟨w.heap.size + 1, 2, none⟩ = some (.int .i64 z) ∧ w'.cell? ⟨w.heap.size, 0, none⟩ = some (.string (qt (q 0))) ∧ w'.cell? ⟨w.heap.size, 1, none⟩ = some (.string (qt (q 1))) ∧ w'.cell? ⟨w.heap.size, 2, none⟩ = some (.string (qt (q 2))) ∧ w'.cell? ⟨w.heap.size, 3, none⟩ = some (.string (qt (q 3))) ∧ w'.cell? ⟨w.heap.size, 4, none⟩ = some (.string (qt (q 4))) ∧ w'.cell? ⟨w.heap.size, 5, none⟩ = some (.string (qt (q 5))))
          (first | go_keep | exact ⟨p0, p1, p2, t0, t1, t2, t3, t4, t5⟩ | exact ⟨ap0, ap1, ap2, at0, at1, at2, at3, at4, at5⟩ | exact ⟨bp0, bp1, bp2, bt0, bt1, bt2, bt3, bt4, bt5⟩ | exact ⟨cp0, cp1, cp2, ct0, ct1, ct2, ct3, ct4, ct5⟩)
          (first
            | (go_at_call 95; refine (CF.out _ (by decide) _).mono ?_; rintro e wn ⟨rfl, hbn⟩; first | (have HBb := Lib.hid (HBa.out.trans (hbn.mono HBa.out.size)); have HTb := Lib.hid (Blk.later (HTa.out) hbn); have HPb := Lib.hid (Blk.later (HPa.out) hbn); have HRb := Lib.hid (Blk.later (HRa.out) hbn); have HOb := Lib.hid (Blk.later (HOa.out) hbn); have bp0 := HPb.out.cell 0; have bp1 := HPb.out.cell 1; have bp2 := HPb.out.cell 2; have bt0 := HTb.out.cell 0; have bt1 := HTb.out.cell 1; have bt2 := HTb.out.cell 2; have bt3 := HTb.out.cell 3; have bt4 := HTb.out.cell 4; have bt5 := HTb.out.cell 5; clear hbn) | (have HBa := Lib.hid (HB.out.drew.trans (hbn.mono HB.out.drew.size)); have HTa := Lib.hid (Blk.later (HT.out.drew) hbn); have HPa := Lib.hid (Blk.later (HP.out.drew) hbn); have HRa := Lib.hid (Blk.later (HR.out.drew) hbn); have HOa := Lib.hid (Blk.later (HO.out.drew) hbn); have ap0 := HPa.out.cell 0; have ap1 := HPa.out.cell 1; have ap2 := HPa.out.cell 2; have at0 := HTa.out.cell 0; have at1 := HTa.out.cell 1; have at2 := HTa.out.cell 2; have at3 := HTa.out.cell 3; have at4 := HTa.out.cell 4; have at5 := HTa.out.cell 5; clear hbn))
            | (go_at_call 96; refine (CN.out _).mono ?_; rintro e wm ⟨rfl, hbm⟩; first | (have HBb := Lib.hid (HBa.out.trans (hbm.mono HBa.out.size)); have HTb := Lib.hid (Blk.later (HTa.out) hbm); have HPb := Lib.hid (Blk.later (HPa.out) hbm); have HRb := Lib.hid (Blk.later (HRa.out) hbm); have HOb := Lib.hid (Blk.later (HOa.out) hbm); have bp0 := HPb.out.cell 0; have bp1 := HPb.out.cell 1; have bp2 := HPb.out.cell 2; have bt0 := HTb.out.cell 0; have bt1 := HTb.out.cell 1; have bt2 := HTb.out.cell 2; have bt3 := HTb.out.cell 3; have bt4 := HTb.out.cell 4; have bt5 := HTb.out.cell 5; clear hbm) | (have HBa := Lib.hid (HB.out.drew.trans (hbm.mono HB.out.drew.size)); have HTa := Lib.hid (Blk.later (HT.out.drew) hbm); have HPa := Lib.hid (Blk.later (HP.out.drew) hbm); have HRa := Lib.hid (Blk.later (HR.out.drew) hbm); have HOa := Lib.hid (Blk.later (HO.out.drew) hbm); have ap0 := HPa.out.cell 0; have ap1 := HPa.out.cell 1; have ap2 := HPa.out.cell 2; have at0 := HTa.out.cell 0; have at1 := HTa.out.cell 1; have at2 := HTa.out.cell 2; have at3 := HTa.out.cell 3; have at4 := HTa.out.cell 4; have at5 := HTa.out.cell 5; clear hbm))
            | (go_at_call 94; refine (CT.out 1 _ (HE.out.below HBb.out)).mono ?_; rintro e wl ⟨rfl, hbl⟩; have HBc := Lib.hid (HBb.out.trans (hbl.mono HBb.out.size)); have HTc := Lib.hid (Blk.later (HTb.out) hbl); have HPc := Lib.hid (Blk.later (HPb.out) hbl); have HRc := Lib.hid (Blk.later (HRb.out) hbl); have HOc := Lib.hid (Blk.later (HOb.out) hbl); have cp0 := HPc.out.cell 0; have cp1 := HPc.out.cell 1; have cp2 := HPc.out.cell 2; have ct0 := HTc.out.cell 0; have ct1 := HTc.out.cell 1; have ct2 := HTc.out.cell 2; have ct3 := HTc.out.cell 3; have ct4 := HTc.out.cell 4; have ct5 := HTc.out.cell 5; clear hbl))
        all_goals
          go_wp2_with fail
          refine (CW.out 1 _ (HE.out.below HBc.out)).mono ?_
          rintro e wi ⟨rfl, hbi⟩
          have HBd := Lib.hid (HBc.out.trans (hbi.mono HBc.out.size)); have HTd := Lib.hid (Blk.later (HTc.out) hbi); have HPd := Lib.hid (Blk.later (HPc.out) hbi); have HRd := Lib.hid (Blk.later (HRc.out) hbi); have HOd := Lib.hid (Blk.later (HOc.out) hbi); clear hbi
          go_wp2_with fail
          refine (CA.out 1 _ (HE.out.below HBd.out)).mono ?_
          rintro e wj ⟨rfl, hbj⟩
          have HBe := Lib.hid (HBd.out.trans (hbj.mono HBd.out.size)); have HTe := Lib.hid (Blk.later (HTd.out) hbj); have HPe := Lib.hid (Blk.later (HPd.out) hbj); have HRe := Lib.hid (Blk.later (HRd.out) hbj); have HOe := Lib.hid (Blk.later (HOd.out) hbj); clear hbj
          have oK := HOe.out.cell 1
          have fK := HOe.out.free 1
          go_wp2_with fail
          go_roundg (N - (1 + 1))
          case measure => have := HN.out; omega
          case rel =>
            have hlr := HLr.out
            refine ⟨2, rfl, by decide, rfl, HTe.out.other (by show O ≠ _; omega) _, HPe.out.other (by show O ≠ _; omega) _, HRe.out.other (by show O ≠ _; omega) _, ?_, HBe.out.setCell (p := ⟨O, 1, none⟩) (by show _ ≤ O; omega) _⟩
            rw [← GS.out 1 (by decide)]
            exact HOe.out.set 1 _
      · go_wp2_with fail
        go_region_held3 (fun w' => w'.cell? ⟨w.heap.size + 1, 0, none⟩ = some (.int .i64 x) ∧ w'.cell? ⟨w.heap.size + 1, 1, none⟩ = some (.int .i64 y) ∧ w'.cell? ⟨w.heap.size + 1, 2, none⟩ = some (.int .i64 z) ∧ w'.cell? ⟨w.heap.size, 0, none⟩ = some (.string (qt (q 0))) ∧ w'.cell? ⟨w.heap.size, 1, none⟩ = some (.string (qt (q 1))) ∧ w'.cell? ⟨w.heap.size, 2, none⟩ = some (.string (qt (q 2))) ∧ w'.cell? ⟨w.heap.size, 3, none⟩ = some (.string (qt (q 3))) ∧ w'.cell? ⟨w.heap.size, 4, none⟩ = some (.string (qt (q 4))) ∧ w'.cell? ⟨w.heap.size, 5, none⟩ = some (.string (qt (q 5))))
          (first | go_keep | exact ⟨p0, p1, p2, t0, t1, t2, t3, t4, t5⟩ | exact ⟨ap0, ap1, ap2, at0, at1, at2, at3, at4, at5⟩ | exact ⟨bp0, bp1, bp2, bt0, bt1, bt2, bt3, bt4, bt5⟩ | exact ⟨cp0, cp1, cp2, ct0, ct1, ct2, ct3, ct4, ct5⟩)
          (first
            | (go_at_call 95; refine (CF.out _ (by decide) _).mono ?_; rintro e wn ⟨rfl, hbn⟩; first | (have HBb := Lib.hid (HBa.out.trans (hbn.mono HBa.out.size)); have HTb := Lib.hid (Blk.later (HTa.out) hbn); have HPb := Lib.hid (Blk.later (HPa.out) hbn); have HRb := Lib.hid (Blk.later (HRa.out) hbn); have HOb := Lib.hid (Blk.later (HOa.out) hbn); have bp0 := HPb.out.cell 0; have bp1 := HPb.out.cell 1; have bp2 := HPb.out.cell 2; have bt0 := HTb.out.cell 0; have bt1 := HTb.out.cell 1; have bt2 := HTb.out.cell 2; have bt3 := HTb.out.cell 3; have bt4 := HTb.out.cell 4; have bt5 := HTb.out.cell 5; clear hbn) | (have HBa := Lib.hid (HB.out.drew.trans (hbn.mono HB.out.drew.size)); have HTa := Lib.hid (Blk.later (HT.out.drew) hbn); have HPa := Lib.hid (Blk.later (HP.out.drew) hbn); have HRa := Lib.hid (Blk.later (HR.out.drew) hbn); have HOa := Lib.hid (Blk.later (HO.out.drew) hbn); have ap0 := HPa.out.cell 0; have ap1 := HPa.out.cell 1; have ap2 := HPa.out.cell 2; have at0 := HTa.out.cell 0; have at1 := HTa.out.cell 1; have at2 := HTa.out.cell 2; have at3 := HTa.out.cell 3; have at4 := HTa.out.cell 4; have at5 := HTa.out.cell 5; clear hbn))
            | (go_at_call 96; refine (CN.out _).mono ?_; rintro e wm ⟨rfl, hbm⟩; first | (have HBb := Lib.hid (HBa.out.trans (hbm.mono HBa.out.size)); have HTb := Lib.hid (Blk.later (HTa.out) hbm); have HPb := Lib.hid (Blk.later (HPa.out) hbm); have HRb := Lib.hid (Blk.later (HRa.out) hbm); have HOb := Lib.hid (Blk.later (HOa.out) hbm); have bp0 := HPb.out.cell 0; have bp1 := HPb.out.cell 1; have bp2 := HPb.out.cell 2; have bt0 := HTb.out.cell 0; have bt1 := HTb.out.cell 1; have bt2 := HTb.out.cell 2; have bt3 := HTb.out.cell 3; have bt4 := HTb.out.cell 4; have bt5 := HTb.out.cell 5; clear hbm) | (have HBa := Lib.hid (HB.out.drew.trans (hbm.mono HB.out.drew.size)); have HTa := Lib.hid (Blk.later (HT.out.drew) hbm); have HPa := Lib.hid (Blk.later (HP.out.drew) hbm); have HRa := Lib.hid (Blk.later (HR.out.drew) hbm); have HOa := Lib.hid (Blk.later (HO.out.drew) hbm); have ap0 := HPa.out.cell 0; have ap1 := HPa.out.cell 1; have ap2 := HPa.out.cell 2; have at0 := HTa.out.cell 0; have at1 := HTa.out.cell 1; have at2 := HTa.out.cell 2; have at3 := HTa.out.cell 3; have at4 := HTa.out.cell 4; have at5 := HTa.out.cell 5; clear hbm))
            | (go_at_call 94; refine (CT.out 2 _ (HE.out.below HBb.out)).mono ?_; rintro e wl ⟨rfl, hbl⟩; have HBc := Lib.hid (HBb.out.trans (hbl.mono HBb.out.size)); have HTc := Lib.hid (Blk.later (HTb.out) hbl); have HPc := Lib.hid (Blk.later (HPb.out) hbl); have HRc := Lib.hid (Blk.later (HRb.out) hbl); have HOc := Lib.hid (Blk.later (HOb.out) hbl); have cp0 := HPc.out.cell 0; have cp1 := HPc.out.cell 1; have cp2 := HPc.out.cell 2; have ct0 := HTc.out.cell 0; have ct1 := HTc.out.cell 1; have ct2 := HTc.out.cell 2; have ct3 := HTc.out.cell 3; have ct4 := HTc.out.cell 4; have ct5 := HTc.out.cell 5; clear hbl))
        all_goals
          go_wp2_with fail
          refine (CW.out 2 _ (HE.out.below HBc.out)).mono ?_
          rintro e wi ⟨rfl, hbi⟩
          have HBd := Lib.hid (HBc.out.trans (hbi.mono HBc.out.size)); have HTd := Lib.hid (Blk.later (HTc.out) hbi); have HPd := Lib.hid (Blk.later (HPc.out) hbi); have HRd := Lib.hid (Blk.later (HRc.out) hbi); have HOd := Lib.hid (Blk.later (HOc.out) hbi); clear hbi
          go_wp2_with fail
          refine (CA.out 2 _ (HE.out.below HBd.out)).mono ?_
          rintro e wj ⟨rfl, hbj⟩
          have HBe := Lib.hid (HBd.out.trans (hbj.mono HBd.out.size)); have HTe := Lib.hid (Blk.later (HTd.out) hbj); have HPe := Lib.hid (Blk.later (HPd.out) hbj); have HRe := Lib.hid (Blk.later (HRd.out) hbj); have HOe := Lib.hid (Blk.later (HOd.out) hbj); clear hbj
          have oK := HOe.out.cell 2
          have fK := HOe.out.free 2
          go_wp2_with fail
          go_roundg (N - (2 + 1))
          case measure => have := HN.out; omega
          case rel =>
            have hlr := HLr.out
            refine ⟨3, rfl, by decide, rfl, HTe.out.other (by show O ≠ _; omega) _, HPe.out.other (by show O ≠ _; omega) _, HRe.out.other (by show O ≠ _; omega) _, ?_, HBe.out.setCell (p := ⟨O, 2, none⟩) (by show _ ≤ O; omega) _⟩
            rw [← GS.out 2 (by decide)]
            exact HOe.out.set 2 _
    · have hk3 : k = 3 := by omega
      subst hk3
      rw [ocC_three] at HO
      have o0 := HO.out.cell 0; have o1 := HO.out.cell 1; have o2 := HO.out.cell 2
      have r0 := HR.out.cell 0; have r1 := HR.out.cell 1; have r2 := HR.out.cell 2
      have f0 := HR.out.free 0; have f1 := HR.out.free 1; have f2 := HR.out.free 2
      go_wp2_with fail
      have hr3 := ((HR.out.set 0 (.string (qt (gone q x y z 0)))).set 1 (.string (qt (gone q x y z 1)))).set 2 (.string (qt (gone q x y z 2)))
      have hb3 := ((HB.out.setCell (p := ⟨w.heap.size + 1 + 1, 0, none⟩) (by show _ ≤ w.heap.size + 1 + 1; omega) (.string (qt (gone q x y z 0)))).setCell (p := ⟨w.heap.size + 1 + 1, 1, none⟩) (by show _ ≤ w.heap.size + 1 + 1; omega) (.string (qt (gone q x y z 1)))).setCell (p := ⟨w.heap.size + 1 + 1, 2, none⟩) (by show _ ≤ w.heap.size + 1 + 1; omega) (.string (qt (gone q x y z 2)))
      generalize (((wr.setCell ⟨w.heap.size + 1 + 1, 0, none⟩ (.string (qt (gone q x y z 0)))).setCell ⟨w.heap.size + 1 + 1, 1, none⟩ (.string (qt (gone q x y z 1)))).setCell ⟨w.heap.size + 1 + 1, 2, none⟩ (.string (qt (gone q x y z 2)))) = W3 at hr3 hb3 ⊢
      have s0 := hr3.cell 0; have s1 := hr3.cell 1; have s2 := hr3.cell 2
      exact bodyPost_ret (by simp [results, Tryz.results21, go_sem, s0, s1, s2]; try rfl) rfl ⟨rfl, hb3⟩
end Go.Proofs.YtbpegjgpdgeadaaGreatDoor
