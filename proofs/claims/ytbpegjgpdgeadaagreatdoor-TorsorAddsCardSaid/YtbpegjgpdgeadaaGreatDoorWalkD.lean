/- A part of the proof: WalkD. Conditions: none. -/
import Derived.Test.YtbpegjgpdgeadaaGreatDoorWalkC
import Derived.Test.YtbpegjgpdgeadaaGreatDoorNumQt
import Derived.BigRegion
namespace Go.Proofs.YtbpegjgpdgeadaaGreatDoor
open Go Go.RowKit Metro
open Go.Lib (nDigits decDigits)

theorem _root_.Metro.Trim.one {f : Nat → Int} {n : Nat} {v : Int} (h : Trim f n v) (hn : n ≤ 1) : f 0 = v := by
  have := h.toSpells.at_ hn
  rw [bs_succ, bs_zero, Int.pow_zero] at this
  omega

theorem gcd_step (a b : Int) (h0 : 0 ≤ a) (h1 : 0 ≤ b) : (Int.gcd b (a % b) : Int) = Int.gcd a b := by
  obtain ⟨n, rfl⟩ : ∃ n : Nat, a = n := ⟨a.toNat, by omega⟩
  obtain ⟨m, rfl⟩ : ∃ m : Nat, b = m := ⟨b.toNat, by omega⟩
  congr 1
  rw [← Int.natCast_emod, Int.gcd_natCast_natCast, Int.gcd_natCast_natCast, Nat.gcd_comm n m, Nat.gcd_rec m n, Nat.gcd_comm]
theorem gcd_zero (a : Int) (h0 : 0 ≤ a) : (Int.gcd a 0 : Int) = a := by simp; omega

set_option maxHeartbeats 4000000 in
set_option maxRecDepth 100000 in
theorem gcd_any (a b : Int) (w : World) (hE : Env w) (ha : nDigits a.natAbs ≤ 1024) (hb : nDigits b.natAbs ≤ 1024) :
    Calls Tryz.prog 217 #[.string (zt a), .string (zt b)] w fun e w' => e = .returned (.tuple #[.string (zt (Int.gcd a b)), .int .i64 0]) ∧ Below w.heap.size w w' := by
  have HE := Lib.hid hE; have HA := Lib.hid ha; have HBb := Lib.hid hb
  clear hE ha hb
  go_enter Tryz.func217, Tryz.ntmps217
  go_wp2_with fail
  refine (all2_any a b _ w HA.out HBb.out).mono ?_
  rintro e w1 ⟨rfl, hb1⟩
  have HB1 := Lib.hid hb1; clear hb1
  go_wp2_with fail
  refine (read_any a _ (by have := HA.out; omega)).mono ?_
  rintro e w3 ⟨c1, rfl, hc1, hc2, hc3⟩
  have HC2 := Lib.hid hc2
  have hs3 := hc2.lt
  have HB3 := Lib.hid (HB1.out.trans (hc3.mono HB1.out.size)); clear hc3 hc2
  go_wp2_with fail
  refine (read_any b _ (by have := HBb.out; omega)).mono ?_
  rintro e w4 ⟨d1, rfl, hd1, hd2, hd3⟩
  have HD2 := Lib.hid hd2
  have HC4 := Lib.hid (HC2.out.below hd3 hs3)
  have HB4 := Lib.hid (HB3.out.trans (hd3.mono HB3.out.size)); 
  have hc0 : w.heap.size ≤ c1 := by have := HB1.out.size; omega
  have hd0 : w.heap.size ≤ d1 := by have := HB3.out.size; omega
  clear hd3 hd2
  go_wp2_with fail
  have HG : Hid (((Int.gcd (a.natAbs : Int) (b.natAbs : Int) : Nat) : Int) = (Int.gcd a b : Nat)) := Lib.hid (by simp [Int.gcd])
  obtain ⟨G, hG⟩ : ∃ G : Int, G = (Int.gcd a b : Nat) := ⟨_, rfl⟩
  have HGe := Lib.hid hG
  clear hG
  go_loopg [7, 8, 9, 10, 11, 12] b.natAbs (fun d x y m n q r wr => ∃ (bx y' nx ny : Nat) (lx ly : Bool) (fx fy : Nat → Int) (vx vy : Int), x = .pointer (some ⟨bx, 0, none⟩) ∧ y = .pointer (some ⟨y', 0, none⟩) ∧ d = vy.toNat ∧ (Int.gcd vx vy : Int) = G ∧ Trim fx nx vx ∧ Trim fy ny vy ∧ nx ≤ 114 ∧ ny ≤ 114 ∧ WideAt 267 wr bx lx nx fx ∧ WideAt 267 wr y' ly ny fy ∧ w.heap.size ≤ bx ∧ w.heap.size ≤ y' ∧ Below w.heap.size w wr)
  case atStart =>
    obtain ⟨l1, n1, f1, t1, t2, t3, t4⟩ := HC4.out.abs
    obtain ⟨l2, n2, f2, s1, s2, s3, s4⟩ := HD2.out.abs
    exact ⟨c1, d1, n1, n2, l1, l2, f1, f2, _, _, rfl, rfl, by simp, by rw [HGe.out]; exact HG.out, t1, s1, t1.n_le (nDigits_lt a HA.out), s1.n_le (nDigits_lt b HBb.out), t3, s3, hc0, hd0, HB4.out⟩
  case round =>
    obtain ⟨bx, y', nx, ny, lx, ly, fx, fy, vx, vy, rfl, rfl, rfl, hg, htx, hty, hnx, hny, hwx, hwy, hx0, hy0, hB⟩ := hrel
    have HGg := Lib.hid hg; have HTx := Lib.hid htx; have HTy := Lib.hid hty; have HB := Lib.hid hB
    have px := htx.toSpells.nonneg
    have py := hty.toSpells.nonneg
    have lt1 := hwx.lt
    have lt2 := hwy.lt
    clear hg htx hty hB
    have k1 := hwx.cell_n
    have k2 := hwy.cell_n
    by_cases h0 : ny = 0
    · subst h0
      have hv : vy = 0 := HTy.out.zero_iff.1 rfl
      have fl := hwx.free 0
      have cl := hwx.cell_less
      have hNum : NumAt 267 (wr.setCell ⟨bx, 0, none⟩ (.bool false)) bx vx := ⟨false, nx, fx, vx, HTx.out, by omega, hwx.setLess false, rfl⟩
      have HNum := Lib.hid hNum; clear hNum
      have HB5 := Lib.hid (HB.out.setCell (p := ⟨bx, 0, none⟩) hx0 (.bool false))
      have HE5 := Lib.hid (HE.out.below HB5.out)
      have hG : vx = (Int.gcd a b : Nat) := by
        rw [← HGe.out, ← HGg.out, hv, gcd_zero _ px]
      have HGv := Lib.hid hG
      clear hG hv
      go_wp2_with fail
      refine (text_any bx vx _ HE5.out HNum.out).mono ?_
      rintro e w6 ⟨rfl, hb6⟩
      have HB6 := Lib.hid (HB5.out.trans (hb6.mono HB5.out.size)); clear hb6
      go_wp2_with fail
      go_ret2
      exact ⟨by rw [HGv.out]; rfl, HB6.out⟩
    · by_cases hs : nx ≤ 1 ∧ ny ≤ 1
      · obtain ⟨hs1, hs2⟩ := hs
        have u1 := hwx.cell_word (i := 0) (by omega)
        have u2 := hwy.cell_word (i := 0) (by omega)
        have r1 := HTx.out.inr 0
        have r2 := HTy.out.inr 0
        rw [HTx.out.one hs1] at u1 r1
        rw [HTy.out.one hs2] at u2 r2
        rw [BB_eq] at r1 r2
        have hd1 : decide ((nx : Int) ≤ 1) = true := by simp; omega
        have hd2 : decide ((ny : Int) ≤ 1) = true := by simp; omega
        have hd3 : decide ((ny : Int) > 0) = true := by simp; omega
        go_wp2_with fail
        go_quiet (fail)
        go_wp2_with fail
        go_loopg [9, 10] vy.toNat (fun d m n w' => ∃ (M N : Int), m = .int .i64 M ∧ n = .int .i64 N ∧ d = N.toNat ∧ 0 ≤ M ∧ 0 ≤ N ∧ M < 1000000000 ∧ N < 1000000000 ∧ (Int.gcd M N : Int) = G ∧ Below w.heap.size w w')
        case atStart => exact ⟨vx, vy, rfl, rfl, rfl, px, py, r1.2, r2.2, HGg.out, HB.out.trans (below_drewN _ _ _)⟩
        case round =>
          obtain ⟨M, N, rfl, rfl, rfl, hM, hN, hM1, hN1, hgg, hBB⟩ := hrel
          have HGG := Lib.hid hgg; have HBB := Lib.hid hBB
          clear hgg hBB
          by_cases hN0 : N = 0
          · subst hN0
            have hG : M = (Int.gcd a b : Nat) := by
              rw [← HGe.out, ← HGG.out, gcd_zero _ hM]
            have HGv := Lib.hid hG
            clear hG
            have HE5 := Lib.hid (HE.out.below HBB.out)
            go_wp2_with fail
            refine (of_any M _ (by omega) (by omega) HE5.out).mono ?_
            rintro e w6 ⟨rfl, hb6⟩
            have HB6 := Lib.hid (HBB.out.trans (hb6.mono HBB.out.size)); clear hb6
            go_wp2_with fail
            go_ret2
            exact ⟨by rw [HGv.out]; rfl, HB6.out⟩
          · have hNp : 0 < N := by omega
            have hm1 : M.tmod N = M % N := Int.tmod_eq_emod_of_nonneg hM
            have hm2 := Int.emod_nonneg M hN0
            have hm3 := Int.emod_lt_of_pos M hNp
            go_wp2_with fail
            go_quiet (fail)
            go_wp2_with fail
            go_roundg (M % N).toNat
            case measure => omega
            case rel => exact ⟨N, M % N, rfl, rfl, rfl, hN, hm2, hN1, by omega, by rw [gcd_step _ _ hM hN]; exact HGG.out, HBB.out.trans (below_drewN _ _ _)⟩
      · have hd3 : decide ((ny : Int) > 0) = true := by simp; omega
        have hvy : 0 < vy := by
          have := HTy.out.zero_iff
          omega
        have hm2 := Int.emod_nonneg vx (b := vy) (by omega)
        have hm3 := Int.emod_lt_of_pos vx hvy
        have key : Calls Tryz.prog 244 #[.pointer (some ⟨bx, 0, none⟩), .pointer (some ⟨y', 0, none⟩)] wr _ := divided_any bx y' nx ny lx ly fx fy vx vy wr (by omega) (by omega) hwx hwy HTx.out HTy.out hvy
        have KEY := Lib.hid key; clear key
        by_cases hs1 : nx ≤ 1
        · have hs2 : ¬ ny ≤ 1 := fun h => hs ⟨hs1, h⟩
          have hd1 : decide ((nx : Int) ≤ 1) = true := by simp; omega
          have hd2 : decide ((ny : Int) ≤ 1) = false := by simp; omega
          clear hs
          go_wp2_with fail
          refine KEY.out.mono ?_
          rintro e w6 ⟨bq, br, rfl, hq, hqr, ⟨n', f', hq1, hq2, hq3⟩, ⟨n'', f'', hr1, hr2, hr3⟩, hb6⟩
          have HB6 := Lib.hid (HB.out.trans (hb6.mono HB.out.size))
          have hwy6 := hwy.below hb6 lt2
          have hsz := HB.out.size
          have HR1 := Lib.hid hr1; clear hr1 hq1 hb6
          have hn'' : n'' ≤ 114 := HR1.out.n_le (Int.lt_trans hm3 (Int.lt_of_lt_of_le HTy.out.lt (pow_mono hny)))
          go_wp2_with fail
          go_roundg (vx % vy).toNat
          case measure => omega
          case rel => exact ⟨y', br, ny, n'', ly, false, fy, f'', vy, vx % vy, rfl, rfl, rfl, by rw [gcd_step _ _ px py]; exact HGg.out, HTy.out, HR1.out, hny, hn'', hwy6, hr3, hy0, by omega, HB6.out⟩
        · have hd1 : decide ((nx : Int) ≤ 1) = false := by simp; omega
          clear hs
          go_wp2_with fail
          refine KEY.out.mono ?_
          rintro e w6 ⟨bq, br, rfl, hq, hqr, ⟨n', f', hq1, hq2, hq3⟩, ⟨n'', f'', hr1, hr2, hr3⟩, hb6⟩
          have HB6 := Lib.hid (HB.out.trans (hb6.mono HB.out.size))
          have hwy6 := hwy.below hb6 lt2
          have hsz := HB.out.size
          have HR1 := Lib.hid hr1; clear hr1 hq1 hb6
          have hn'' : n'' ≤ 114 := HR1.out.n_le (Int.lt_trans hm3 (Int.lt_of_lt_of_le HTy.out.lt (pow_mono hny)))
          go_wp2_with fail
          go_roundg (vx % vy).toNat
          case measure => omega
          case rel => exact ⟨y', br, ny, n'', ly, false, fy, f'', vy, vx % vy, rfl, rfl, rfl, by rw [gcd_step _ _ px py]; exact HGg.out, HTy.out, HR1.out, hny, hn'', hwy6, hr3, hy0, by omega, HB6.out⟩
end Go.Proofs.YtbpegjgpdgeadaaGreatDoor
namespace Go.Proofs.YtbpegjgpdgeadaaGreatDoor
open Go Go.RowKit Metro
open Go.Lib (nDigits decDigits)

theorem sv_quo {l1 l2 : Bool} {q b : Int} (hb : b ≠ 0) (h1 : sv l1 ((q * b).natAbs : Int) = q * b) (h2 : sv l2 (b.natAbs : Int) = b) : sv (!(l1 == l2)) (q.natAbs : Int) = q := by
  have key : (0 < q → 0 < b → 0 < q * b) ∧ (q < 0 → 0 < b → q * b < 0) ∧ (0 < q → b < 0 → q * b < 0) ∧ (q < 0 → b < 0 → 0 < q * b) :=
    ⟨fun a c => Int.mul_pos a c, fun a c => Int.mul_neg_of_neg_of_pos a c, fun a c => Int.mul_neg_of_pos_of_neg a c, fun a c => Int.mul_pos_of_neg_of_neg a c⟩
  obtain ⟨k1, k2, k3, k4⟩ := key
  by_cases hq : q = 0
  · subst hq; cases l1 <;> cases l2 <;> rfl
  generalize q * b = a at *
  have t : ∀ v, sv true v = -v := fun _ => rfl
  have f : ∀ v, sv false v = v := fun _ => rfl
  rcases Int.lt_or_gt_of_ne hb with hb' | hb' <;> rcases Int.lt_or_gt_of_ne hq with hq' | hq' <;> cases l1 <;> cases l2 <;> simp only [t, f, beq_self_eq_true, Bool.not_true, Bool.not_false, show (true == false) = false from rfl, show (false == true) = false from rfl] at h1 h2 ⊢ <;> first | omega | (have := k2 hq' hb'; omega) | (have := k3 hq' hb'; omega) | (have := k4 hq' hb'; omega) | (have := k1 hq' hb'; omega)

set_option maxHeartbeats 4000000 in
set_option maxRecDepth 100000 in
/-- parted where the division goes out. -/
theorem parted_any (q b : Int) (w : World) (hE : Env w) (ha : nDigits (q * b).natAbs ≤ 1024) (hb : nDigits b.natAbs ≤ 1024) (hb0 : b ≠ 0) :
    Calls Tryz.prog 249 #[.string (zt (q * b)), .string (zt b)] w fun e w' => e = .returned (.tuple #[.string (zt q), .string (zt 0), .int .i64 0]) ∧ Below w.heap.size w w' := by
  have hdiv : q * b / b = q := Int.mul_ediv_cancel _ hb0
  have htd : (q * b).tdiv b = q := Int.mul_tdiv_cancel _ hb0
  have htm : (q * b).tmod b = 0 := Int.mul_tmod_left _ _
  have e0 := zt_not0 hb0
  obtain ⟨a, hq⟩ : ∃ a, a = q * b := ⟨_, rfl⟩
  rw [← hq] at ha hdiv htd htm ⊢
  have HE := Lib.hid hE; have HA := Lib.hid ha; have HBb := Lib.hid hb; have HQ := Lib.hid hq; have HDv := Lib.hid hdiv
  clear hE ha hb hq hdiv
  go_enter Tryz.func249, Tryz.ntmps249
  go_wp2_with fail
  refine (all2_any a b _ w HA.out HBb.out).mono ?_
  rintro e w1 ⟨rfl, hb1⟩
  have HB1 := Lib.hid hb1; clear hb1
  go_wp2_with fail
  refine (small_any a b _).mono ?_
  rintro e w2 ⟨he, hb2⟩
  have HB2 := Lib.hid (HB1.out.trans (hb2.mono HB1.out.size)); clear hb2
  have HE2 := Lib.hid (HE.out.below HB2.out)
  rcases he with ⟨h1, h2, rfl⟩ | rfl
  · have hA := nDigits_pow (n := a.natAbs) (k := 9) (m := 1) (by rw [zt_size, zl_length] at h1; omega) (by decide) (by decide)
    have hB := nDigits_pow (n := b.natAbs) (k := 9) (m := 1) (by rw [zt_size, zl_length] at h2; omega) (by decide) (by decide)
    rw [Int.pow_one, BB_eq] at hA hB
    have hqb : q.natAbs ≤ a.natAbs := by
      rw [HQ.out, Int.natAbs_mul]
      exact Nat.le_mul_of_pos_right _ (by omega)
    have hd0 : (b == 0) = false := by simpa using hb0
    go_wp2_with fail
    go_quiet (fail)
    go_wp2_with fail
    refine (of_any q _ (by omega) (by omega) (HE2.out.below (below_drewN w2.heap.size w2 _))).mono ?_
    rintro e w3 ⟨rfl, hb3⟩
    have HB3 := Lib.hid (HB2.out.trans (((below_drewN w2.heap.size w2 _).trans hb3).mono HB2.out.size)); clear hb3
    have HE3 := Lib.hid (HE.out.below HB3.out)
    go_wp2_with fail
    refine (of_any 0 _ (by omega) (by omega) HE3.out).mono ?_
    rintro e w4 ⟨rfl, hb4⟩
    have HB4 := Lib.hid (HB3.out.trans (hb4.mono HB3.out.size)); clear hb4
    go_wp2_with fail
    go_ret3
    exact ⟨rfl, HB4.out⟩
  · have e1 : ((q * b).natAbs : Int) / b.natAbs = q.natAbs := by
      rw [Int.natAbs_mul, Int.natCast_mul]; exact Int.mul_ediv_cancel _ (by omega)
    have e2 : ((q * b).natAbs : Int) % b.natAbs = 0 := by
      rw [Int.natAbs_mul, Int.natCast_mul]; exact Int.mul_emod_left _ _
    rw [← HQ.out] at e1 e2
    have HE1 := Lib.hid e1; have HE2' := Lib.hid e2
    clear e1 e2
    go_wp2_with fail
    refine (read_any a _ (by have := HA.out; omega)).mono ?_
    rintro e w3 ⟨c1, rfl, hc1, hc2, hc3⟩
    have HC2 := Lib.hid hc2
    have hs3 := hc2.lt
    have HB3 := Lib.hid (HB2.out.trans (hc3.mono HB2.out.size))
    have hsz2 := HB2.out.size
    clear hc3 hc2
    go_wp2_with fail
    refine (read_any b _ (by have := HBb.out; omega)).mono ?_
    rintro e w4 ⟨d1, rfl, hd1, hd2, hd3⟩
    obtain ⟨l2, n2, f2, s1, s2, s3, s4⟩ := hd2.abs
    obtain ⟨l1, n1, f1, t1, t2, t3, t4⟩ := (HC2.out.below hd3 hs3).abs
    have HB4 := Lib.hid (HB3.out.trans (hd3.mono HB3.out.size))
    have hsz3 := HB3.out.size
    have hcd : c1 ≠ d1 := by omega
    have S1 := Lib.hid s1; have T1 := Lib.hid t1; have S4 := Lib.hid s4; have T4 := Lib.hid t4
    have hlt1 := t3.lt; have hlt2 := s3.lt
    clear hd3 hd2 s1 t1 s4 t4
    go_wp2_with fail
    refine (divided_any c1 d1 n1 n2 l1 l2 f1 f2 _ _ _ (by omega) (by have := S1.out.n_le (nDigits_lt b HBb.out); omega) t3 s3 T1.out S1.out (by omega)).mono ?_
    rintro e w5 ⟨bq, br, rfl, hq0, hqr, ⟨n3, f3, hq1, hq2, hq3⟩, ⟨n4, f4, hr1, hr2, hr3⟩, hb5⟩
    have HB5 := Lib.hid (HB4.out.trans (hb5.mono HB4.out.size))
    have hc5 := t3.below hb5 hlt1
    have hd5 := s3.below hb5 hlt2
    rw [HE1.out] at hq1
    rw [HE2'.out] at hr1
    have hn4 : n4 = 0 := hr1.zero_iff.2 rfl
    have HQ1 := Lib.hid hq1
    have HR1 := Lib.hid hr1
    clear hr1 hq1
    have hsz4 := HB4.out.size
    subst hn4
    have a1 := hc5.cell_less
    have a2 := hd5.cell_less
    have a3 := hq3.free 0
    have a4 := hr3.free 0
    have a5 := hq3.cell_less
    have a6 := hr3.cell_less
    have a7 := hr3.cell_n
    have hq6 : br ≠ bq := by omega
    have HB5s := Lib.hid hb5.size
    have x1 : br ≠ c1 := by omega
    have x2 : br ≠ d1 := by omega
    have x3 : bq ≠ c1 := by omega
    have x4 : bq ≠ d1 := by omega
    clear hb5
    go_wp2_with fail
    go_region
    go_wp2_with fail
    have hQ6 : WideAt 267 ((w5.setCell ⟨bq, 0, none⟩ (.bool (!(l1 == l2)))).setCell ⟨br, 0, none⟩ (.bool l1)).drew bq (!(l1 == l2)) n3 f3 := ((hq3.setLess _).other (by show br ≠ bq; omega) _).drew
    have hR6 : WideAt 267 ((w5.setCell ⟨bq, 0, none⟩ (.bool (!(l1 == l2)))).setCell ⟨br, 0, none⟩ (.bool l1)).drew br l1 0 f4 := ((hr3.other (by show bq ≠ br; omega) _).setLess _).drew
    have hb6 : Below w4.heap.size w5 ((w5.setCell ⟨bq, 0, none⟩ (.bool (!(l1 == l2)))).setCell ⟨br, 0, none⟩ (.bool l1)).drew := (((Below.refl _ w5).setCell (p := ⟨bq, 0, none⟩) hq0 _).setCell (p := ⟨br, 0, none⟩) (by show w4.heap.size ≤ br; omega) _).drew
    generalize ((w5.setCell ⟨bq, 0, none⟩ (.bool (!(l1 == l2)))).setCell ⟨br, 0, none⟩ (.bool l1)).drew = w6 at hQ6 hR6 hb6 ⊢
    have HB6 := Lib.hid (HB5.out.trans (hb6.mono hsz4))
    have HE6 := Lib.hid (HE.out.below HB6.out)
    have hsv : sv (!(l1 == l2)) (q.natAbs : Int) = q := sv_quo hb0 (by rw [← HQ.out]; exact T4.out) S4.out
    have HNq : Hid (NumAt 267 w6 bq q) := Lib.hid ⟨_, n3, f3, _, HQ1.out, hq2, hQ6, hsv⟩
    have HNr : Hid (NumAt 267 w6 br 0) := Lib.hid ⟨_, 0, f4, _, HR1.out, hr2, hR6, by cases l1 <;> rfl⟩
    have z1 : w6.cell? ⟨br, 1, none⟩ = some (.int .i64 0) := hR6.cell_n
    have hbrl := hR6.lt
    clear hsv hb6 a1 a2 a3 a4 a5 a6 a7 hQ6
    go_wp2_with fail
    go_quiet (fail)
    go_wp2_with fail
    refine (text_any bq q _ (HE6.out.below (below_drewN w6.heap.size w6 _)) (HNq.out.drewN _)).mono ?_
    rintro e w7 ⟨rfl, hb7⟩
    have HB7 := Lib.hid (HB6.out.trans (((below_drewN w6.heap.size w6 _).trans hb7).mono HB6.out.size))
    have HNr7 := Lib.hid ((HNr.out.below ((below_drewN w6.heap.size w6 _).trans hb7) hbrl))
    have HE7 := Lib.hid (HE.out.below HB7.out)
    clear hb7
    go_wp2_with fail
    refine (text_any br 0 _ HE7.out HNr7.out).mono ?_
    rintro e w8 ⟨rfl, hb8⟩
    have HB8 := Lib.hid (HB7.out.trans (hb8.mono HB7.out.size))
    clear hb8
    go_wp2_with fail
    go_ret3
    exact ⟨rfl, HB8.out⟩

set_option maxHeartbeats 1000000 in
/-- Quo where the division goes out. -/
theorem quo_any (q b : Int) (w : World) (hE : Env w) (ha : nDigits (q * b).natAbs ≤ 1024) (hb : nDigits b.natAbs ≤ 1024) (hb0 : b ≠ 0) :
    Calls Tryz.prog 230 #[.string (zt (q * b)), .string (zt b)] w fun e w' => e = .returned (.tuple #[.string (zt q), .int .i64 0]) ∧ Below w.heap.size w w' := by
  have hq : nDigits q.natAbs ≤ 1024 := by
    refine Nat.le_trans (nDigits_mono ?_) ha
    rw [Int.natAbs_mul]
    exact Nat.le_mul_of_pos_right _ (by omega)
  have hs : (zt q).size ≤ 140737488351232 := by rw [zt_size, zl_length]; split <;> omega
  have HQ := Lib.hid hq
  have HP := Lib.hid (parted_any q b w hE ha hb hb0)
  clear hE ha hb hq
  generalize zt (q * b) = ta at HP ⊢
  go_enter Tryz.func230, Tryz.ntmps230
  go_wp2_with fail
  refine HP.out.mono ?_
  rintro e w1 ⟨rfl, hb1⟩
  have HB1 := Lib.hid hb1; clear hb1
  go_wp2_with fail
  refine (check_any (zt q) _ hs).mono ?_
  rintro e w2 ⟨he, hb2⟩
  rw [zt_toList, chkL_small HQ.out] at he
  subst he
  have HB2 := Lib.hid (HB1.out.trans (hb2.mono HB1.out.size)); clear hb2
  go_wp2_with fail
  go_ret2
  exact ⟨rfl, HB2.out⟩
end Go.Proofs.YtbpegjgpdgeadaaGreatDoor
namespace Go.Proofs.YtbpegjgpdgeadaaGreatDoor
open Go Go.RowKit Metro
open Go.Lib (nDigits decDigits)

set_option maxHeartbeats 1000000 in
theorem cutq_any (s : ByteArray) (w : World) (hs : s.size < 4294967281) (hE : Env w) :
    Calls Tryz.prog 205 #[.string s] w fun e w' => e = .returned (.tuple #[.string ⟨(cutA s.data.toList).toArray⟩, .string ⟨(cutB s.data.toList).toArray⟩, .bool (cutW s.data.toList)]) ∧ Below w.heap.size w w' := by
  have HE := Lib.hid hE; have HS := Lib.hid hs; clear hE hs
  obtain ⟨B, hB⟩ : ∃ B, B = cutB s.data.toList := ⟨_, rfl⟩
  have hB' := hB
  unfold cutB at hB'
  have HB := Lib.hid hB
  clear hB
  cases hc : cutW s.data.toList with
  | false =>
    rw [hc, if_neg Bool.false_ne_true] at hB'
    have HB' := Lib.hid hB'; clear hB'
    have HC := Lib.hid hc; clear hc
    go_enter Tryz.func205, Tryz.ntmps205
    go_wp2_with fail
    refine (cut_any s _ HS.out HE.out).mono ?_
    rintro e w1 ⟨rfl, hb⟩
    rw [HC.out]
    go_wp2_with fail
    go_ret3
    exact ⟨by rw [← HB.out, HB'.out]; rfl, hb⟩
  | true =>
    rw [hc, if_pos rfl] at hB'
    have HB' := Lib.hid hB'; clear hB'
    have HC := Lib.hid hc; clear hc
    go_enter Tryz.func205, Tryz.ntmps205
    go_wp2_with fail
    refine (cut_any s _ HS.out HE.out).mono ?_
    rintro e w1 ⟨rfl, hb⟩
    rw [HC.out, ← HB'.out]
    go_wp2_with fail
    go_ret3
    exact ⟨by rw [← HB.out]; rfl, hb⟩

theorem cutQ_any (q : Rat) (w : World) (hs : Fits q) (hE : Env w) :
    Calls Tryz.prog 205 #[.string (qt q)] w fun e w' => e = .returned (.tuple #[.string (zt q.num), .string (zt (q.den : Int)), .bool (decide (q.den ≠ 1))]) ∧ Below w.heap.size w w' := by
  have hz : (qt q).size < 4294967281 := by
    rw [Lib.size_eq, qt_toList]
    have h1 := hs.1; have h2 := hs.2
    have h3 := zl_length q.num
    have h4 := zl_length (q.den : Int)
    unfold ql
    split <;> (try simp only [List.length_append, List.length_cons]) <;> split at h3 <;> split at h4 <;> (try simp only [Int.natAbs_natCast] at *) <;> omega
  refine (cutq_any (qt q) w hz hE).mono ?_
  rintro e w' ⟨he, h⟩
  rw [qt_toList, cutA_ql, cutB_ql, cutW_ql] at he
  exact ⟨he, h⟩

set_option maxHeartbeats 1000000 in
theorem joined_any (q : Rat) (w : World) (hf : Fits q) :
    Calls Tryz.prog 181 #[.string (zt q.num), .string (zt (q.den : Int))] w fun e w' => e = .returned (.string (qt q)) ∧ w' = w := by
  have hq := ql_joined q
  have hs1 : (zt q.num).size ≤ 1025 := by rw [zt_size, zl_length]; have := hf.1; split <;> omega
  have hs2 : (zt (q.den : Int)).size ≤ 1025 := by rw [zt_size, zl_length]; have := hf.2; split <;> (try simp only [Int.natAbs_natCast]) <;> omega
  clear hf
  by_cases h : zl (q.den : Int) = [49]
  · rw [if_pos h] at hq
    have h1 : ((zt (q.den : Int)).toList == [49]) = true := by rw [zt_list, h]; rfl
    have HQ : Hid (qt q = zt q.num) := Lib.hid (by unfold qt zt; rw [hq])
    clear hq h
    go_enter Tryz.func181, Tryz.ntmps181
    go_wp2_with fail
    go_ret
    exact ⟨by rw [HQ.out]; rfl, rfl⟩
  · rw [if_neg h] at hq
    have h1 : ((zt (q.den : Int)).toList == [49]) = false := by rw [zt_list, beq_eq_false_iff_ne]; exact h
    have hz : (zt q.num ++ ⟨#[47]⟩ ++ zt (q.den : Int)) = qt q := by
      apply ByteArray.ext; apply Array.ext'
      rw [qt_toList, hq, ByteArray.data_append, ByteArray.data_append, Array.toList_append, Array.toList_append, zt_toList, zt_toList]
      simp
    have HQ := Lib.hid hz
    clear hq h hz
    go_enter Tryz.func181, Tryz.ntmps181
    go_wp2_with fail
    go_ret
    exact ⟨by rw [← HQ.out]; rfl, rfl⟩

theorem zv_form {l : List UInt8} (h : chkL l = 0) : l = zl (zv l) ∧ nDigits (zv l).natAbs ≤ 1024 := by
  obtain ⟨z, rfl, hz⟩ := chkL_zero h
  rw [zv_zl]
  exact ⟨rfl, hz⟩
end Go.Proofs.YtbpegjgpdgeadaaGreatDoor
namespace Go.Proofs.YtbpegjgpdgeadaaGreatDoor
open Go Go.RowKit Metro
open Go.Lib (nDigits decDigits)

theorem cut_sizes (l : List UInt8) : (cutA l).length ≤ l.length ∧ (cutB l).length ≤ l.length + 1 := by
  constructor
  · unfold cutA; exact (List.takeWhile_prefix _).length_le
  · unfold cutB; split
    · rw [List.length_tail]; have := (List.dropWhile_suffix (fun c : UInt8 => c != 47) (l := l)).length_le; omega
    · simp

theorem one_digit : nDigits 1 ≤ 1024 := Nat.le_trans ((Metro.nDigits_le (k := 1) (by decide)).2 (by decide)) (by decide)
theorem zt_one : zt 1 = ⟨#[49]⟩ := by unfold zt; rw [zl_one]

set_option maxHeartbeats 4000000 in
set_option maxRecDepth 100000 in
theorem ratCheck_any (s : ByteArray) (w : World) (hs : s.size ≤ 4000000000) (hE : Env w) :
    Calls Tryz.prog 177 #[.string s] w fun e w' => e = .returned (.int .i64 (chkQ s.data.toList : Int)) ∧ Below w.heap.size w w' := by
  have hl := cut_sizes s.data.toList
  rw [← Lib.size_eq] at hl
  obtain ⟨A, hA⟩ : ∃ A : ByteArray, A = ⟨(cutA s.data.toList).toArray⟩ := ⟨_, rfl⟩
  obtain ⟨B, hB⟩ : ∃ B : ByteArray, B = ⟨(cutB s.data.toList).toArray⟩ := ⟨_, rfl⟩
  obtain ⟨W, hW⟩ : ∃ W : Bool, W = cutW s.data.toList := ⟨_, rfl⟩
  have hAl : A.data.toList = cutA s.data.toList := by rw [hA]
  have hBl : B.data.toList = cutB s.data.toList := by rw [hB]
  have hAs : A.size ≤ 4000000001 := by rw [Lib.size_eq, hAl]; omega
  have hBs : B.size ≤ 4000000001 := by rw [Lib.size_eq, hBl]; omega
  have hC := cutq_any s w (by omega) hE
  rw [← hA, ← hB, ← hW] at hC
  have hQ : chkQ s.data.toList = if chkL A.data.toList = 3 ∨ chkL B.data.toList = 3 then 3
    else if chkL A.data.toList ≠ 0 ∨ chkL B.data.toList ≠ 0 then 11
    else if W = true ∧ (zv B.data.toList ≤ 1 ∨ Int.gcd (zv A.data.toList) (zv B.data.toList) ≠ 1) then 3 else 0 := by
    rw [hAl, hBl, hW]; rfl
  have HE := Lib.hid hE; have HC := Lib.hid hC; have HQ := Lib.hid hQ
  clear hE hC hQ hA hB hW hAl hBl hl hs
  have cA := check_any A
  have cB := check_any B
  obtain ⟨eA, hA⟩ : ∃ eA, eA = chkL A.data.toList := ⟨_, rfl⟩
  obtain ⟨eB, hB⟩ : ∃ eB, eB = chkL B.data.toList := ⟨_, rfl⟩
  have dA := chkL_le A.data.toList
  have dB := chkL_le B.data.toList
  have hQ := HQ.out
  rw [← hA] at cA dA hQ
  rw [← hB] at cB dB hQ
  have HQ1 := Lib.hid hQ
  have CA := Lib.hid cA; have CB := Lib.hid cB; have HA := Lib.hid hA; have HBe := Lib.hid hB
  clear hQ cA cB hA hB
  by_cases h00 : eA = 0 ∧ eB = 0
  · obtain ⟨rfl, rfl⟩ := h00
    obtain ⟨fA, nA⟩ := zv_form HA.out.symm
    obtain ⟨fB, nB⟩ := zv_form HBe.out.symm
    obtain ⟨a, ha⟩ : ∃ a, a = zv A.data.toList := ⟨_, rfl⟩
    obtain ⟨b, hb⟩ : ∃ b, b = zv B.data.toList := ⟨_, rfl⟩
    have hQ := HQ1.out
    rw [← ha] at fA nA hQ
    rw [← hb] at fB nB hQ
    have eA : A = zt a := by apply ByteArray.ext; apply Array.ext'; rw [zt_toList]; exact fA
    have eB : B = zt b := by apply ByteArray.ext; apply Array.ext'; rw [zt_toList]; exact fB
    rw [if_neg (by omega), if_neg (by omega)] at hQ
    have HQ2 := Lib.hid hQ
    have FA := Lib.hid fA; have FB := Lib.hid fB; have NA := Lib.hid nA; have NB := Lib.hid nB
    clear hQ ha hb fA fB nA nB dA dB HA HBe
    cases W with
    | false =>
      have hQ := HQ2.out
      rw [if_neg (fun h => Bool.false_ne_true h.1)] at hQ
      have HQf := Lib.hid hQ
      clear hQ
      have EA := Lib.hid eA; have EB := Lib.hid eB
      clear eA eB
      go_enter Tryz.func177, Tryz.ntmps177
      go_wp2_with fail
      refine HC.out.mono ?_
      rintro e w1 ⟨rfl, hb1⟩
      have HB1 := Lib.hid hb1; clear hb1
      go_wp2_with fail
      refine (CA.out _ (by omega)).mono ?_
      rintro e w2 ⟨rfl, hb2⟩
      have HB2 := Lib.hid (HB1.out.trans (hb2.mono HB1.out.size)); clear hb2
      go_wp2_with fail
      refine (CB.out _ (by omega)).mono ?_
      rintro e w3 ⟨rfl, hb3⟩
      have HB3 := Lib.hid (HB2.out.trans (hb3.mono HB2.out.size)); clear hb3
      go_wp2_with fail
      go_ret
      exact ⟨by rw [HQf.out]; rfl, HB3.out⟩
    | true =>
      subst eA; subst eB
      have hQ := HQ2.out
      have hcmp : ∀ w : World, Calls Tryz.prog 216 #[.string (zt b), .string ⟨#[49]⟩] w fun e w' => e = .returned (.tuple #[.int .i64 (b - 1).sign, .int .i64 0]) ∧ Below w.heap.size w w' := fun w => by
        have := compare_any b 1 w NB.out (by rw [show ((1 : Int).natAbs) = 1 from rfl]; exact one_digit)
        rwa [zt_one] at this
      have CMP := Lib.hid hcmp
      clear hcmp
      by_cases hb1 : b ≤ 1
      · rw [if_pos ⟨rfl, .inl hb1⟩] at hQ
        have HQf := Lib.hid hQ
        have hsg : (b - 1).sign ≤ 0 := by
          rcases Int.lt_or_eq_of_le hb1 with h | h
          · rw [Int.sign_eq_neg_one_of_neg (by omega)]; decide
          · rw [h]; decide
        have hsg2 : -1 ≤ (b - 1).sign := by
          rcases Int.lt_or_eq_of_le hb1 with h | h
          · rw [Int.sign_eq_neg_one_of_neg (by omega)]; decide
          · rw [h]; decide
        obtain ⟨sg, hs⟩ : ∃ sg, sg = (b - 1).sign := ⟨_, rfl⟩
        rw [← hs] at hsg hsg2
        have SG : Hid ((b - 1).sign = sg) := Lib.hid hs.symm
        clear hs hQ hb1
        go_enter Tryz.func177, Tryz.ntmps177
        go_wp2_with fail
        refine HC.out.mono ?_
        rintro e w1 ⟨rfl, hb1⟩
        have HB1 := Lib.hid hb1; clear hb1
        go_wp2_with fail
        refine (CA.out _ (by omega)).mono ?_
        rintro e w2 ⟨rfl, hb2⟩
        have HB2 := Lib.hid (HB1.out.trans (hb2.mono HB1.out.size)); clear hb2
        go_wp2_with fail
        refine (CB.out _ (by omega)).mono ?_
        rintro e w3 ⟨rfl, hb3⟩
        have HB3 := Lib.hid (HB2.out.trans (hb3.mono HB2.out.size)); clear hb3
        go_wp2_with fail
        refine (CMP.out _).mono ?_
        rintro e w4 ⟨rfl, hb4⟩
        have HB4 := Lib.hid (HB3.out.trans (hb4.mono HB3.out.size)); clear hb4
        have HE4 := Lib.hid (HE.out.below HB4.out)
        try rw [SG.out]
        go_wp2_with fail
        refine (gcd_any a b _ HE4.out NA.out NB.out).mono ?_
        rintro e w5 ⟨rfl, hb5⟩
        have HB5 := Lib.hid (HB4.out.trans (hb5.mono HB4.out.size)); clear hb5
        go_wp2_with fail
        go_ret
        exact ⟨by rw [HQf.out]; rfl, HB5.out⟩
      · have hsg : (b - 1).sign = 1 := Int.sign_eq_one_of_pos (by omega)
        have SG := Lib.hid hsg
        clear hsg
        by_cases hg : Int.gcd a b = 1
        · rw [if_neg (fun h => h.2.elim hb1 (fun k => k hg))] at hQ
          have hz : ((zt (Int.gcd a b : Nat)).toList == [49]) = true := by rw [hg, zt_list, show ((1 : Nat) : Int) = 1 from rfl, zl_one]; rfl
          have HQf := Lib.hid hQ
          clear hQ hb1 hg
          go_enter Tryz.func177, Tryz.ntmps177
          go_wp2_with fail
          refine HC.out.mono ?_
          rintro e w1 ⟨rfl, hb1⟩
          have HB1 := Lib.hid hb1; clear hb1
          go_wp2_with fail
          refine (CA.out _ (by omega)).mono ?_
          rintro e w2 ⟨rfl, hb2⟩
          have HB2 := Lib.hid (HB1.out.trans (hb2.mono HB1.out.size)); clear hb2
          go_wp2_with fail
          refine (CB.out _ (by omega)).mono ?_
          rintro e w3 ⟨rfl, hb3⟩
          have HB3 := Lib.hid (HB2.out.trans (hb3.mono HB2.out.size)); clear hb3
          go_wp2_with fail
          refine (CMP.out _).mono ?_
          rintro e w4 ⟨rfl, hb4⟩
          have HB4 := Lib.hid (HB3.out.trans (hb4.mono HB3.out.size)); clear hb4
          have HE4 := Lib.hid (HE.out.below HB4.out)
          try rw [SG.out]
          go_wp2_with fail
          refine (gcd_any a b _ HE4.out NA.out NB.out).mono ?_
          rintro e w5 ⟨rfl, hb5⟩
          have HB5 := Lib.hid (HB4.out.trans (hb5.mono HB4.out.size)); clear hb5
          go_wp2_with fail
          go_ret
          exact ⟨by rw [HQf.out]; rfl, HB5.out⟩
        · rw [if_pos ⟨rfl, .inr hg⟩] at hQ
          have hz : ((zt (Int.gcd a b : Nat)).toList == [49]) = false := by
            rw [zt_list, beq_eq_false_iff_ne]
            intro h
            have h2 := zl_inj (h.trans zl_one.symm)
            omega
          have HQf := Lib.hid hQ
          clear hQ hb1 hg
          go_enter Tryz.func177, Tryz.ntmps177
          go_wp2_with fail
          refine HC.out.mono ?_
          rintro e w1 ⟨rfl, hb1⟩
          have HB1 := Lib.hid hb1; clear hb1
          go_wp2_with fail
          refine (CA.out _ (by omega)).mono ?_
          rintro e w2 ⟨rfl, hb2⟩
          have HB2 := Lib.hid (HB1.out.trans (hb2.mono HB1.out.size)); clear hb2
          go_wp2_with fail
          refine (CB.out _ (by omega)).mono ?_
          rintro e w3 ⟨rfl, hb3⟩
          have HB3 := Lib.hid (HB2.out.trans (hb3.mono HB2.out.size)); clear hb3
          go_wp2_with fail
          refine (CMP.out _).mono ?_
          rintro e w4 ⟨rfl, hb4⟩
          have HB4 := Lib.hid (HB3.out.trans (hb4.mono HB3.out.size)); clear hb4
          have HE4 := Lib.hid (HE.out.below HB4.out)
          try rw [SG.out]
          go_wp2_with fail
          refine (gcd_any a b _ HE4.out NA.out NB.out).mono ?_
          rintro e w5 ⟨rfl, hb5⟩
          have HB5 := Lib.hid (HB4.out.trans (hb5.mono HB4.out.size)); clear hb5
          go_wp2_with fail
          go_ret
          exact ⟨by rw [HQf.out]; rfl, HB5.out⟩
  · have hQ := HQ1.out
    rcases dA with rfl | rfl | rfl <;> rcases dB with rfl | rfl | rfl <;> first | exact absurd ⟨rfl, rfl⟩ h00 | skip
    all_goals
      clear h00
      simp at hQ
      have HQf := Lib.hid hQ
      clear hQ
      go_enter Tryz.func177, Tryz.ntmps177
      go_wp2_with fail
      refine HC.out.mono ?_
      rintro e w1 ⟨rfl, hb1⟩
      have HB1 := Lib.hid hb1; clear hb1
      go_wp2_with fail
      refine (CA.out _ (by omega)).mono ?_
      rintro e w2 ⟨rfl, hb2⟩
      have HB2 := Lib.hid (HB1.out.trans (hb2.mono HB1.out.size)); clear hb2
      go_wp2_with fail
      refine (CB.out _ (by omega)).mono ?_
      rintro e w3 ⟨rfl, hb3⟩
      have HB3 := Lib.hid (HB2.out.trans (hb3.mono HB2.out.size)); clear hb3
      go_wp2_with fail
      go_ret
      exact ⟨by rw [HQf.out]; rfl, HB3.out⟩
end Go.Proofs.YtbpegjgpdgeadaaGreatDoor
namespace Go.Proofs.YtbpegjgpdgeadaaGreatDoor
open Go Go.RowKit Metro
open Go.Lib (nDigits decDigits)

/-- The errors of sums: none so far. -/
def SumsAt (w : World) (b : Nat) : Prop := w.heap[b]? = some (.cells #[.int .i64 0] 234 (0, 0))
theorem SumsAt.lt {w : World} {b : Nat} (h : SumsAt w b) : b < w.heap.size := (Array.getElem?_eq_some_iff.1 h).1
theorem SumsAt.cell {w : World} {b : Nat} (h : SumsAt w b) : w.cell? ⟨b, 0, none⟩ = some (.int .i64 0) := by
  rw [Lib.cell_of_heap h]; rfl
theorem SumsAt.free {w : World} {b : Nat} (h : SumsAt w b) (i : Nat) : w.frozen? ⟨b, i, none⟩ = false := Lib.frozen_of_heap h i
theorem SumsAt.below {B : Nat} {w w' : World} {b : Nat} (h : SumsAt w b) (hb : Below B w w') (hB : b < B) : SumsAt w' b := by
  unfold SumsAt; rw [hb.block b hB]; exact h
theorem SumsAt.set {w : World} {b : Nat} (h : SumsAt w b) : SumsAt (w.setCell ⟨b, 0, none⟩ (.int .i64 0)) b := by
  unfold SumsAt World.setCell
  simp only [Array.getElem?_modify, if_true]
  rw [show w.heap[b]? = _ from h]
  simp
theorem sumsAt_new (w : World) : SumsAt (w.alloc (.cells #[.int .i64 0] 234)) w.heap.size := heap_alloc_new w _

theorem grown_below {w w' : World} {row : Option Nat} (h : Below w.heap.size w w') : w.grownBy w' row := ⟨h.os, h.tape, h.output, h.size, fun i hi _ => h.block i hi⟩

/-- Sums of the call's own. -/
structure Sums (w0 w : World) (b : Nat) : Prop where
  env : Env w0
  le : w0.heap.size ≤ b
  below : Below w0.heap.size w0 w
  at_ : SumsAt w b
theorem Sums.grown {w0 w w' : World} {b : Nat} (h : Sums w0 w b) (hg : w.grownBy w' (some b)) (hs : SumsAt w' b) : Sums w0 w' b :=
  ⟨h.env, h.le, h.below.grown hg h.below.size (fun k hk => by have := Option.some.inj hk; have := h.le; omega), hs⟩
theorem Sums.now {w0 w : World} {b : Nat} (h : Sums w0 w b) : Env w := h.env.below h.below
theorem Sums.later {w0 w w' : World} {b : Nat} (h : Sums w0 w b) (hb : Below w.heap.size w w') : Sums w0 w' b :=
  h.grown (grown_below hb) (h.at_.below hb h.at_.lt)

/-- An operation of sums at whole numbers. -/
def SumOp (w0 : World) (b : Nat) (R : ByteArray) (e : Ending) (w w' : World) : Prop := e = .returned (.string R) ∧ Sums w0 w' b ∧ w.grownBy w' (some b)

set_option maxHeartbeats 2000000 in
set_option maxRecDepth 100000 in
theorem do_any (w0 : World) (k b : Nat) (hk : k = 213 ∨ k = 237 ∨ k = 208 ∨ k = 217 ∨ k = 230) (A1 A2 R : ByteArray) (w : World) (hs : Sums w0 w b)
    (hop : Calls Tryz.prog k #[.string A1, .string A2] w fun e w' => e = .returned (.tuple #[.string R, .int .i64 0]) ∧ Below w.heap.size w w') :
    Calls Tryz.prog 207 #[.pointer (some ⟨b, 0, none⟩), .func (.func k) #[] #[], .string A1, .string A2] w fun e w' => SumOp w0 b R e w w' := by
  have c0 := hs.at_.cell
  have hlt := hs.at_.lt
  have HOP := Lib.hid hop; have HS := Lib.hid hs
  clear hop hs
  rcases hk with rfl | rfl | rfl | rfl | rfl
  all_goals
    go_enter Tryz.func207, Tryz.ntmps207
    go_wp2_with fail
    refine HOP.out.mono ?_
    rintro e w1 ⟨rfl, hb1⟩
    have hs1 := HS.out.at_.below hb1 hlt
    have c1 := hs1.cell
    have f1 := hs1.free 0
    have HS1 := Lib.hid hs1
    have HB1 : Hid (w.grownBy w1 (some b)) := Lib.hid (grown_below hb1)
    clear hs1 hb1
    go_wp2_with fail
    go_ret
    exact ⟨rfl, HS.out.grown (grown_set HB1.out _ _) HS1.out.set, grown_set HB1.out _ _⟩

set_option maxHeartbeats 1000000 in
theorem sumsAdd_any (w0 : World) (b : Nat) (x y : Int) (w : World) (hs : Sums w0 w b) (h1 : nDigits x.natAbs ≤ 1024) (h2 : nDigits y.natAbs ≤ 1024) (h3 : nDigits (x + y).natAbs ≤ 1024) :
    Calls Tryz.prog 174 #[.pointer (some ⟨b, 0, none⟩), .string (zt x), .string (zt y)] w fun e w' => SumOp w0 b (zt (x + y)) e w w' := by
  have HC := Lib.hid (do_any w0 213 b (.inl rfl) (zt x) (zt y) (zt (x + y)) w hs (add_any x y w hs.now h1 h2 h3))
  clear hs h1 h2 h3
  go_enter Tryz.func174, Tryz.ntmps174
  go_wp2_with fail
  refine HC.out.mono ?_
  rintro e w1 ⟨rfl, h1, h2⟩
  go_wp2_with fail
  go_ret
  exact ⟨rfl, h1, h2⟩

set_option maxHeartbeats 1000000 in
theorem sumsSub_any (w0 : World) (b : Nat) (x y : Int) (w : World) (hs : Sums w0 w b) (h1 : nDigits x.natAbs ≤ 1024) (h2 : nDigits y.natAbs ≤ 1024) (h3 : nDigits (x - y).natAbs ≤ 1024) :
    Calls Tryz.prog 210 #[.pointer (some ⟨b, 0, none⟩), .string (zt x), .string (zt y)] w fun e w' => SumOp w0 b (zt (x - y)) e w w' := by
  have HC := Lib.hid (do_any w0 237 b (.inr (.inl rfl)) (zt x) (zt y) (zt (x - y)) w hs (sub_any x y w hs.now h1 h2 h3))
  clear hs h1 h2 h3
  go_enter Tryz.func210, Tryz.ntmps210
  go_wp2_with fail
  refine HC.out.mono ?_
  rintro e w1 ⟨rfl, h1, h2⟩
  go_wp2_with fail
  go_ret
  exact ⟨rfl, h1, h2⟩

def prod2 (a b : Int) : Nat → Int | 0 => 1 | 1 => a | _ => a * b

set_option maxHeartbeats 2000000 in
set_option maxRecDepth 100000 in
theorem sumsMul_anyN (N : Nat) (hN : N = 2) (w0 : World) (b : Nat) (x y : Int) (T : Nat) (w : World) (hs : Sums w0 w b) (h1 : nDigits x.natAbs ≤ 1024) (h2 : nDigits y.natAbs ≤ 1024) (h3 : nDigits (x * y).natAbs ≤ 1024) :
    Calls Tryz.prog 164 #[.pointer (some ⟨b, 0, none⟩), .slice (some ⟨w.heap.size, 0, none⟩) N N] (w.alloc (.cells #[.string (zt x), .string (zt y)] T)) fun e w' => SumOp w0 b (zt (x * y)) e w w' := by
  have hblt := hs.at_.lt
  have hB0 : Below w.heap.size w (w.alloc (.cells #[.string (zt x), .string (zt y)] T)) := (Below.refl _ _).alloc (Nat.le_refl _) _
  have hc := pair_cells w T (zt x) (zt y)
  have hs' := hs.later hB0
  have hsz : (w.alloc (.cells #[.string (zt x), .string (zt y)] T)).heap.size = w.heap.size + 1 := by simp
  have hb0 : w.grownBy (w.alloc (.cells #[.string (zt x), .string (zt y)] T)) (some b) := grown_below hB0
  obtain ⟨g, hg⟩ : ∃ g, g = w.heap.size := ⟨_, rfl⟩
  rw [← hg] at hc hsz hblt ⊢
  clear hB0
  generalize (w.alloc (.cells #[.string (zt x), .string (zt y)] T)) = W at hc hb0 hs' hsz ⊢
  have hNle : N ≤ 2 := by omega
  have hgw : g < W.heap.size := by omega
  have HC := Lib.hid hc; have HB0 := Lib.hid hb0; have H1 := Lib.hid h1; have H2 := Lib.hid h2; have H3 := Lib.hid h3; have HSZ := Lib.hid hsz; have HG := Lib.hid hg; have HN := Lib.hid hN; have HS := Lib.hid hs'
  clear hc hb0 h1 h2 h3 hsz hg hN hs' hs
  go_enter Tryz.func164, Tryz.ntmps164
  go_wp2_with fail
  go_loopg [5, 8, 13] N (fun d out s i wr => ∃ (k : Nat), i = .int .i64 k ∧ k ≤ N ∧ d = N - k ∧ out = .string (zt (prod2 x y k)) ∧ Sums w0 wr b ∧ W.grownBy wr (some b))
  case atStart => exact ⟨0, rfl, Nat.zero_le _, rfl, by rw [show prod2 x y 0 = 1 from rfl, zt_one], HS.out, grown_refl _ _⟩
  case round =>
    obtain ⟨k, rfl, hk, rfl, rfl, hsr, hgr⟩ := hrel
    by_cases hlt : k < N
    · obtain ⟨z, hz1, hz2, hz3, hz4, hz5⟩ : ∃ z, prod2 x y (k + 1) = prod2 x y k * z ∧ W.cell? ⟨g, k, none⟩ = some (.string (zt z)) ∧ nDigits z.natAbs ≤ 1024 ∧ nDigits (prod2 x y k).natAbs ≤ 1024 ∧ nDigits (prod2 x y k * z).natAbs ≤ 1024 := by
        have hN := HN.out
        have hc := HC.out k (by omega)
        rcases (by omega : k = 0 ∨ k = 1) with rfl | rfl
        · exact ⟨x, by simp [prod2], hc, H1.out, one_digit, by simpa [prod2] using H1.out⟩
        · exact ⟨y, rfl, hc, H2.out, H1.out, H3.out⟩
      have hyw : wr.cell? ⟨g, k, none⟩ = some (.string (zt z)) := by
        unfold World.cell?
        rw [hgr.block g hgw (by intro e; have := Option.some.inj e; omega)]
        exact hz2
      have key := do_any w0 208 b (.inr (.inr (.inl rfl))) (zt (prod2 x y k)) (zt z) (zt (prod2 x y k * z)) wr hsr (mul_any _ _ wr hsr.now hz4 hz3 hz5)
      have KEY := Lib.hid key
      have HZ1 := Lib.hid hz1; have HGR := Lib.hid hgr
      clear key hz1 hz2 hz3 hz4 hz5 hgr hsr
      go_wp2_with fail
      refine KEY.out.mono ?_
      rintro e w1 ⟨rfl, hs1, hg1⟩
      go_wp2_with fail
      go_roundg (N - (k + 1))
      case measure => omega
      case rel => exact ⟨k + 1, by go_num, by omega, rfl, by rw [HZ1.out], hs1, grown_trans HGR.out hg1⟩
    · have hk2 : k = 2 := by have := HN.out; omega
      subst hk2
      have hlt' : ¬ 2 < N := hlt
      go_wp2_with fail
      go_ret
      exact ⟨rfl, hsr, grown_trans HB0.out hgr⟩

theorem sumsMul_any (w0 : World) (b : Nat) (x y : Int) (T : Nat) (w : World) (hs : Sums w0 w b) (h1 : nDigits x.natAbs ≤ 1024) (h2 : nDigits y.natAbs ≤ 1024) (h3 : nDigits (x * y).natAbs ≤ 1024) :
    Calls Tryz.prog 164 #[.pointer (some ⟨b, 0, none⟩), .slice (some ⟨w.heap.size, 0, none⟩) 2 2] (w.alloc (.cells #[.string (zt x), .string (zt y)] T)) fun e w' => SumOp w0 b (zt (x * y)) e w w' :=
  sumsMul_anyN 2 rfl w0 b x y T w hs h1 h2 h3
end Go.Proofs.YtbpegjgpdgeadaaGreatDoor
namespace Go.Proofs.YtbpegjgpdgeadaaGreatDoor
open Go Go.RowKit Metro
open Go.Lib (nDigits decDigits)

theorem zt_has_minus (z : Int) : Lib.hasPrefix (zt z).data.toList [45] = decide (z < 0) := by
  rw [zt_toList, Bool.eq_iff_iff, decide_eq_true_iff, ← zl_head]
  unfold Lib.hasPrefix
  cases zl z with
  | nil => simp
  | cons c l =>
    simp only [List.isPrefixOf, Bool.and_true, List.head?_cons, Option.some.injEq, beq_iff_eq]
    exact ⟨Eq.symm, Eq.symm⟩

theorem zero_digit : nDigits (0 : Int).natAbs ≤ 1024 := Nat.le_trans ((Metro.nDigits_le (k := 1) (by decide)).2 (by decide)) (by decide)
theorem zt_zero48 : zt 0 = ⟨#[48]⟩ := zt_zero'

theorem lowG_digits {n d : Int} (hd : d ≠ 0) (h : nDigits d.natAbs ≤ 1024) : nDigits (lowG n d).natAbs ≤ 1024 ∧ nDigits (Int.gcd n d) ≤ 1024 := by
  have h1 : Int.gcd n d ≤ d.natAbs := Nat.le_of_dvd (by omega) (Nat.gcd_dvd_right _ _)
  have h2 : nDigits (Int.gcd n d) ≤ 1024 := Nat.le_trans (nDigits_mono h1) h
  refine ⟨?_, h2⟩
  unfold lowG
  split
  · rw [Int.natAbs_neg, Int.natAbs_natCast]; exact h2
  · rw [Int.natAbs_natCast]; exact h2

theorem lowG_dvd {n d : Int} : lowG n d ∣ n ∧ lowG n d ∣ d := by
  unfold lowG
  split
  · exact ⟨Int.neg_dvd.2 (Int.gcd_dvd_left ..), Int.neg_dvd.2 (Int.gcd_dvd_right ..)⟩
  · exact ⟨Int.gcd_dvd_left .., Int.gcd_dvd_right ..⟩

theorem low_mul {n d : Int} (hd : d ≠ 0) : (Rat.divInt n d).num * lowG n d = n ∧ ((Rat.divInt n d).den : Int) * lowG n d = d := by
  rw [← low_num hd, ← low_den hd]
  exact ⟨Int.fdiv_mul_cancel lowG_dvd.1, Int.fdiv_mul_cancel lowG_dvd.2⟩

set_option maxHeartbeats 2000000 in
set_option maxRecDepth 100000 in
theorem lowest_any (w0 : World) (b : Nat) (n d : Int) (w : World) (hs : Sums w0 w b) (hd : d ≠ 0) (h1 : nDigits n.natAbs ≤ 1024) (h2 : nDigits d.natAbs ≤ 1024) :
    Calls Tryz.prog 206 #[.pointer (some ⟨b, 0, none⟩), .string (zt n), .string (zt d)] w fun e w' => SumOp w0 b (qt (Rat.divInt n d)) e w w' := by
  have hg := lowG_digits (n := n) hd h2
  have hm := low_mul (n := n) hd
  have hne := lowG_ne (n := n) hd
  have hF : Fits (Rat.divInt n d) := Fits.of_divInt hd h1 h2
  have C1 := Lib.hid (do_any w0 217 b (by simp) (zt n) (zt d) (zt (Int.gcd n d)) w hs (gcd_any n d w hs.now h1 h2))
  have CP : Hid (∀ w : World, Calls Tryz.prog 229 #[.string (zt d), .string ⟨#[45]⟩] w fun e w' => e = .returned (.bool (decide (d < 0))) ∧ w' = w) := Lib.hid fun w => by
    have := Tryz.strings_HasPrefix (zt d) ⟨#[45]⟩ w
    rwa [show (⟨#[45]⟩ : ByteArray).data.toList = [45] from rfl, zt_has_minus] at this
  have C2 : Hid (∀ w, Sums w0 w b → Calls Tryz.prog 210 #[.pointer (some ⟨b, 0, none⟩), .string ⟨#[48]⟩, .string (zt (Int.gcd n d))] w fun e w' => SumOp w0 b (zt (-(Int.gcd n d : Int))) e w w') := Lib.hid fun w hs => by
    have := sumsSub_any w0 b 0 (Int.gcd n d) w hs zero_digit (by rw [Int.natAbs_natCast]; exact hg.2) (by rw [Int.zero_sub, Int.natAbs_neg, Int.natAbs_natCast]; exact hg.2)
    rwa [Int.zero_sub, zt_zero48] at this
  have C3 : Hid (∀ w, Sums w0 w b → Calls Tryz.prog 207 #[.pointer (some ⟨b, 0, none⟩), .func (.func 230) #[] #[], .string (zt n), .string (zt (lowG n d))] w fun e w' => SumOp w0 b (zt (Rat.divInt n d).num) e w w') := Lib.hid fun w hs => by
    refine do_any w0 230 b (by simp) _ _ _ w hs ?_
    have := quo_any (Rat.divInt n d).num (lowG n d) w hs.now (by rw [hm.1]; exact h1) hg.1 hne
    rwa [hm.1] at this
  have C4 : Hid (∀ w, Sums w0 w b → Calls Tryz.prog 207 #[.pointer (some ⟨b, 0, none⟩), .func (.func 230) #[] #[], .string (zt d), .string (zt (lowG n d))] w fun e w' => SumOp w0 b (zt (Rat.divInt n d).den) e w w') := Lib.hid fun w hs => by
    refine do_any w0 230 b (by simp) _ _ _ w hs ?_
    have := quo_any (Rat.divInt n d).den (lowG n d) w hs.now (by rw [hm.2]; exact h2) hg.1 hne
    rwa [hm.2] at this
  have C5 := Lib.hid (fun w => joined_any (Rat.divInt n d) w hF)
  have HG : Hid (lowG n d = if d < 0 then -(Int.gcd n d : Int) else (Int.gcd n d : Int)) := Lib.hid rfl
  clear hg hm hne hF h1 h2 hs
  by_cases hneg : d < 0
  · have hdec : decide (d < 0) = true := by simpa using hneg
    have hg : -(Int.gcd n d : Int) = lowG n d := by rw [HG.out, if_pos hneg]
    have HG2 := Lib.hid hg; have HDec := Lib.hid hdec
    clear hg hdec HG hneg
    go_enter Tryz.func206, Tryz.ntmps206
    go_wp2_with fail
    refine C1.out.mono ?_
    rintro e w1 ⟨rfl, hs1, hg1⟩
    have HG1 := Lib.hid hg1; clear hg1
    go_wp2_with fail
    refine (CP.out _).mono ?_
    rintro e w2 ⟨rfl, rfl⟩
    rw [HDec.out]
    go_wp2_with fail
    refine (C2.out _ hs1).mono ?_
    rintro e w3 ⟨rfl, hs3, hg3⟩
    have HG3 := Lib.hid (grown_trans HG1.out hg3); clear hg3
    rw [HG2.out]
    have k1 := hs3.at_.cell
    go_wp2_with fail
    refine (C3.out _ hs3).mono ?_
    rintro e w4 ⟨rfl, hs4, hg4⟩
    have HG4 := Lib.hid (grown_trans HG3.out hg4); clear hg4
    go_wp2_with fail
    refine (C4.out _ hs4).mono ?_
    rintro e w5 ⟨rfl, hs5, hg5⟩
    have HG5 := Lib.hid (grown_trans HG4.out hg5); clear hg5
    go_wp2_with fail
    refine (C5.out _).mono ?_
    rintro e w6 ⟨rfl, rfl⟩
    go_wp2_with fail
    go_ret
    exact ⟨rfl, hs5, HG5.out⟩
  · have hdec : decide (d < 0) = false := by simpa using hneg
    have hg : (Int.gcd n d : Int) = lowG n d := by rw [HG.out, if_neg hneg]
    have HG2 := Lib.hid hg; have HDec := Lib.hid hdec
    clear hg hdec HG hneg
    go_enter Tryz.func206, Tryz.ntmps206
    go_wp2_with fail
    refine C1.out.mono ?_
    rintro e w1 ⟨rfl, hs1, hg1⟩
    have HG1 := Lib.hid hg1; clear hg1
    rw [HG2.out]
    have k1 := hs1.at_.cell
    go_wp2_with fail
    refine (CP.out _).mono ?_
    rintro e w2 ⟨rfl, rfl⟩
    rw [HDec.out]
    go_wp2_with fail
    refine (C3.out _ hs1).mono ?_
    rintro e w4 ⟨rfl, hs4, hg4⟩
    have HG4 := Lib.hid (grown_trans HG1.out hg4); clear hg4
    go_wp2_with fail
    refine (C4.out _ hs4).mono ?_
    rintro e w5 ⟨rfl, hs5, hg5⟩
    have HG5 := Lib.hid (grown_trans HG4.out hg5); clear hg5
    go_wp2_with fail
    refine (C5.out _).mono ?_
    rintro e w6 ⟨rfl, rfl⟩
    go_wp2_with fail
    go_ret
    exact ⟨rfl, hs5, HG5.out⟩
end Go.Proofs.YtbpegjgpdgeadaaGreatDoor
namespace Go.Proofs.YtbpegjgpdgeadaaGreatDoor
open Go Go.RowKit Metro
open Go.Lib (nDigits decDigits)

theorem qt_size {q : Rat} (h : Fits q) : (qt q).size ≤ 4000 := by
  rw [Lib.size_eq, qt_toList]
  have h1 := h.1; have h2 := h.2
  have h3 := zl_length q.num
  have h4 := zl_length (q.den : Int)
  unfold ql
  split <;> (try simp only [List.length_append, List.length_cons]) <;> split at h3 <;> split at h4 <;> (try simp only [Int.natAbs_natCast] at *) <;> omega

theorem ratCheckQ_any (q : Rat) (w : World) (h : Fits q) (hE : Env w) :
    Calls Tryz.prog 177 #[.string (qt q)] w fun e w' => e = .returned (.int .i64 0) ∧ Below w.heap.size w w' := by
  refine (ratCheck_any (qt q) w (by have := qt_size h; omega) hE).mono ?_
  rintro e w' ⟨rfl, hb⟩
  rw [qt_toList, chkQ_ql h]
  exact ⟨rfl, hb⟩

set_option maxHeartbeats 1000000 in
set_option maxRecDepth 100000 in
theorem checks_any (g n : Nat) (qs : Nat → Rat) (w : World) (hE : Env w) (hn : n ≤ 100) (hc : ∀ i, i < n → w.cell? ⟨g, i, none⟩ = some (.string (qt (qs i)))) (h0 : ∀ i, i < n → Fits (qs i)) :
    Calls Tryz.prog 204 #[.slice (some ⟨g, 0, none⟩) n n] w fun e w' => e = .returned (.int .i64 0) ∧ Below w.heap.size w w' := by
  have HC := Lib.hid hc; have H0 := Lib.hid h0; have HE := Lib.hid hE
  clear hc h0 hE
  go_enter Tryz.func204, Tryz.ntmps204
  go_wp2
  go_loopg [4, 5, 8] n (fun d x e i wr => ∃ k : Nat, i = .int .i64 k ∧ k ≤ n ∧ d = n - k ∧ Below w.heap.size w wr)
  case atStart => exact ⟨0, rfl, by omega, rfl, Below.refl _ _⟩
  case round =>
    obtain ⟨k, rfl, hk, rfl, hb⟩ := hrel
    by_cases hlt : k < n
    · have hcell := HC.out k hlt
      have hcw : wr.cell? ⟨g, k, none⟩ = some (.string (qt (qs k))) := (hb.cell (p := ⟨g, k, none⟩) (World.block_lt_of_cell? w _ hcell)).trans hcell
      have HB := Lib.hid hb
      have Hcell := Lib.hid hcell
      have HE5 := Lib.hid (HE.out.below hb)
      clear hb hcell
      go_wp2_with fail
      refine (ratCheckQ_any (qs k) _ (H0.out k hlt) HE5.out).mono ?_
      rintro e w1 ⟨rfl, hb1⟩
      have HB1 := Lib.hid (HB.out.trans (hb1.mono HB.out.size))
      clear hb1
      go_wp2_with fail
      go_roundg (n - (k + 1))
      case measure => omega
      case rel => exact ⟨k + 1, by go_num, by omega, rfl, HB1.out⟩
    · have HB := Lib.hid hb; clear hb
      go_wp2_with fail
      go_ret
      exact ⟨rfl, HB.out⟩

theorem checks2_any (a b : Rat) (T : Nat) (w : World) (hE : Env w) (ha : Fits a) (hb : Fits b) :
    Calls Tryz.prog 204 #[.slice (some ⟨w.heap.size, 0, none⟩) 2 2] (w.alloc (.cells #[.string (qt a), .string (qt b)] T)) fun e w' => e = .returned (.int .i64 0) ∧ Below w.heap.size w w' := by
  refine (checks_any w.heap.size 2 (fun i => if i = 0 then a else b) _ (hE.below ((Below.refl _ _).alloc (Nat.le_refl _) _)) (by decide) (fun i hi => ?_) (fun i _ => by split; exact ha; exact hb)).mono ?_
  · rw [pair_cells w T _ _ i hi]
    split <;> rfl
  rintro e w' ⟨rfl, h⟩
  exact ⟨rfl, below_alloc' h⟩

/-- What a closure of made does. -/
def Terms (k : Nat) (a b : Rat) (n d : Int) : Prop := ∀ (w0 w : World) (s : Nat), Sums w0 w s →
  Calls Tryz.prog k #[.pointer (some ⟨s, 0, none⟩), .string (zt a.num), .string (zt a.den), .string (zt b.num), .string (zt b.den)] w fun e w' => e = .returned (.tuple #[.string (zt n), .string (zt d)]) ∧ Sums w0 w' s

set_option maxHeartbeats 4000000 in
set_option maxRecDepth 100000 in
theorem made_any (k : Nat) (hk : k = 173 ∨ k = 209 ∨ k = 163 ∨ k = 246) (a b : Rat) (n d : Int) (w : World) (hE : Env w) (ha : Fits a) (hb : Fits b) (hd : d ≠ 0) (h1 : nDigits n.natAbs ≤ 1024) (h2 : nDigits d.natAbs ≤ 1024) (ht : Terms k a b n d) :
    Calls Tryz.prog 162 #[.string (qt a), .string (qt b), .func (.func k) #[] #[]] w fun e w' => e = .returned (.tuple #[.string (qt (Rat.divInt n d)), .int .i64 0]) ∧ Below w.heap.size w w' := by
  have e0 := zt_not0 hd
  have HE := Lib.hid hE; have HA := Lib.hid ha; have HBb := Lib.hid hb; have H1 := Lib.hid h1; have H2 := Lib.hid h2; have HT := Lib.hid ht; have HD := Lib.hid hd
  clear hE ha hb h1 h2 ht hd
  rcases hk with rfl | rfl | rfl | rfl
  all_goals
    go_enter Tryz.func162, Tryz.ntmps162
    go_wp2_with fail
    refine (checks2_any a b _ w HE.out HA.out HBb.out).mono ?_
    rintro e w1 ⟨rfl, hb1⟩
    have HB1 := Lib.hid hb1; clear hb1
    have HE1 := Lib.hid (HE.out.below HB1.out)
    go_wp2_with fail
    refine (cutQ_any a _ HA.out HE1.out).mono ?_
    rintro e w2 ⟨rfl, hb2⟩
    have HB2 := Lib.hid (HB1.out.trans (hb2.mono HB1.out.size)); clear hb2
    have HE2 := Lib.hid (HE.out.below HB2.out)
    go_wp2_with fail
    refine (cutQ_any b _ HBb.out HE2.out).mono ?_
    rintro e w3 ⟨rfl, hb3⟩
    have HB3 := Lib.hid (HB2.out.trans (hb3.mono HB2.out.size)); clear hb3
    have hS : Hid (Sums w (w3.alloc (.cells #[.int .i64 0] 234)) w3.heap.size) := Lib.hid ⟨HE.out, HB3.out.size, HB3.out.alloc HB3.out.size _, sumsAt_new _⟩
    go_wp2_with fail
    refine (HT.out w _ w3.heap.size hS.out).mono ?_
    rintro e w4 ⟨rfl, hs4⟩
    have k4 := hs4.at_.cell
    go_wp2_with fail
    refine (lowest_any w w3.heap.size n d _ hs4 HD.out H1.out H2.out).mono ?_
    rintro e w5 ⟨rfl, hs5, _⟩
    have k5 := hs5.at_.cell
    go_wp2_with fail
    go_quiet (fail)
    go_wp2_with fail
    go_ret2
    exact ⟨rfl, hs5.below.trans (below_drewN _ _ _)⟩
end Go.Proofs.YtbpegjgpdgeadaaGreatDoor
namespace Go.Proofs.YtbpegjgpdgeadaaGreatDoor
open Go Go.RowKit Metro
open Go.Lib (nDigits decDigits)

/-- A number whose numerator and denominator have at most k digits. -/
def Dig (k : Nat) (q : Rat) : Prop := nDigits q.num.natAbs ≤ k ∧ nDigits q.den ≤ k
theorem Dig.mono {k m : Nat} {q : Rat} (h : Dig k q) (hm : k ≤ m) : Dig m q := ⟨Nat.le_trans h.1 hm, Nat.le_trans h.2 hm⟩
theorem Dig.fits {k : Nat} {q : Rat} (h : Dig k q) (hk : k ≤ 1024) : Fits q := ⟨Nat.le_trans h.1 hk, Nat.le_trans h.2 hk⟩
theorem dig_mul {x y : Int} {k m r : Nat} (hx : nDigits x.natAbs ≤ k) (hy : nDigits y.natAbs ≤ m) (h : k + m ≤ r) : nDigits (x * y).natAbs ≤ r := by
  rw [Int.natAbs_mul]; exact Nat.le_trans (nDigits_mul _ _) (by omega)
theorem dig_add {x y : Int} {k r : Nat} (hx : nDigits x.natAbs ≤ k) (hy : nDigits y.natAbs ≤ k) (h : k + 1 ≤ r) : nDigits (x + y).natAbs ≤ r :=
  Nat.le_trans (nDigits_mono (Int.natAbs_add_le _ _)) (Nat.le_trans (nDigits_add hx hy) h)
theorem Dig.den {k : Nat} {q : Rat} (h : Dig k q) : nDigits ((q.den : Int)).natAbs ≤ k := by rw [Int.natAbs_natCast]; exact h.2

set_option maxHeartbeats 2000000 in
set_option maxRecDepth 100000 in
theorem addTerms {a b : Rat} {ka kb : Nat} (ha : Dig ka a) (hb : Dig kb b) (hk : ka + kb + 1 ≤ 1024) : Terms 173 a b (a.num * b.den + b.num * a.den) (a.den * b.den) := by
  intro w0 w s hs
  have C1 : Hid (∀ w, Sums w0 w s → Calls Tryz.prog 164 #[.pointer (some ⟨s, 0, none⟩), .slice (some ⟨w.heap.size, 0, none⟩) 2 2] (w.alloc (.cells #[.string (zt a.num), .string (zt b.den)] 148)) fun e w' => SumOp w0 s (zt (a.num * b.den)) e w w') := Lib.hid fun w hs => sumsMul_any w0 s _ _ _ w hs (Nat.le_trans ha.1 (by omega)) (Nat.le_trans hb.den (by omega)) (dig_mul ha.1 hb.den (by omega))
  have C2 : Hid (∀ w, Sums w0 w s → Calls Tryz.prog 164 #[.pointer (some ⟨s, 0, none⟩), .slice (some ⟨w.heap.size, 0, none⟩) 2 2] (w.alloc (.cells #[.string (zt b.num), .string (zt a.den)] 148)) fun e w' => SumOp w0 s (zt (b.num * a.den)) e w w') := Lib.hid fun w hs => sumsMul_any w0 s _ _ _ w hs (Nat.le_trans hb.1 (by omega)) (Nat.le_trans ha.den (by omega)) (dig_mul hb.1 ha.den (by omega))
  have C3 : Hid (∀ w, Sums w0 w s → Calls Tryz.prog 164 #[.pointer (some ⟨s, 0, none⟩), .slice (some ⟨w.heap.size, 0, none⟩) 2 2] (w.alloc (.cells #[.string (zt a.den), .string (zt b.den)] 148)) fun e w' => SumOp w0 s (zt (a.den * b.den)) e w w') := Lib.hid fun w hs => sumsMul_any w0 s _ _ _ w hs (Nat.le_trans ha.den (by omega)) (Nat.le_trans hb.den (by omega)) (dig_mul ha.den hb.den (by omega))
  have C4 : Hid (∀ w, Sums w0 w s → Calls Tryz.prog 174 #[.pointer (some ⟨s, 0, none⟩), .string (zt (a.num * b.den)), .string (zt (b.num * a.den))] w fun e w' => SumOp w0 s (zt (a.num * b.den + b.num * a.den)) e w w') := Lib.hid fun w hs => sumsAdd_any w0 s _ _ w hs (dig_mul ha.1 hb.den (by omega)) (dig_mul hb.1 ha.den (by omega)) (dig_add (k := ka + kb) (dig_mul ha.1 hb.den (by omega)) (dig_mul hb.1 ha.den (by omega)) (by omega))
  have HS := Lib.hid hs
  clear ha hb hk hs
  go_enter Tryz.func173, Tryz.ntmps173
  go_wp2_with fail
  refine (C1.out _ HS.out).mono ?_
  rintro e w1 ⟨rfl, hs1, _⟩
  go_wp2_with fail
  refine (C2.out _ hs1).mono ?_
  rintro e w2 ⟨rfl, hs2, _⟩
  go_wp2_with fail
  refine (C4.out _ hs2).mono ?_
  rintro e w3 ⟨rfl, hs3, _⟩
  go_wp2_with fail
  refine (C3.out _ hs3).mono ?_
  rintro e w4 ⟨rfl, hs4, _⟩
  go_wp2_with fail
  go_ret2
  exact ⟨rfl, hs4⟩

set_option maxHeartbeats 2000000 in
set_option maxRecDepth 100000 in
theorem subTerms {a b : Rat} {ka kb : Nat} (ha : Dig ka a) (hb : Dig kb b) (hk : ka + kb + 1 ≤ 1024) : Terms 209 a b (a.num * b.den - b.num * a.den) (a.den * b.den) := by
  intro w0 w s hs
  have C1 : Hid (∀ w, Sums w0 w s → Calls Tryz.prog 164 #[.pointer (some ⟨s, 0, none⟩), .slice (some ⟨w.heap.size, 0, none⟩) 2 2] (w.alloc (.cells #[.string (zt a.num), .string (zt b.den)] 148)) fun e w' => SumOp w0 s (zt (a.num * b.den)) e w w') := Lib.hid fun w hs => sumsMul_any w0 s _ _ _ w hs (Nat.le_trans ha.1 (by omega)) (Nat.le_trans hb.den (by omega)) (dig_mul ha.1 hb.den (by omega))
  have C2 : Hid (∀ w, Sums w0 w s → Calls Tryz.prog 164 #[.pointer (some ⟨s, 0, none⟩), .slice (some ⟨w.heap.size, 0, none⟩) 2 2] (w.alloc (.cells #[.string (zt b.num), .string (zt a.den)] 148)) fun e w' => SumOp w0 s (zt (b.num * a.den)) e w w') := Lib.hid fun w hs => sumsMul_any w0 s _ _ _ w hs (Nat.le_trans hb.1 (by omega)) (Nat.le_trans ha.den (by omega)) (dig_mul hb.1 ha.den (by omega))
  have C3 : Hid (∀ w, Sums w0 w s → Calls Tryz.prog 164 #[.pointer (some ⟨s, 0, none⟩), .slice (some ⟨w.heap.size, 0, none⟩) 2 2] (w.alloc (.cells #[.string (zt a.den), .string (zt b.den)] 148)) fun e w' => SumOp w0 s (zt (a.den * b.den)) e w w') := Lib.hid fun w hs => sumsMul_any w0 s _ _ _ w hs (Nat.le_trans ha.den (by omega)) (Nat.le_trans hb.den (by omega)) (dig_mul ha.den hb.den (by omega))
  have C4 : Hid (∀ w, Sums w0 w s → Calls Tryz.prog 210 #[.pointer (some ⟨s, 0, none⟩), .string (zt (a.num * b.den)), .string (zt (b.num * a.den))] w fun e w' => SumOp w0 s (zt (a.num * b.den - b.num * a.den)) e w w') := Lib.hid fun w hs => sumsSub_any w0 s _ _ w hs (dig_mul ha.1 hb.den (by omega)) (dig_mul hb.1 ha.den (by omega)) (by rw [Int.sub_eq_add_neg]; exact dig_add (k := ka + kb) (dig_mul ha.1 hb.den (by omega)) (by rw [Int.natAbs_neg]; exact dig_mul hb.1 ha.den (by omega)) (by omega))
  have HS := Lib.hid hs
  clear ha hb hk hs
  go_enter Tryz.func209, Tryz.ntmps209
  go_wp2_with fail
  refine (C1.out _ HS.out).mono ?_
  rintro e w1 ⟨rfl, hs1, _⟩
  go_wp2_with fail
  refine (C2.out _ hs1).mono ?_
  rintro e w2 ⟨rfl, hs2, _⟩
  go_wp2_with fail
  refine (C4.out _ hs2).mono ?_
  rintro e w3 ⟨rfl, hs3, _⟩
  go_wp2_with fail
  refine (C3.out _ hs3).mono ?_
  rintro e w4 ⟨rfl, hs4, _⟩
  go_wp2_with fail
  go_ret2
  exact ⟨rfl, hs4⟩

set_option maxHeartbeats 2000000 in
set_option maxRecDepth 100000 in
theorem mulTerms {a b : Rat} {ka kb : Nat} (ha : Dig ka a) (hb : Dig kb b) (hk : ka + kb ≤ 1024) : Terms 163 a b (a.num * b.num) (a.den * b.den) := by
  intro w0 w s hs
  have C1 : Hid (∀ w, Sums w0 w s → Calls Tryz.prog 164 #[.pointer (some ⟨s, 0, none⟩), .slice (some ⟨w.heap.size, 0, none⟩) 2 2] (w.alloc (.cells #[.string (zt a.num), .string (zt b.num)] 148)) fun e w' => SumOp w0 s (zt (a.num * b.num)) e w w') := Lib.hid fun w hs => sumsMul_any w0 s _ _ _ w hs (Nat.le_trans ha.1 (by omega)) (Nat.le_trans hb.1 (by omega)) (dig_mul ha.1 hb.1 (by omega))
  have C3 : Hid (∀ w, Sums w0 w s → Calls Tryz.prog 164 #[.pointer (some ⟨s, 0, none⟩), .slice (some ⟨w.heap.size, 0, none⟩) 2 2] (w.alloc (.cells #[.string (zt a.den), .string (zt b.den)] 148)) fun e w' => SumOp w0 s (zt (a.den * b.den)) e w w') := Lib.hid fun w hs => sumsMul_any w0 s _ _ _ w hs (Nat.le_trans ha.den (by omega)) (Nat.le_trans hb.den (by omega)) (dig_mul ha.den hb.den (by omega))
  have HS := Lib.hid hs
  clear ha hb hk hs
  go_enter Tryz.func163, Tryz.ntmps163
  go_wp2_with fail
  refine (C1.out _ HS.out).mono ?_
  rintro e w1 ⟨rfl, hs1, _⟩
  go_wp2_with fail
  refine (C3.out _ hs1).mono ?_
  rintro e w4 ⟨rfl, hs4, _⟩
  go_wp2_with fail
  go_ret2
  exact ⟨rfl, hs4⟩

set_option maxHeartbeats 2000000 in
set_option maxRecDepth 100000 in
theorem divTerms {a b : Rat} {ka kb : Nat} (ha : Dig ka a) (hb : Dig kb b) (hk : ka + kb ≤ 1024) : Terms 246 a b (a.num * b.den) (a.den * b.num) := by
  intro w0 w s hs
  have C1 : Hid (∀ w, Sums w0 w s → Calls Tryz.prog 164 #[.pointer (some ⟨s, 0, none⟩), .slice (some ⟨w.heap.size, 0, none⟩) 2 2] (w.alloc (.cells #[.string (zt a.num), .string (zt b.den)] 148)) fun e w' => SumOp w0 s (zt (a.num * b.den)) e w w') := Lib.hid fun w hs => sumsMul_any w0 s _ _ _ w hs (Nat.le_trans ha.1 (by omega)) (Nat.le_trans hb.den (by omega)) (dig_mul ha.1 hb.den (by omega))
  have C3 : Hid (∀ w, Sums w0 w s → Calls Tryz.prog 164 #[.pointer (some ⟨s, 0, none⟩), .slice (some ⟨w.heap.size, 0, none⟩) 2 2] (w.alloc (.cells #[.string (zt a.den), .string (zt b.num)] 148)) fun e w' => SumOp w0 s (zt (a.den * b.num)) e w w') := Lib.hid fun w hs => sumsMul_any w0 s _ _ _ w hs (Nat.le_trans ha.den (by omega)) (Nat.le_trans hb.1 (by omega)) (dig_mul ha.den hb.1 (by omega))
  have HS := Lib.hid hs
  clear ha hb hk hs
  go_enter Tryz.func246, Tryz.ntmps246
  go_wp2_with fail
  refine (C1.out _ HS.out).mono ?_
  rintro e w1 ⟨rfl, hs1, _⟩
  go_wp2_with fail
  refine (C3.out _ hs1).mono ?_
  rintro e w4 ⟨rfl, hs4, _⟩
  go_wp2_with fail
  go_ret2
  exact ⟨rfl, hs4⟩
end Go.Proofs.YtbpegjgpdgeadaaGreatDoor
namespace Go.Proofs.YtbpegjgpdgeadaaGreatDoor
open Go Go.RowKit Metro
open Go.Lib (nDigits decDigits)

theorem denP (a b : Rat) : (a.den : Int) * b.den ≠ 0 := Int.mul_ne_zero (den_ne a) (den_ne b)

/-- Two numbers with a result that has one, and no error. -/
def QOk (q : Rat) (e : Ending) (w w' : World) : Prop := e = .returned (.tuple #[.string (qt q), .int .i64 0]) ∧ Below w.heap.size w w'

set_option maxHeartbeats 1000000 in
theorem qadd_any (a b : Rat) (ka kb : Nat) (w : World) (hE : Env w) (ha : Dig ka a) (hb : Dig kb b) (hk : ka + kb + 1 ≤ 1024) :
    Calls Tryz.prog 97 #[.string (qt a), .string (qt b)] w fun e w' => QOk (a + b) e w w' := by
  have C := Lib.hid (made_any 173 (by simp) a b _ _ w hE (ha.fits (by omega)) (hb.fits (by omega)) (denP a b) (dig_add (k := ka + kb) (dig_mul ha.1 hb.den (by omega)) (dig_mul hb.1 ha.den (by omega)) (by omega)) (dig_mul ha.den hb.den (by omega)) (addTerms ha hb hk))
  clear ha hb hk hE
  go_enter Tryz.func97, Tryz.ntmps97
  go_wp2_with fail
  refine C.out.mono ?_
  rintro e w1 ⟨rfl, hb1⟩
  rw [← add_parts]
  go_wp2_with fail
  go_ret2
  exact ⟨rfl, hb1⟩

set_option maxHeartbeats 1000000 in
theorem qsub_any (a b : Rat) (ka kb : Nat) (w : World) (hE : Env w) (ha : Dig ka a) (hb : Dig kb b) (hk : ka + kb + 1 ≤ 1024) :
    Calls Tryz.prog 169 #[.string (qt a), .string (qt b)] w fun e w' => QOk (a - b) e w w' := by
  have C := Lib.hid (made_any 209 (by simp) a b _ _ w hE (ha.fits (by omega)) (hb.fits (by omega)) (denP a b) (by rw [Int.sub_eq_add_neg]; exact dig_add (k := ka + kb) (dig_mul ha.1 hb.den (by omega)) (by rw [Int.natAbs_neg]; exact dig_mul hb.1 ha.den (by omega)) (by omega)) (dig_mul ha.den hb.den (by omega)) (subTerms ha hb hk))
  clear ha hb hk hE
  go_enter Tryz.func169, Tryz.ntmps169
  go_wp2_with fail
  refine C.out.mono ?_
  rintro e w1 ⟨rfl, hb1⟩
  rw [← sub_parts]
  go_wp2_with fail
  go_ret2
  exact ⟨rfl, hb1⟩

set_option maxHeartbeats 1000000 in
theorem qmul_any (a b : Rat) (ka kb : Nat) (w : World) (hE : Env w) (ha : Dig ka a) (hb : Dig kb b) (hk : ka + kb ≤ 1024) :
    Calls Tryz.prog 81 #[.string (qt a), .string (qt b)] w fun e w' => QOk (a * b) e w w' := by
  have C := Lib.hid (made_any 163 (by simp) a b _ _ w hE (ha.fits (by omega)) (hb.fits (by omega)) (denP a b) (dig_mul ha.1 hb.1 (by omega)) (dig_mul ha.den hb.den (by omega)) (mulTerms ha hb hk))
  clear ha hb hk hE
  go_enter Tryz.func81, Tryz.ntmps81
  go_wp2_with fail
  refine C.out.mono ?_
  rintro e w1 ⟨rfl, hb1⟩
  rw [← mul_parts]
  go_wp2_with fail
  go_ret2
  exact ⟨rfl, hb1⟩

theorem qt_list (q : Rat) : (qt q).toList = ql q := by rw [Lib.toList_data, qt_toList]
theorem ql_zero : ql 0 = [48] := by unfold ql; rw [if_pos (show Rat.den 0 = 1 from rfl)]; exact zl_zero
theorem qt_is0 {q : Rat} (h : q = 0) : ((qt q).toList == [48]) = true := by rw [qt_list, h, ql_zero]; rfl
theorem qt_not0 {q : Rat} (h : q ≠ 0) : ((qt q).toList == [48]) = false := by
  rw [qt_list, beq_eq_false_iff_ne]; exact fun e => h (ql_inj (e.trans ql_zero.symm))

set_option maxHeartbeats 1000000 in
set_option maxRecDepth 100000 in
theorem qdiv_any (a b : Rat) (ka kb : Nat) (w : World) (hE : Env w) (ha : Dig ka a) (hb : Dig kb b) (hk : ka + kb ≤ 1024) (hk2 : ka ≤ 1024) (hk3 : kb ≤ 1024) (h0 : b ≠ 0) :
    Calls Tryz.prog 227 #[.string (qt a), .string (qt b)] w fun e w' => QOk (a / b) e w w' := by
  have e0 := qt_not0 h0
  have C := Lib.hid (fun w hE => made_any 246 (by simp) a b _ _ w hE (ha.fits (by omega)) (hb.fits (by omega)) (Int.mul_ne_zero (den_ne a) (num_ne h0)) (dig_mul ha.1 hb.den (by omega)) (dig_mul ha.den hb.1 (by omega)) (divTerms ha hb hk))
  have C2 := Lib.hid (checks2_any a b 22 w hE (ha.fits hk2) (hb.fits hk3))
  have HE := Lib.hid hE; have H0 := Lib.hid h0
  clear ha hb hk hE h0
  go_enter Tryz.func227, Tryz.ntmps227
  go_wp2_with fail
  refine C2.out.mono ?_
  rintro e w1 ⟨rfl, hb1⟩
  have HB1 := Lib.hid hb1; clear hb1
  go_wp2_with fail
  refine (C.out _ (HE.out.below HB1.out)).mono ?_
  rintro e w2 ⟨rfl, hb2⟩
  rw [← div_parts H0.out]
  have HB2 := Lib.hid (HB1.out.trans (hb2.mono HB1.out.size)); clear hb2
  go_wp2_with fail
  go_ret2
  exact ⟨rfl, HB2.out⟩

set_option maxHeartbeats 1000000 in
set_option maxRecDepth 100000 in
/-- a / 0 is an error. -/
theorem qdiv0_any (a : Rat) (w : World) (hE : Env w) (ha : Fits a) :
    Calls Tryz.prog 227 #[.string (qt a), .string (qt 0)] w fun e w' => e = .returned (.tuple #[.string ⟨#[]⟩, .int .i64 10]) ∧ Below w.heap.size w w' := by
  have e0 := qt_is0 (q := 0) rfl
  have C2 := Lib.hid (checks2_any a 0 22 w hE ha ⟨zero_digit, one_digit⟩)
  clear hE ha
  go_enter Tryz.func227, Tryz.ntmps227
  go_wp2_with fail
  refine C2.out.mono ?_
  rintro e w1 ⟨rfl, hb1⟩
  have HB1 := Lib.hid hb1; clear hb1
  go_wp2_with fail
  go_ret2
  exact ⟨rfl, HB1.out⟩

set_option maxHeartbeats 1000000 in
theorem parts_any (a : Rat) (w : World) (hE : Env w) (ha : Fits a) :
    Calls Tryz.prog 179 #[.string (qt a)] w fun e w' => e = .returned (.tuple #[.string (zt a.num), .string (zt a.den), .int .i64 0]) ∧ Below w.heap.size w w' := by
  have HE := Lib.hid hE; have HA := Lib.hid ha
  clear hE ha
  go_enter Tryz.func179, Tryz.ntmps179
  go_wp2_with fail
  refine (ratCheckQ_any a _ HA.out HE.out).mono ?_
  rintro e w1 ⟨rfl, hb1⟩
  have HB1 := Lib.hid hb1; clear hb1
  have HE1 := Lib.hid (HE.out.below HB1.out)
  go_wp2_with fail
  refine (cutQ_any a _ HA.out HE1.out).mono ?_
  rintro e w2 ⟨rfl, hb2⟩
  have HB2 := Lib.hid (HB1.out.trans (hb2.mono HB1.out.size)); clear hb2
  go_wp2_with fail
  go_ret3
  exact ⟨rfl, HB2.out⟩

theorem Fits.neg {a : Rat} (h : Fits a) : Fits (-a) := ⟨by rw [Rat.neg_num, Int.natAbs_neg]; exact h.1, by rw [Rat.neg_den]; exact h.2⟩

set_option maxHeartbeats 1000000 in
theorem qneg_any (a : Rat) (w : World) (hE : Env w) (ha : Fits a) :
    Calls Tryz.prog 107 #[.string (qt a)] w fun e w' => QOk (-a) e w w' := by
  have HE := Lib.hid hE; have HA := Lib.hid ha
  have C := Lib.hid (fun w => joined_any (-a) w (Fits.neg ha))
  clear hE ha
  go_enter Tryz.func107, Tryz.ntmps107
  go_wp2_with fail
  refine (parts_any a _ HE.out HA.out).mono ?_
  rintro e w1 ⟨rfl, hb1⟩
  have HB1 := Lib.hid hb1; clear hb1
  go_wp2_with fail
  refine (neg_any a.num _ HA.out.1).mono ?_
  rintro e w2 ⟨rfl, hb2⟩
  have HB2 := Lib.hid (HB1.out.trans (hb2.mono HB1.out.size)); clear hb2
  rw [show -a.num = (-a).num from (Rat.neg_num a).symm, show (a.den : Int) = ((-a).den : Int) from by rw [Rat.neg_den]]
  go_wp2_with fail
  refine (C.out _).mono ?_
  rintro e w3 ⟨rfl, rfl⟩
  go_wp2_with fail
  go_ret2
  exact ⟨rfl, HB2.out⟩

set_option maxHeartbeats 1000000 in
theorem qwhole_any (n : Int) (w : World) (h0 : -9223372036854775808 ≤ n) (h1 : n ≤ 9223372036854775807) (hE : Env w) :
    Calls Tryz.prog 98 #[.int .i64 n] w fun e w' => e = .returned (.string (qt (n : Rat))) ∧ Below w.heap.size w w' := by
  have e : qt (n : Rat) = zt n := by unfold qt zt ql; rw [if_pos (Rat.den_intCast ..), Rat.num_intCast]
  rw [e]
  have HE := Lib.hid hE; clear hE e
  go_enter Tryz.func98, Tryz.ntmps98
  go_wp2_with fail
  refine (of_any n _ h0 h1 HE.out).mono ?_
  rintro e w' ⟨rfl, hb⟩
  go_wp2_with fail
  go_ret
  exact ⟨rfl, hb⟩
end Go.Proofs.YtbpegjgpdgeadaaGreatDoor
