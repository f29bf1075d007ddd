/- A part of the proof: TorF. Conditions: none. -/
import Derived.Test.YtbpegjgpdgeadaaGreatDoorTorE
import Derived.ChangeKeysEq
namespace Go.Proofs.YtbpegjgpdgeadaaGreatDoor
open Go Go.RowKit Metro
open Go.Lib (nDigits decDigits)

/-! The examples of the chapter. -/

theorem hundredth : (Rat.divInt 1 100 : Rat).num = 1 ∧ (Rat.divInt 1 100 : Rat).den = 100 := by decide +kernel
theorem half : (Rat.divInt 1 2 : Rat).num = 1 ∧ (Rat.divInt 1 2 : Rat).den = 2 := by decide +kernel

def exT : Nat → Rat | 2 => 1 | 5 => Rat.divInt 1 100 | _ => 0

theorem zt_dec (n : Nat) : zt (n : Int) = ⟨(decDigits n).toArray⟩ := by unfold zt; rw [zl_ofNat]
theorem ql_den {q : Rat} (h : q.den ≠ 1) : ql q = zl q.num ++ 47 :: zl (q.den : Int) := by unfold ql; rw [if_neg h]

theorem dd1 (n : Nat) (h : n < 10) : decDigits n = [UInt8.ofNat (48 + n)] := decDigits_small h
theorem dd_step (n : Nat) (h : ¬ n < 10) : decDigits n = decDigits (n / 10) ++ [UInt8.ofNat (48 + n % 10)] := decDigits_big h

theorem dec100 : decDigits 100 = [49, 48, 48] := by
  rw [dd_step 100 (by decide), dd_step (100 / 10) (by decide), dd1 (100 / 10 / 10) (by decide)]; rfl
theorem dec2 : decDigits 2 = [50] := by rw [dd1 2 (by decide)]; rfl
theorem dec5 : decDigits 5 = [53] := by rw [dd1 5 (by decide)]; rfl
theorem dec98 : decDigits 98 = [57, 56] := by rw [dd_step 98 (by decide), dd1 (98 / 10) (by decide)]; rfl
theorem dec201 : decDigits 201 = [50, 48, 49] := by rw [dd_step 201 (by decide), dd_step (201 / 10) (by decide), dd1 (201 / 10 / 10) (by decide)]; rfl

theorem qtI (n : Nat) : qt ((n : Int) : Rat) = ⟨(decDigits n).toArray⟩ := by rw [qt_int, zt_dec]
theorem qtNeg (n : Nat) (h : 0 < n) : qt ((-(n : Int) : Int) : Rat) = ⟨(45 :: decDigits n).toArray⟩ := by
  rw [qt_int]; unfold zt; rw [zl_neg (by omega)]; simp

theorem tx_100 : qt (100 : Rat) = ⟨#[49, 48, 48]⟩ := by have := qtI 100; rw [dec100] at this; exact this
theorem tx_2 : qt (2 : Rat) = ⟨#[50]⟩ := by have := qtI 2; rw [dec2] at this; exact this
theorem tx_98 : qt (98 : Rat) = ⟨#[57, 56]⟩ := by have := qtI 98; rw [dec98] at this; exact this
theorem tx_201 : qt (201 : Rat) = ⟨#[50, 48, 49]⟩ := by have := qtI 201; rw [dec201] at this; exact this
theorem tx_m5 : qt (-5 : Rat) = ⟨#[45, 53]⟩ := by have := qtNeg 5 (by decide); rw [dec5] at this; exact this
theorem tx_m1 : qt (-1 : Rat) = ⟨#[45, 49]⟩ := by have := qtNeg 1 (by decide); rw [dd1 1 (by decide)] at this; exact this
theorem tx_hund : qt (Rat.divInt 1 100) = ⟨#[49, 47, 49, 48, 48]⟩ := by
  unfold qt
  rw [ql_den (by rw [hundredth.2]; decide), hundredth.1, hundredth.2, zl_one, zl_ofNat 100, dec100]
  rfl
theorem tx_half : qt (Rat.divInt 1 2) = ⟨#[49, 47, 50]⟩ := by
  unfold qt
  rw [ql_den (by rw [half.2]; decide), half.1, half.2, zl_one, zl_ofNat 2, dec2]
  rfl

theorem ex_gone0 : gone exT 100 200 0 0 = 98 := by decide +kernel
theorem ex_gone1 : gone exT 100 200 0 1 = 201 := by decide +kernel
theorem ex_gone2 : gone exT 100 200 0 2 = 1 := by decide +kernel
theorem ex_around : around 2 2 4 0 (Rat.divInt 1 2) 0 = 2 ∧ around 2 2 4 0 (Rat.divInt 1 2) 1 = -1 ∧ around 2 2 4 0 (Rat.divInt 1 2) 2 = 0 ∧ around 2 2 4 0 (Rat.divInt 1 2) 3 = 0 ∧ around 2 2 4 0 (Rat.divInt 1 2) 4 = 0 ∧ around 2 2 4 0 (Rat.divInt 1 2) 5 = Rat.divInt 1 2 := by decide +kernel
theorem dig24_of {q : Rat} (h1 : q.num.natAbs < 10 ^ 24) (h2 : q.den < 10 ^ 24) : Dig 24 q := ⟨(Metro.nDigits_le (by decide)).2 h1, (Metro.nDigits_le (by decide)).2 h2⟩
theorem exT_dig : ∀ i, i < 6 → Dig 24 (exT i) := by
  intro i hi
  match i, hi with
  | 0, _ => exact dig_zero _ (by decide)
  | 1, _ => exact dig_zero _ (by decide)
  | 2, _ => exact dig24_of (by decide +kernel) (by decide +kernel)
  | 3, _ => exact dig_zero _ (by decide)
  | 4, _ => exact dig_zero _ (by decide)
  | 5, _ => exact dig24_of (by decide +kernel) (by decide +kernel)
theorem half_dig : Dig 24 (Rat.divInt 1 2) := dig24_of (by decide +kernel) (by decide +kernel)
end Go.Proofs.YtbpegjgpdgeadaaGreatDoor
namespace Go.Proofs.YtbpegjgpdgeadaaGreatDoor
open Go Go.RowKit Metro
open Go.Lib (nDigits decDigits)

set_option maxHeartbeats 2000000 in
set_option maxRecDepth 100000 in
/-- The examples of the chapter hold. -/
theorem awake40_any (w : World) (hE : Env w) : Calls Tryz.prog 20 #[] w fun e w' => e = .returned (.bool true) ∧ Below w.heap.size w w' := by
  have CA : Hid (∀ w, Env w → Calls Tryz.prog 21 #[.agg #[.string ⟨#[48]⟩, .string ⟨#[48]⟩, .string ⟨#[49]⟩, .string ⟨#[48]⟩, .string ⟨#[48]⟩, .string ⟨#[49, 47, 49, 48, 48]⟩], .agg #[.int .i64 100, .int .i64 200, .int .i64 0]] w
      fun e w' => e = .returned (.tuple #[.agg #[.string ⟨#[57, 56]⟩, .string ⟨#[50, 48, 49]⟩, .string ⟨#[49]⟩], .int .i64 0]) ∧ Below w.heap.size w w') := Lib.hid (fun w hE => by
    have h := applyOk_any exT 100 200 0 w hE exT_dig (by decide)
    rw [ex_gone0, ex_gone1, ex_gone2, tx_98, tx_201, qt_one49] at h
    rw [show exT 0 = 0 from rfl, show exT 1 = 0 from rfl, show exT 2 = 1 from rfl, show exT 3 = 0 from rfl, show exT 4 = 0 from rfl, show exT 5 = Rat.divInt 1 100 from rfl, qt_zero48, qt_one49, tx_hund] at h
    exact h)
  have CF : Hid (∀ w, Env w → Calls Tryz.prog 27 #[.int .i64 1, .agg #[.int .i64 100, .int .i64 200, .int .i64 5]] w fun e w' => ∃ v, e = .returned (.tuple #[v, .int .i64 0]) ∧ OwnT w' w.heap.size v (fun i => qt (frm 100 200 5 1 i : Rat)) 6 ∧ Below w.heap.size w w') := Lib.hid (fun w hE => formOk_any 1 (by decide) 100 200 5 w hE (by decide))
  have CB : Hid (∀ w, Env w → Calls Tryz.prog 29 #[.int .i64 2, .agg #[.int .i64 2, .int .i64 4, .int .i64 0], .string ⟨#[49, 47, 50]⟩] w
      fun e w' => e = .returned (.tuple #[.agg #[.string ⟨#[50]⟩, .string ⟨#[45, 49]⟩, .string ⟨#[48]⟩, .string ⟨#[48]⟩, .string ⟨#[48]⟩, .string ⟨#[49, 47, 50]⟩], .int .i64 0]) ∧ Below w.heap.size w w') := Lib.hid (fun w hE => by
    have h := about2_any 2 4 0 (Rat.divInt 1 2) w hE half_dig (by decide)
    obtain ⟨a0, a1, a2, a3, a4, a5⟩ := ex_around
    rw [a0, a1, a2, a3, a4, a5, tx_2, tx_m1, qt_zero48, tx_half] at h
    exact h)
  have HE := Lib.hid hE
  clear hE
  have q23 : ∀ w, (Op.equalIn 10000 23 (.agg #[.string ⟨#[57, 56]⟩, .string ⟨#[50, 48, 49]⟩, .string ⟨#[49]⟩]) (.agg #[.string ⟨#[57, 56]⟩, .string ⟨#[50, 48, 49]⟩, .string ⟨#[49]⟩])).run Tryz.prog w = .ok true w := fun _ => by kernel_rfl
  have q25 : ∀ w, (Op.equalIn 10000 25 (.agg #[.string ⟨#[50]⟩, .string ⟨#[45, 49]⟩, .string ⟨#[48]⟩, .string ⟨#[48]⟩, .string ⟨#[48]⟩, .string ⟨#[49, 47, 50]⟩]) (.agg #[.string ⟨#[50]⟩, .string ⟨#[45, 49]⟩, .string ⟨#[48]⟩, .string ⟨#[48]⟩, .string ⟨#[48]⟩, .string ⟨#[49, 47, 50]⟩])).run Tryz.prog w = .ok true w := fun _ => by kernel_rfl
  go_enter Tryz.func20, Tryz.ntmps20
  go_wp2_with fail
  refine (CA.out _ ?_).mono ?_
  · exact HE.out.below (below_one _ _)
  rintro e w1 ⟨rfl, hb1⟩
  have HB1 := Lib.hid ((below_one w (.cells #[.string ⟨#[48]⟩, .string ⟨#[48]⟩, .string ⟨#[49]⟩, .string ⟨#[48]⟩, .string ⟨#[48]⟩, .string ⟨#[49, 47, 49, 48, 48]⟩] 25)).trans (hb1.mono (by simp)))
  clear hb1
  go_wp2_with fail
  refine (CF.out _ ?_).mono ?_
  · exact HE.out.below (HB1.out.alloc HB1.out.size _)
  rintro e w2 ⟨v, rfl, hv, hb2⟩
  have HB2 := Lib.hid ((HB1.out.alloc HB1.out.size (.cells #[.string ⟨#[57, 56]⟩, .string ⟨#[50, 48, 49]⟩, .string ⟨#[49]⟩] 23)).trans (hb2.mono (by have := HB1.out.size; simp; omega)))
  have HA2 := Lib.hid ((blk_new w1 #[.string ⟨#[57, 56]⟩, .string ⟨#[50, 48, 49]⟩, .string ⟨#[49]⟩] 23).later hb2)
  have HV2 := Lib.hid hv
  clear hb2 hv
  go_wp2_with fail
  refine (CB.out _ (HE.out.below HB2.out)).mono ?_
  rintro e w3 ⟨rfl, hb3⟩
  have HB3 := Lib.hid (HB2.out.trans (hb3.mono HB2.out.size))
  have HA3 := Lib.hid (HA2.out.later hb3)
  have hv3 := HV2.out.below hb3
  obtain ⟨g, cap, rfl, hBg, hgl, hc1, hc2, htx⟩ := hv3.open (by decide)
  have HTX := Lib.hid htx; have HGL := Lib.hid hgl
  have hl3 := HA3.out.lt
  clear hb3 hv3 hBg hc1 hc2 htx HV2 hgl
  have EQ : Hid (∀ gb w', w3.heap.size ≤ w'.heap.size → Below w3.heap.size w3 w' → Blk w' gb #[.string ⟨#[48]⟩, .string ⟨#[49]⟩, .string ⟨#[48]⟩, .string ⟨#[45, 53]⟩, .string ⟨#[48]⟩, .string ⟨#[49, 48, 48]⟩] 22 → Calls Tryz.prog 31 #[.slice (some ⟨g, 0, none⟩) 6 cap, .slice (some ⟨gb, 0, none⟩) 6 6] w' fun e w'' => e = .returned (.bool true) ∧ Below w'.heap.size w' w'') := Lib.hid (fun gb w' _ hb hblk => by
    refine (equal_any 6 cap 6 g gb (fun i => qt (frm 100 200 5 1 i : Rat)) (fun i => qt (frm 100 200 5 1 i : Rat)) w' (by decide) (HTX.out.below hb HGL.out) (fun i hi => ?_)).mono ?_
    · rw [hblk.cell]
      have z0 := qt_zero48; have z1 := qt_one49; have z5 := tx_m5; have z100 := tx_100
      match i, hi with
      | 0, _ => show some (Value.string ⟨#[48]⟩) = some (.string (qt 0)); rw [z0]
      | 1, _ => show some (Value.string ⟨#[49]⟩) = some (.string (qt 1)); rw [z1]
      | 2, _ => show some (Value.string ⟨#[48]⟩) = some (.string (qt 0)); rw [z0]
      | 3, _ => show some (Value.string ⟨#[45, 53]⟩) = some (.string (qt (-5))); rw [z5]
      | 4, _ => show some (Value.string ⟨#[48]⟩) = some (.string (qt 0)); rw [z0]
      | 5, _ => show some (Value.string ⟨#[49, 48, 48]⟩) = some (.string (qt 100)); rw [z100]
    · rintro e w'' ⟨⟨b, hb1, rfl⟩, hb2⟩
      have : b = true := hb1.2 fun _ _ => rfl
      subst this
      exact ⟨rfl, hb2⟩)
  have p0 := HA3.out.cell 0; have p1 := HA3.out.cell 1; have p2 := HA3.out.cell 2
  go_wp2_with fail
  have hbz := below_two w3 (.cells #[.string ⟨#[50]⟩, .string ⟨#[45, 49]⟩, .string ⟨#[48]⟩, .string ⟨#[48]⟩, .string ⟨#[48]⟩, .string ⟨#[49, 47, 50]⟩] 25) (.cells #[.string ⟨#[48]⟩, .string ⟨#[49]⟩, .string ⟨#[48]⟩, .string ⟨#[45, 53]⟩, .string ⟨#[48]⟩, .string ⟨#[49, 48, 48]⟩] 22)
  have HBz := Lib.hid hbz
  clear hbz
  have hw0 := HB3.out.size
  refine (EQ.out _ _ HBz.out.size HBz.out (blk_new1 w3 (.cells #[.string ⟨#[50]⟩, .string ⟨#[45, 49]⟩, .string ⟨#[48]⟩, .string ⟨#[48]⟩, .string ⟨#[48]⟩, .string ⟨#[49, 47, 50]⟩] 25) _ _)).mono ?_
  rintro e w4 ⟨rfl, hb4⟩
  have HB4 := Lib.hid (HB3.out.trans ((HBz.out.trans (hb4.mono HBz.out.size)).mono hw0))
  have HX := Lib.hid (((blk_new w3 #[.string ⟨#[50]⟩, .string ⟨#[45, 49]⟩, .string ⟨#[48]⟩, .string ⟨#[48]⟩, .string ⟨#[48]⟩, .string ⟨#[49, 47, 50]⟩] 25).alloc (.cells #[.string ⟨#[48]⟩, .string ⟨#[49]⟩, .string ⟨#[48]⟩, .string ⟨#[45, 53]⟩, .string ⟨#[48]⟩, .string ⟨#[49, 48, 48]⟩] 22)).later hb4)
  clear hb4
  have x0 := HX.out.cell 0; have x1 := HX.out.cell 1; have x2 := HX.out.cell 2; have x3 := HX.out.cell 3; have x4 := HX.out.cell 4; have x5 := HX.out.cell 5
  go_wp2_with fail
  go_ret
  exact ⟨rfl, HB4.out⟩
end Go.Proofs.YtbpegjgpdgeadaaGreatDoor
namespace Go.Proofs.YtbpegjgpdgeadaaGreatDoor
open Go Go.RowKit Metro
open Go.Lib (nDigits decDigits)

set_option maxRecDepth 100000 in
theorem eq23_same (a b c : ByteArray) (w : World) : (Op.equalIn 10000 23 (.agg #[.string a, .string b, .string c]) (.agg #[.string a, .string b, .string c])).run Tryz.prog w = .ok true w := by
  obtain ⟨i, hi, _, _, _⟩ := info_parts (show (Tryz.prog.info? 22).map (fun i => (i.zero, i.size, i.bytes)) = _ from info22)
  have hc : Tryz.prog.cellsOf 22 = 1 := by kernel_rfl
  rw [run_equalIn_array w 9999 _ _ Tryz.underlying23 hi, hc]
  have p0 : ∀ w, (Go.part 22 #[.string a, .string b, .string c] 0).run Tryz.prog w = .ok (.string a) w := fun _ => by kernel_rfl
  have p1 : ∀ w, (Go.part 22 #[.string a, .string b, .string c] 1).run Tryz.prog w = .ok (.string b) w := fun _ => by kernel_rfl
  have p2 : ∀ w, (Go.part 22 #[.string a, .string b, .string c] 2).run Tryz.prog w = .ok (.string c) w := fun _ => by kernel_rfl
  have es : ∀ (s : ByteArray) w, (Op.equalIn 9999 22 (.string s) (.string s)).run Tryz.prog w = .ok true w := fun s w => by
    rw [run_equalIn_string (w := w) 9998 22 s s Tryz.underlying22]; simp
  rw [show List.range 3 = [0, 1, 2] from rfl]
  simp [Op.eqItems, Sem.run_bind, p0, p1, p2, es, Result.andThen_ok]

set_option maxHeartbeats 1000000 in
set_option maxRecDepth 100000 in
theorem refZero_any (w : World) :
    Calls Tryz.prog 26 #[] w fun E w' => E = .returned (.agg #[.string ⟨#[48]⟩, .string ⟨#[48]⟩, .string ⟨#[48]⟩, .string ⟨#[48]⟩, .string ⟨#[48]⟩, .string ⟨#[48]⟩]) ∧ Below w.heap.size w w' := by
  have RM : Hid (∀ g w, Blk w g #[.string ⟨#[48]⟩, .string ⟨#[48]⟩, .string ⟨#[48]⟩, .string ⟨#[48]⟩, .string ⟨#[48]⟩, .string ⟨#[48]⟩] 22 → Calls Tryz.prog 102 #[.slice (some ⟨g, 0, none⟩) 6 6] w fun E w' => E = .returned (.agg #[.string ⟨#[48]⟩, .string ⟨#[48]⟩, .string ⟨#[48]⟩, .string ⟨#[48]⟩, .string ⟨#[48]⟩, .string ⟨#[48]⟩]) ∧ Below w.heap.size w w') := Lib.hid (fun g w h => refMade_any (fun _ => ⟨#[48]⟩) g w h.lt (textsAt_six h))
  have HR := Lib.hid (blk_new w #[.string ⟨#[]⟩, .string ⟨#[]⟩, .string ⟨#[]⟩, .string ⟨#[]⟩, .string ⟨#[]⟩, .string ⟨#[]⟩] 25)
  have HB := Lib.hid (below_two w (.cells #[.string ⟨#[]⟩, .string ⟨#[]⟩, .string ⟨#[]⟩, .string ⟨#[]⟩, .string ⟨#[]⟩, .string ⟨#[]⟩] 25) (.cells #[.string ⟨#[48]⟩, .string ⟨#[48]⟩, .string ⟨#[48]⟩, .string ⟨#[48]⟩, .string ⟨#[48]⟩, .string ⟨#[48]⟩] 22))
  go_enter Tryz.func26, Tryz.ntmps26
  go_wp2_with fail
  refine (RM.out _ _ (blk_new1 _ _ _ _)).mono ?_
  rintro e w1 ⟨rfl, hb1⟩
  have HR1 := Lib.hid ((HR.out.alloc (.cells #[.string ⟨#[48]⟩, .string ⟨#[48]⟩, .string ⟨#[48]⟩, .string ⟨#[48]⟩, .string ⟨#[48]⟩, .string ⟨#[48]⟩] 22)).later hb1)
  have HB1 := Lib.hid (HB.out.trans (hb1.mono HB.out.size))
  clear hb1
  have r0 := HR1.out.cell 0; have r1 := HR1.out.cell 1; have r2 := HR1.out.cell 2; have r3 := HR1.out.cell 3; have r4 := HR1.out.cell 4; have r5 := HR1.out.cell 5
  have f0 := HR1.out.free 0; have f1 := HR1.out.free 1; have f2 := HR1.out.free 2; have f3 := HR1.out.free 3; have f4 := HR1.out.free 4; have f5 := HR1.out.free 5
  go_wp2_with fail
  have hr3 := (Blk.set (Blk.set (Blk.set (Blk.set (Blk.set (Blk.set HR1.out 0 (.string ⟨#[48]⟩)) 1 (.string ⟨#[48]⟩)) 2 (.string ⟨#[48]⟩)) 3 (.string ⟨#[48]⟩)) 4 (.string ⟨#[48]⟩)) 5 (.string ⟨#[48]⟩))
  have hb3 := (Below.setCell (p := ⟨w.heap.size, 5, none⟩) (Below.setCell (p := ⟨w.heap.size, 4, none⟩) (Below.setCell (p := ⟨w.heap.size, 3, none⟩) (Below.setCell (p := ⟨w.heap.size, 2, none⟩) (Below.setCell (p := ⟨w.heap.size, 1, none⟩) (Below.setCell (p := ⟨w.heap.size, 0, none⟩) HB1.out (Nat.le_refl _) (.string ⟨#[48]⟩)) (Nat.le_refl _) (.string ⟨#[48]⟩)) (Nat.le_refl _) (.string ⟨#[48]⟩)) (Nat.le_refl _) (.string ⟨#[48]⟩)) (Nat.le_refl _) (.string ⟨#[48]⟩)) (Nat.le_refl _) (.string ⟨#[48]⟩))
  generalize ((((((w1.setCell ⟨w.heap.size, 0, none⟩ (.string ⟨#[48]⟩)).setCell ⟨w.heap.size, 1, none⟩ (.string ⟨#[48]⟩)).setCell ⟨w.heap.size, 2, none⟩ (.string ⟨#[48]⟩)).setCell ⟨w.heap.size, 3, none⟩ (.string ⟨#[48]⟩)).setCell ⟨w.heap.size, 4, none⟩ (.string ⟨#[48]⟩)).setCell ⟨w.heap.size, 5, none⟩ (.string ⟨#[48]⟩)) = W3 at hr3 hb3 ⊢
  have s0 := hr3.cell 0; have s1 := hr3.cell 1; have s2 := hr3.cell 2; have s3 := hr3.cell 3; have s4 := hr3.cell 4; have s5 := hr3.cell 5
  exact bodyPost_ret (by simp [results, Tryz.results26, go_sem, s0, s1, s2, s3, s4, s5]; try rfl) rfl ⟨rfl, hb3⟩
end Go.Proofs.YtbpegjgpdgeadaaGreatDoor
namespace Go.Proofs.YtbpegjgpdgeadaaGreatDoor
open Go Go.RowKit Metro
open Go.Lib (nDigits decDigits)

/-- A short text without error is a number with few digits. -/
theorem short_num {s : ByteArray} (h : chkQ s.data.toList = 0) (hs : s.size ≤ 24) : ∃ q, s = qt q ∧ Dig 24 q := by
  obtain ⟨q, hq, hf⟩ := chkQ_zero h
  have hl : (ql q).length ≤ 24 := by rw [← hq, ← Lib.size_eq]; exact hs
  have h1 := zl_length q.num
  have h2 := zl_length (q.den : Int)
  refine ⟨q, by apply ba_ext; rw [qt_toList]; exact hq, ?_, ?_⟩
  · unfold ql at hl
    split at hl
    · omega
    · rw [List.length_append, List.length_cons] at hl; omega
  · unfold ql at hl
    split at hl
    · rename_i hd
      rw [hd]
      exact Nat.le_trans ((Metro.nDigits_le (k := 1) (by decide)).2 (by decide)) (by decide)
    · rw [List.length_append, List.length_cons] at hl
      rw [Int.natAbs_natCast] at h2
      omega

/-- What Apply gives, the program's and the reference's. -/
def ApplyBoth (t : Nat → ByteArray) (x y z : Int) (a0 a1 a2 : ByteArray) (E : Int) : Prop :=
  (∀ w, Env w → Calls Tryz.prog 21 #[.agg #[.string (t 0), .string (t 1), .string (t 2), .string (t 3), .string (t 4), .string (t 5)], .agg #[.int .i64 x, .int .i64 y, .int .i64 z]] w fun e w' => e = .returned (.tuple #[.agg #[.string a0, .string a1, .string a2], .int .i64 E]) ∧ Below w.heap.size w w') ∧
  (∀ w, Calls Tryz.prog 22 #[.agg #[.string (t 0), .string (t 1), .string (t 2), .string (t 3), .string (t 4), .string (t 5)], .agg #[.int .i64 x, .int .i64 y, .int .i64 z]] w fun e w' => e = .returned (.tuple #[.agg #[.string a0, .string a1, .string a2], .int .i64 E]) ∧ Below w.heap.size w w')

theorem numbers_of {t : Nat → ByteArray} (h0 : fe t 6 = 0) (hs : ∀ i, i < 6 → (t i).size ≤ 24) : ∃ q : Nat → Rat, (∀ i, i < 6 → t i = qt (q i)) ∧ ∀ i, i < 6 → Dig 24 (q i) := by
  have h := fun i (hi : i < 6) => short_num (fe_zero.1 h0 i hi) (hs i hi)
  refine ⟨fun i => if hi : i < 6 then Classical.choose (h i hi) else 0, fun i hi => ?_, fun i hi => ?_⟩
  · simp only [dif_pos hi]; exact (Classical.choose_spec (h i hi)).1
  · simp only [dif_pos hi]; exact (Classical.choose_spec (h i hi)).2

theorem applyBoth (t : Nat → ByteArray) (x y z : Int) (hs : ∀ i, i < 6 → (t i).size ≤ 24) : ∃ a0 a1 a2 E, ApplyBoth t x y z a0 a1 a2 E := by
  by_cases h0 : fe t 6 = 0
  · cases hp : okP x y z with
    | false => exact ⟨_, _, _, _, fun w hE => applyPt_any t x y z w hE (fun i hi => Nat.le_trans (hs i hi) (by decide)) h0 hp, fun w => refApplyPt_any t x y z w (fun i hi => Nat.le_trans (hs i hi) (by decide)) h0 hp⟩
    | true =>
      obtain ⟨q, hq, hd⟩ := numbers_of h0 hs
      refine ⟨qt (gone q x y z 0), qt (gone q x y z 1), qt (gone q x y z 2), 0, ?_⟩
      unfold ApplyBoth
      rw [hq 0 (by decide), hq 1 (by decide), hq 2 (by decide), hq 3 (by decide), hq 4 (by decide), hq 5 (by decide)]
      exact ⟨fun w hE => applyOk_any q x y z w hE hd hp, fun w => refApplyOk_any q x y z w hd hp⟩
  · exact ⟨_, _, _, _, fun w hE => applyErr_any t x y z w hE (fun i hi => Nat.le_trans (hs i hi) (by decide)) h0, fun w => refApplyErr_any t x y z w (fun i hi => Nat.le_trans (hs i hi) (by decide)) h0⟩

set_option maxHeartbeats 2000000 in
set_option maxRecDepth 100000 in
theorem applies_any (t : Nat → ByteArray) (x y z : Int) (w : World) (hE : Env w) :
    Calls Tryz.prog 3 #[.agg #[.string (t 0), .string (t 1), .string (t 2), .string (t 3), .string (t 4), .string (t 5)], .agg #[.int .i64 x, .int .i64 y, .int .i64 z]] w fun e w' => e = .returned (.bool true) ∧ Below w.heap.size w w' := by
  have SH := Lib.hid (refTorShort_any t)
  have AW := Lib.hid awake40_any
  have HE := Lib.hid hE
  clear hE
  have HT0 := Lib.hid ((blk_new w #[.string (t 0), .string (t 1), .string (t 2), .string (t 3), .string (t 4), .string (t 5)] 25).alloc (.cells #[.int .i64 x, .int .i64 y, .int .i64 z] 27))
  have HP0 := Lib.hid (blk_new1 w (.cells #[.string (t 0), .string (t 1), .string (t 2), .string (t 3), .string (t 4), .string (t 5)] 25) #[.int .i64 x, .int .i64 y, .int .i64 z] 27)
  have HB0 := Lib.hid (below_two w (.cells #[.string (t 0), .string (t 1), .string (t 2), .string (t 3), .string (t 4), .string (t 5)] 25) (.cells #[.int .i64 x, .int .i64 y, .int .i64 z] 27))
  go_enter Tryz.func3, Tryz.ntmps3
  go_wp2_with fail
  refine (SH.out _).mono ?_
  rintro e w1 ⟨⟨b, hbb, rfl⟩, hb1⟩
  have HB1 := Lib.hid (HB0.out.trans (hb1.mono HB0.out.size)); have HT1 := Lib.hid (HT0.out.later hb1); have HP1 := Lib.hid (HP0.out.later hb1)
  have HBB := Lib.hid hbb
  clear hb1 hbb
  cases b with
  | false =>
    go_wp2_with fail
    refine (AW.out _ (HE.out.below HB1.out)).mono ?_
    rintro e w2 ⟨rfl, hb2⟩
    have HB2 := Lib.hid (HB1.out.trans (hb2.mono HB1.out.size))
    clear hb2
    go_wp2_with fail
    go_ret
    exact ⟨rfl, HB2.out⟩
  | true =>
    have hs := HBB.out.1 rfl
    obtain ⟨a0, a1, a2, E, hab⟩ := applyBoth t x y z hs
    have CA := Lib.hid hab.1; have CR := Lib.hid hab.2
    have K1 := Lib.hid (fun w hE => torCheck_any t w hE (fun i hi => Nat.le_trans (hs i hi) (by decide)))
    have K2 := Lib.hid (fun w => refTorCheck_any t w (fun i hi => Nat.le_trans (hs i hi) (by decide)))
    have Z1 := Lib.hid zero_any; have Z2 := Lib.hid refZero_any
    have q25 : ∀ w, (Op.equalIn 10000 25 (.agg #[.string ⟨#[48]⟩, .string ⟨#[48]⟩, .string ⟨#[48]⟩, .string ⟨#[48]⟩, .string ⟨#[48]⟩, .string ⟨#[48]⟩]) (.agg #[.string ⟨#[48]⟩, .string ⟨#[48]⟩, .string ⟨#[48]⟩, .string ⟨#[48]⟩, .string ⟨#[48]⟩, .string ⟨#[48]⟩])).run Tryz.prog w = .ok true w := fun _ => by kernel_rfl
    have q23 := eq23_same a0 a1 a2
    obtain ⟨F, hF⟩ : ∃ F : Int, F = (fe t 6 : Nat) := ⟨_, rfl⟩
    rw [← hF] at K1 K2
    clear hab hs hF HBB
    have p0 := HP1.out.cell 0; have p1 := HP1.out.cell 1; have p2 := HP1.out.cell 2
    have t0 := HT1.out.cell 0; have t1 := HT1.out.cell 1; have t2 := HT1.out.cell 2; have t3 := HT1.out.cell 3; have t4 := HT1.out.cell 4; have t5 := HT1.out.cell 5
    go_wp2_with fail
    refine (CA.out _ (HE.out.below HB1.out)).mono ?_
    rintro e w2 ⟨rfl, hb⟩
    have HB2 := Lib.hid ((HB1.out.trans (hb.mono HB1.out.size)).alloc (Nat.le_trans HB1.out.size hb.size) (.cells #[.string a0, .string a1, .string a2] 23)); have HT2 := Lib.hid ((HT1.out.later hb).alloc (.cells #[.string a0, .string a1, .string a2] 23)); have HP2 := Lib.hid ((HP1.out.later hb).alloc (.cells #[.string a0, .string a1, .string a2] 23)); have HA2 := Lib.hid (blk_new w2 #[.string a0, .string a1, .string a2] 23)
    have hlt := Lib.hid (HT1.out.later hb).lt; have hlp := Lib.hid (HP1.out.later hb).lt
    have X0 := Lib.hid (HT1.out.later hb); have X1 := Lib.hid (HP1.out.later hb)
    clear hb p0 p1 p2 t0 t1 t2 t3 t4 t5
    have p0 := X1.out.cell 0; have p1 := X1.out.cell 1; have p2 := X1.out.cell 2
    have t0 := X0.out.cell 0; have t1 := X0.out.cell 1; have t2 := X0.out.cell 2; have t3 := X0.out.cell 3; have t4 := X0.out.cell 4; have t5 := X0.out.cell 5
    have l0 := hlt.out; have l1 := hlp.out
    go_wp2_with fail
    refine (CR.out _).mono ?_
    rintro e w3 ⟨rfl, hb⟩
    have HB3 := Lib.hid ((HB2.out.trans (hb.mono HB2.out.size)).alloc (Nat.le_trans HB2.out.size hb.size) (.cells #[.string a0, .string a1, .string a2] 23)); have HT3 := Lib.hid ((HT2.out.later hb).alloc (.cells #[.string a0, .string a1, .string a2] 23)); have HA3 := Lib.hid ((HA2.out.later hb).alloc (.cells #[.string a0, .string a1, .string a2] 23)); have HC3 := Lib.hid (blk_new w3 #[.string a0, .string a1, .string a2] 23)
    clear hb p0 p1 p2 t0 t1 t2 t3 t4 t5 l0 l1
    obtain ⟨b5, hb5⟩ : ∃ b, b = w2.heap.size := ⟨_, rfl⟩
    obtain ⟨b7, hb7⟩ : ∃ b, b = w3.heap.size := ⟨_, rfl⟩
    rw [← hb5] at HA3
    rw [← hb7] at HC3
    have HX5 := Lib.hid hb5; have HX7 := Lib.hid hb7
    clear hb5 hb7
    go_wp2_with fail
    rw [← HX5.out, ← HX7.out]
    clear HX5 HX7
    generalize (w3.alloc (.cells #[.string a0, .string a1, .string a2] 23)) = W3 at HB3 HT3 HA3 HC3 ⊢
    have x3t0 := HT3.out.cell 0; have x3t1 := HT3.out.cell 1; have x3t2 := HT3.out.cell 2; have x3t3 := HT3.out.cell 3; have x3t4 := HT3.out.cell 4; have x3t5 := HT3.out.cell 5; have x3a0 := HA3.out.cell 0; have x3a1 := HA3.out.cell 1; have x3a2 := HA3.out.cell 2; have x3c0 := HC3.out.cell 0; have x3c1 := HC3.out.cell 1; have x3c2 := HC3.out.cell 2
    go_region_held3 (fun w' => w'.cell? ⟨w.heap.size, 0, none⟩ = some (.string (t 0)) ∧ w'.cell? ⟨w.heap.size, 1, none⟩ = some (.string (t 1)) ∧ w'.cell? ⟨w.heap.size, 2, none⟩ = some (.string (t 2)) ∧ w'.cell? ⟨w.heap.size, 3, none⟩ = some (.string (t 3)) ∧ w'.cell? ⟨w.heap.size, 4, none⟩ = some (.string (t 4)) ∧ w'.cell? ⟨w.heap.size, 5, none⟩ = some (.string (t 5)) ∧ w'.cell? ⟨b5, 0, none⟩ = some (.string a0) ∧ w'.cell? ⟨b5, 1, none⟩ = some (.string a1) ∧ w'.cell? ⟨b5, 2, none⟩ = some (.string a2) ∧ w'.cell? ⟨b7, 0, none⟩ = some (.string a0) ∧ w'.cell? ⟨b7, 1, none⟩ = some (.string a1) ∧ w'.cell? ⟨b7, 2, none⟩ = some (.string a2))
      (first | go_keep | exact ⟨x3t0, x3t1, x3t2, x3t3, x3t4, x3t5, x3a0, x3a1, x3a2, x3c0, x3c1, x3c2⟩ | exact ⟨at0, at1, at2, at3, at4, at5, aa0, aa1, aa2, ac0, ac1, ac2⟩ | exact ⟨bt0, bt1, bt2, bt3, bt4, bt5, ba0, ba1, ba2, bc0, bc1, bc2⟩ | exact ⟨ct0, ct1, ct2, ct3, ct4, ct5, ca0, ca1, ca2, cc0, cc1, cc2⟩ | exact ⟨dt0, dt1, dt2, dt3, dt4, dt5, da0, da1, da2, dc0, dc1, dc2⟩ | exact ⟨et0, et1, et2, et3, et4, et5, ea0, ea1, ea2, ec0, ec1, ec2⟩)
      (first
        | (go_at_call 23; refine (K1.out _ (HE.out.below HB3.out).drew).mono ?_; rintro e wa ⟨rfl, hba⟩; have HBa := Lib.hid (HB3.out.drew.trans (hba.mono HB3.out.drew.size)); have HTa := Lib.hid (Blk.later (HT3.out.drew) hba); have HAa := Lib.hid (Blk.later (HA3.out.drew) hba); have HCa := Lib.hid (Blk.later (HC3.out.drew) hba); have at0 := HTa.out.cell 0; have at1 := HTa.out.cell 1; have at2 := HTa.out.cell 2; have at3 := HTa.out.cell 3; have at4 := HTa.out.cell 4; have at5 := HTa.out.cell 5; have aa0 := HAa.out.cell 0; have aa1 := HAa.out.cell 1; have aa2 := HAa.out.cell 2; have ac0 := HCa.out.cell 0; have ac1 := HCa.out.cell 1; have ac2 := HCa.out.cell 2; clear hba)
        | (go_at_call 24; refine (K2.out _).mono ?_; rintro e wb ⟨rfl, hbb⟩; have HBb := Lib.hid (HBa.out.trans (hbb.mono HBa.out.size)); have HTb := Lib.hid (Blk.later (HTa.out) hbb); have HAb := Lib.hid (Blk.later (HAa.out) hbb); have HCb := Lib.hid (Blk.later (HCa.out) hbb); have bt0 := HTb.out.cell 0; have bt1 := HTb.out.cell 1; have bt2 := HTb.out.cell 2; have bt3 := HTb.out.cell 3; have bt4 := HTb.out.cell 4; have bt5 := HTb.out.cell 5; have ba0 := HAb.out.cell 0; have ba1 := HAb.out.cell 1; have ba2 := HAb.out.cell 2; have bc0 := HCb.out.cell 0; have bc1 := HCb.out.cell 1; have bc2 := HCb.out.cell 2; clear hbb)
        | (go_at_call 25; refine (Z1.out _).mono ?_; rintro e wc ⟨rfl, hbc⟩; have HBc := Lib.hid (HBb.out.trans (hbc.mono HBb.out.size)); have HTc := Lib.hid (Blk.later (HTb.out) hbc); have HAc := Lib.hid (Blk.later (HAb.out) hbc); have HCc := Lib.hid (Blk.later (HCb.out) hbc); have ct0 := HTc.out.cell 0; have ct1 := HTc.out.cell 1; have ct2 := HTc.out.cell 2; have ct3 := HTc.out.cell 3; have ct4 := HTc.out.cell 4; have ct5 := HTc.out.cell 5; have ca0 := HAc.out.cell 0; have ca1 := HAc.out.cell 1; have ca2 := HAc.out.cell 2; have cc0 := HCc.out.cell 0; have cc1 := HCc.out.cell 1; have cc2 := HCc.out.cell 2; clear hbc)
        | (go_at_call 26; refine (Z2.out _).mono ?_; rintro e wd ⟨rfl, hbd⟩; have HBd := Lib.hid (HBc.out.trans (hbd.mono HBc.out.size)); have HTd := Lib.hid (Blk.later (HTc.out) hbd); have HAd := Lib.hid (Blk.later (HAc.out) hbd); have HCd := Lib.hid (Blk.later (HCc.out) hbd); have dt0 := HTd.out.cell 0; have dt1 := HTd.out.cell 1; have dt2 := HTd.out.cell 2; have dt3 := HTd.out.cell 3; have dt4 := HTd.out.cell 4; have dt5 := HTd.out.cell 5; have da0 := HAd.out.cell 0; have da1 := HAd.out.cell 1; have da2 := HAd.out.cell 2; have dc0 := HCd.out.cell 0; have dc1 := HCd.out.cell 1; have dc2 := HCd.out.cell 2; clear hbd)
        | (go_at_call 20; refine (AW.out _ (HE.out.below HBd.out)).mono ?_; rintro e we ⟨rfl, hbe⟩; have HBe := Lib.hid (HBd.out.trans (hbe.mono HBd.out.size)); have HTe := Lib.hid (Blk.later (HTd.out) hbe); have HAe := Lib.hid (Blk.later (HAd.out) hbe); have HCe := Lib.hid (Blk.later (HCd.out) hbe); have et0 := HTe.out.cell 0; have et1 := HTe.out.cell 1; have et2 := HTe.out.cell 2; have et3 := HTe.out.cell 3; have et4 := HTe.out.cell 4; have et5 := HTe.out.cell 5; have ea0 := HAe.out.cell 0; have ea1 := HAe.out.cell 1; have ea2 := HAe.out.cell 2; have ec0 := HCe.out.cell 0; have ec1 := HCe.out.cell 1; have ec2 := HCe.out.cell 2; clear hbe))
    all_goals
      go_wp2_with fail
      go_ret
      exact ⟨rfl, HBe.out⟩
end Go.Proofs.YtbpegjgpdgeadaaGreatDoor
