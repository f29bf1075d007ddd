/- A part of the proof: TorI. Conditions: none. -/
import Derived.Test.YtbpegjgpdgeadaaGreatDoorTorH
namespace Go.Proofs.YtbpegjgpdgeadaaGreatDoor
open Go Go.RowKit Metro
open Go.Lib (nDigits decDigits)

/-- The turn about an axis through a right point, its turning part apart. -/
theorem aboutOk_any (k : Nat) (hk : k < 3) (x y z : Int) (q : Rat) (w : World) (hE : Env w) (hq : Dig 24 q) (hp : okP x y z = true) :
    Calls Tryz.prog 29 #[.int .i64 (k : Nat), .agg #[.int .i64 x, .int .i64 y, .int .i64 z], .string (qt q)] w fun e w' => e = .returned (.tuple #[.agg #[.string (qt (around k x y z q 0)), .string (qt (around k x y z q 1)), .string (qt (around k x y z q 2)), .string (qt (tqf k q 3)), .string (qt (tqf k q 4)), .string (qt (tqf k q 5))], .int .i64 0]) ∧ Below w.heap.size w w' := by
  have : k = 0 ∨ k = 1 ∨ k = 2 := by omega
  rcases this with rfl | rfl | rfl
  · exact about0_any x y z q w hE hq hp
  · exact about1_any x y z q w hE hq hp
  · exact about2_any x y z q w hE hq hp
theorem turn_dot (c : Nat → Int) (k : Nat) (hk : k < 3) (q : Rat) : dot6 c (tqf k q) = (c (3 + k) : Rat) * q := by
  have : k = 0 ∨ k = 1 ∨ k = 2 := by omega
  rcases this with rfl | rfl | rfl <;> rw [dot6_eq] <;> simp [tqf] <;> grind
theorem around_dig {k : Nat} (hk : k < 3) {x y z : Int} {q : Rat} (hq : Dig 24 q) (hp : okP x y z = true) (i : Nat) (hi : i < 6) : Dig 31 (around k x y z q i) := by
  by_cases h : i < 3
  · rw [around_low k x y z q h, turn_dot _ k hk]
    exact (((dig_int (k := 6) _ (by decide) (frm_small hp i (3 + k))).mul hq).neg).mono (by decide)
  · have e : around k x y z q i = tqf k q i := by
      have : i = 3 ∨ i = 4 ∨ i = 5 := by omega
      rcases this with rfl | rfl | rfl
      · exact (around_high k x y z q).1
      · exact (around_high k x y z q).2.1
      · exact (around_high k x y z q).2.2
    rw [e]
    exact (tqf_dig hq i).mono (by decide)

set_option maxHeartbeats 2000000 in
set_option maxRecDepth 100000 in
theorem turnsNot_any (a : Int) (x y z x2 y2 z2 : Int) (s : ByteArray) (w : World) (hE : Env w) (ha : 0 ≤ a ∧ a ≤ 255) (hn : ¬ (okP x y z = true ∧ okP x2 y2 z2 = true ∧ s.size ≤ 24 ∧ chkQ s.data.toList = 0)) :
    Calls Tryz.prog 5 #[.int .u8 a, .agg #[.int .i64 x, .int .i64 y, .int .i64 z, .int .i64 x2, .int .i64 y2, .int .i64 z2], .string s] w fun e w' => e = .returned (.bool true) ∧ Below w.heap.size w w' := by
  have AW := Lib.hid awake40_any
  have HE := Lib.hid hE
  have SP := Lib.hid (rightSpot_any x y z); have SQ := Lib.hid (rightSpot_any x2 y2 z2)
  have CK : Hid (∀ w, s.size ≤ 24 → Calls Tryz.prog 33 #[.string s] w fun e w' => e = .returned (.int .i64 (chkQ s.data.toList : Int)) ∧ Below w.heap.size w w') := Lib.hid (fun w hs => refQCheck_any s w (Nat.le_trans hs (by decide)))
  obtain ⟨bp, hbp⟩ : ∃ b, b = okP x y z := ⟨_, rfl⟩
  obtain ⟨bq, hbq⟩ : ∃ b, b = okP x2 y2 z2 := ⟨_, rfl⟩
  obtain ⟨c, hc⟩ : ∃ c, c = chkQ s.data.toList := ⟨_, rfl⟩
  rw [← hbp] at SP
  rw [← hbq] at SQ
  rw [← hc] at CK
  have HBP := Lib.hid hbp; have HBQ := Lib.hid hbq; have HC := Lib.hid hc; have HN := Lib.hid hn
  clear hE hbp hbq hc hn
  have HX0 := Lib.hid (blk_new w #[.int .i64 x, .int .i64 y, .int .i64 z, .int .i64 x2, .int .i64 y2, .int .i64 z2] 50)
  have HB0 := Lib.hid (below_one w (.cells #[.int .i64 x, .int .i64 y, .int .i64 z, .int .i64 x2, .int .i64 y2, .int .i64 z2] 50))
  go_enter Tryz.func5, Tryz.ntmps5
  go_wp2_with fail
  generalize (w.alloc (.cells #[.int .i64 x, .int .i64 y, .int .i64 z, .int .i64 x2, .int .i64 y2, .int .i64 z2] 50)) = W0 at HX0 HB0 ⊢
  have c0 := HX0.out.cell 0; have c1 := HX0.out.cell 1; have c2 := HX0.out.cell 2; have c3 := HX0.out.cell 3; have c4 := HX0.out.cell 4; have c5 := HX0.out.cell 5
  have l0 := HX0.out.lt
  go_region
  all_goals go_wp2_with fail
  · have hp := ((blk_new W0 #[.int .i64 x, .int .i64 y, .int .i64 z] 27).alloc (.cells #[.int .i64 x2, .int .i64 y2, .int .i64 z2] 27)).drew
    have hq := (blk_new1 W0 (.cells #[.int .i64 x, .int .i64 y, .int .i64 z] 27) #[.int .i64 x2, .int .i64 y2, .int .i64 z2] 27).drew
    have hb := (HB0.out.trans ((below_two W0 (.cells #[.int .i64 x, .int .i64 y, .int .i64 z] 27) (.cells #[.int .i64 x2, .int .i64 y2, .int .i64 z2] 27)).mono HB0.out.size)).drew
    obtain ⟨QB, hQB⟩ : ∃ b, b = W0.heap.size + 1 := ⟨_, rfl⟩
    obtain ⟨PB, hPB⟩ : ∃ b, b = W0.heap.size := ⟨_, rfl⟩
    rw [← hQB] at hq ⊢
    rw [← hPB] at hp ⊢
    have hpq : PB ≠ QB := by omega
    generalize ((W0.alloc (.cells #[.int .i64 x, .int .i64 y, .int .i64 z] 27)).alloc (.cells #[.int .i64 x2, .int .i64 y2, .int .i64 z2] 27)).drew = W1 at hp hq hb ⊢
    have HP1 := Lib.hid hp; have HQ1 := Lib.hid hq; have HB1 := Lib.hid hb; have HPQ := Lib.hid hpq
    clear hp hq hb hpq hPB hQB c0 c1 c2 c3 c4 c5 l0 HX0 HB0
    refine (SP.out _).mono ?_
    rintro e w2 ⟨rfl, hb⟩
    have HB2 := Lib.hid (HB1.out.trans (hb.mono HB1.out.size)); have HP2 := Lib.hid (HP1.out.later hb); have HQ2 := Lib.hid (HQ1.out.later hb); clear hb
    cases bp with
    | false =>
      go_wp2_with fail
      refine (AW.out _ (HE.out.below HB2.out)).mono ?_
      rintro e w9 ⟨rfl, hb⟩
      have HB9 := Lib.hid (HB2.out.trans (hb.mono HB2.out.size))
      clear hb
      go_wp2_with fail
      go_ret
      exact ⟨rfl, HB9.out⟩
    | true =>
      have q0 := HQ2.out.cell 0; have q1 := HQ2.out.cell 1; have q2 := HQ2.out.cell 2
      go_wp2_with fail
      refine (SQ.out _).mono ?_
      rintro e w3 ⟨rfl, hb⟩
      have HB3 := Lib.hid (HB2.out.trans (hb.mono HB2.out.size)); have HP3 := Lib.hid (HP2.out.later hb); have HQ3 := Lib.hid (HQ2.out.later hb); clear hb
      clear q0 q1 q2
      cases bq with
      | false =>
        go_wp2_with fail
        refine (AW.out _ (HE.out.below HB3.out)).mono ?_
        rintro e w9 ⟨rfl, hb⟩
        have HB9 := Lib.hid (HB3.out.trans (hb.mono HB3.out.size))
        clear hb
        go_wp2_with fail
        go_ret
        exact ⟨rfl, HB9.out⟩
      | true =>
        by_cases hs : 24 < (s.size : Int)
        · go_wp2_with fail
          refine (AW.out _ (HE.out.below HB3.out)).mono ?_
          rintro e w9 ⟨rfl, hb⟩
          have HB9 := Lib.hid (HB3.out.trans (hb.mono HB3.out.size))
          clear hb
          go_wp2_with fail
          go_ret
          exact ⟨rfl, HB9.out⟩
        · have hne : ((c : Int) == 0) = false := by
            rw [beq_eq_false_iff_ne]
            intro h0
            exact HN.out ⟨HBP.out.symm, HBQ.out.symm, by omega, by rw [← HC.out]; omega⟩
          have hne2 : ((c : Int) != 0) = true := by rw [bne, hne]; rfl
          go_wp2_with fail
          refine (CK.out _ (by omega)).mono ?_
          rintro e w4 ⟨rfl, hb⟩
          have HB4 := Lib.hid (HB3.out.trans (hb.mono HB3.out.size)); have HP4 := Lib.hid (HP3.out.later hb); have HQ4 := Lib.hid (HQ3.out.later hb); clear hb
          go_wp2_with fail
          refine (AW.out _ (HE.out.below HB4.out)).mono ?_
          rintro e w9 ⟨rfl, hb⟩
          have HB9 := Lib.hid (HB4.out.trans (hb.mono HB4.out.size))
          clear hb
          go_wp2_with fail
          go_ret
          exact ⟨rfl, HB9.out⟩
  · have hp := (blk_new1 W0 (.cells #[.int .i64 x2, .int .i64 y2, .int .i64 z2] 27) #[.int .i64 x, .int .i64 y, .int .i64 z] 27).drew
    have hq := ((blk_new W0 #[.int .i64 x2, .int .i64 y2, .int .i64 z2] 27).alloc (.cells #[.int .i64 x, .int .i64 y, .int .i64 z] 27)).drew
    have hb := (HB0.out.trans ((below_two W0 (.cells #[.int .i64 x2, .int .i64 y2, .int .i64 z2] 27) (.cells #[.int .i64 x, .int .i64 y, .int .i64 z] 27)).mono HB0.out.size)).drew
    obtain ⟨PB, hPB⟩ : ∃ b, b = W0.heap.size + 1 := ⟨_, rfl⟩
    obtain ⟨QB, hQB⟩ : ∃ b, b = W0.heap.size := ⟨_, rfl⟩
    rw [← hPB] at hp ⊢
    rw [← hQB] at hq ⊢
    have hpq : PB ≠ QB := by omega
    generalize ((W0.alloc (.cells #[.int .i64 x2, .int .i64 y2, .int .i64 z2] 27)).alloc (.cells #[.int .i64 x, .int .i64 y, .int .i64 z] 27)).drew = W1 at hp hq hb ⊢
    have HP1 := Lib.hid hp; have HQ1 := Lib.hid hq; have HB1 := Lib.hid hb; have HPQ := Lib.hid hpq
    clear hp hq hb hpq hPB hQB c0 c1 c2 c3 c4 c5 l0 HX0 HB0
    refine (SP.out _).mono ?_
    rintro e w2 ⟨rfl, hb⟩
    have HB2 := Lib.hid (HB1.out.trans (hb.mono HB1.out.size)); have HP2 := Lib.hid (HP1.out.later hb); have HQ2 := Lib.hid (HQ1.out.later hb); clear hb
    cases bp with
    | false =>
      go_wp2_with fail
      refine (AW.out _ (HE.out.below HB2.out)).mono ?_
      rintro e w9 ⟨rfl, hb⟩
      have HB9 := Lib.hid (HB2.out.trans (hb.mono HB2.out.size))
      clear hb
      go_wp2_with fail
      go_ret
      exact ⟨rfl, HB9.out⟩
    | true =>
      have q0 := HQ2.out.cell 0; have q1 := HQ2.out.cell 1; have q2 := HQ2.out.cell 2
      go_wp2_with fail
      refine (SQ.out _).mono ?_
      rintro e w3 ⟨rfl, hb⟩
      have HB3 := Lib.hid (HB2.out.trans (hb.mono HB2.out.size)); have HP3 := Lib.hid (HP2.out.later hb); have HQ3 := Lib.hid (HQ2.out.later hb); clear hb
      clear q0 q1 q2
      cases bq with
      | false =>
        go_wp2_with fail
        refine (AW.out _ (HE.out.below HB3.out)).mono ?_
        rintro e w9 ⟨rfl, hb⟩
        have HB9 := Lib.hid (HB3.out.trans (hb.mono HB3.out.size))
        clear hb
        go_wp2_with fail
        go_ret
        exact ⟨rfl, HB9.out⟩
      | true =>
        by_cases hs : 24 < (s.size : Int)
        · go_wp2_with fail
          refine (AW.out _ (HE.out.below HB3.out)).mono ?_
          rintro e w9 ⟨rfl, hb⟩
          have HB9 := Lib.hid (HB3.out.trans (hb.mono HB3.out.size))
          clear hb
          go_wp2_with fail
          go_ret
          exact ⟨rfl, HB9.out⟩
        · have hne : ((c : Int) == 0) = false := by
            rw [beq_eq_false_iff_ne]
            intro h0
            exact HN.out ⟨HBP.out.symm, HBQ.out.symm, by omega, by rw [← HC.out]; omega⟩
          have hne2 : ((c : Int) != 0) = true := by rw [bne, hne]; rfl
          go_wp2_with fail
          refine (CK.out _ (by omega)).mono ?_
          rintro e w4 ⟨rfl, hb⟩
          have HB4 := Lib.hid (HB3.out.trans (hb.mono HB3.out.size)); have HP4 := Lib.hid (HP3.out.later hb); have HQ4 := Lib.hid (HQ3.out.later hb); clear hb
          go_wp2_with fail
          refine (AW.out _ (HE.out.below HB4.out)).mono ?_
          rintro e w9 ⟨rfl, hb⟩
          have HB9 := Lib.hid (HB4.out.trans (hb.mono HB4.out.size))
          clear hb
          go_wp2_with fail
          go_ret
          exact ⟨rfl, HB9.out⟩
end Go.Proofs.YtbpegjgpdgeadaaGreatDoor
