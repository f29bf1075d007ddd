/- A part of the proof: TorN. Conditions: none. -/
import Derived.Test.YtbpegjgpdgeadaaGreatDoorTorG
namespace Go.Proofs.YtbpegjgpdgeadaaGreatDoor
open Go Go.RowKit Metro
open Go.Lib (nDigits decDigits)

set_option maxHeartbeats 600000 in
theorem place1_any (s : ByteArray) (w : World) (h : s.size ≤ 600) : Calls Tryz.prog 116 #[.string s] w fun e w' => e = .returned (.bool false) ∧ w' = w := by
  have h6 : ¬ 600 < (s.size : Int) := by omega
  go_enter Tryz.func116, Tryz.ntmps116
  go_wp2
  go_ret
  exact ⟨rfl, rfl⟩

set_option maxHeartbeats 1000000 in
set_option maxRecDepth 100000 in
theorem indexShort_any (n g cap : Nat) (ss : Nat → ByteArray) (w : World) (hn : n ≤ 100000) (ht : TextsAt w g ss n) (hs : ∀ i, i < n → (ss i).size ≤ 600) :
    Calls Tryz.prog 161 #[.slice (some ⟨g, 0, none⟩) n cap, .func (.func 116) #[] #[]] w fun e w' => e = .returned (.int .i64 (-1)) ∧ w' = w := by
  have HT := Lib.hid ht; have HS := Lib.hid hs
  clear ht hs
  go_enter Tryz.func161, Tryz.ntmps161
  go_wp2_with fail

  go_loopg [8] n (fun d i wr => ∃ k : Nat, i = .int .i64 k ∧ k ≤ n ∧ d = n - k ∧ wr = w)
  case atStart => exact ⟨0, rfl, Nat.zero_le _, rfl, rfl⟩
  case round =>
    obtain ⟨k, rfl, hk, rfl, rfl⟩ := hrel
    by_cases hlt : k < n
    · have c0 := HT.out k hlt
      have C := Lib.hid (place1_any (ss k) wr (HS.out k hlt))
      go_wp2_with fail
      refine C.out.mono ?_
      rintro e w1 ⟨rfl, rfl⟩
      go_wp2_with fail
      go_roundg (n - (k + 1))
      case measure => omega
      case rel => exact ⟨k + 1, by go_num, by omega, rfl, rfl⟩
    · go_wp2_with fail
      go_ret
      exact ⟨rfl, rfl⟩

set_option maxHeartbeats 1000000 in
set_option maxRecDepth 100000 in
theorem containsShort_any (n g cap : Nat) (ss : Nat → ByteArray) (w : World) (hn : n ≤ 100000) (ht : TextsAt w g ss n) (hs : ∀ i, i < n → (ss i).size ≤ 600) :
    Calls Tryz.prog 78 #[.slice (some ⟨g, 0, none⟩) n cap, .func (.func 116) #[] #[]] w fun e w' => e = .returned (.bool false) ∧ w' = w := by
  have C := Lib.hid (indexShort_any n g cap ss w hn ht hs)
  clear ht hs
  go_enter Tryz.func78, Tryz.ntmps78
  go_wp2_with fail
  refine C.out.mono ?_
  rintro e w1 ⟨rfl, rfl⟩
  go_wp2_with fail
  go_ret
  exact ⟨rfl, rfl⟩

theorem textsAt_three {w : World} {g T : Nat} {t : Nat → ByteArray} (h : Blk w g #[.string (t 0), .string (t 1), .string (t 2)] T) : TextsAt w g t 3 := by
  intro i hi
  rw [h.cell]
  match i, hi with
  | 0, _ => rfl
  | 1, _ => rfl
  | 2, _ => rfl

set_option maxHeartbeats 1000000 in
set_option maxRecDepth 100000 in
/-- Short numbers are a place. -/
theorem place_any (t : Nat → ByteArray) (w : World) (h0 : fe t 3 = 0) (hs : ∀ i, i < 3 → (t i).size ≤ 600) :
    Calls Tryz.prog 36 #[.agg #[.string (t 0), .string (t 1), .string (t 2)]] w fun e w' => e = .returned (.bool true) ∧ Below w.heap.size w w' := by
  have CN : Hid (∀ g W, Blk W g #[.string (t 0), .string (t 1), .string (t 2)] 23 → Calls Tryz.prog 73 #[.slice (some ⟨g, 0, none⟩) 3 3] W fun e w' => e = .returned (.int .i64 0) ∧ Below W.heap.size W w') := Lib.hid (fun g W h => by
    have := refNumbers_any g 3 t W (by decide) (textsAt_three h) (fun i hi => Nat.le_trans (hs i hi) (by decide))
    rw [h0] at this
    exact this)
  have CC : Hid (∀ g W, Blk W g #[.string (t 0), .string (t 1), .string (t 2)] 23 → Calls Tryz.prog 78 #[.slice (some ⟨g, 0, none⟩) 3 3, .func (.func 116) #[] #[]] W fun e w' => e = .returned (.bool false) ∧ w' = W) := Lib.hid (fun g W h => containsShort_any 3 g 3 t W (by decide) (textsAt_three h) hs)
  have HT := Lib.hid (blk_new w #[.string (t 0), .string (t 1), .string (t 2)] 23)
  have HB := Lib.hid (below_one w (.cells #[.string (t 0), .string (t 1), .string (t 2)] 23))
  clear h0 hs
  go_enter Tryz.func36, Tryz.ntmps36
  go_wp2_with fail
  refine (CN.out _ _ HT.out).mono ?_
  rintro e w1 ⟨rfl, hb⟩
  have HB1 := Lib.hid (HB.out.trans (hb.mono HB.out.size)); have HT1 := Lib.hid (HT.out.later hb)
  clear hb
  go_wp2_with fail
  refine (CC.out _ _ HT1.out).mono ?_
  rintro e w2 ⟨rfl, rfl⟩
  go_wp2_with fail
  go_ret
  exact ⟨rfl, HB1.out⟩

/-- Whether a torsor is right. -/
def RightR (t : Nat → ByteArray) (e : Ending) : Prop := ∃ b : Bool, (b = true ↔ (∀ i, i < 6 → (t i).size ≤ 24) ∧ fe t 6 = 0) ∧ e = .returned (.bool b)

set_option maxHeartbeats 1000000 in
set_option maxRecDepth 100000 in
theorem right_any (t : Nat → ByteArray) (w : World) :
    Calls Tryz.prog 35 #[.agg #[.string (t 0), .string (t 1), .string (t 2), .string (t 3), .string (t 4), .string (t 5)]] w fun e w' => RightR t e ∧ Below w.heap.size w w' := by
  have SH := Lib.hid (refTorShort_any t)
  have CK : Hid ((∀ i, i < 6 → (t i).size ≤ 24) → ∀ w, Calls Tryz.prog 24 #[.agg #[.string (t 0), .string (t 1), .string (t 2), .string (t 3), .string (t 4), .string (t 5)]] w fun e w' => e = .returned (.int .i64 (fe t 6 : Nat)) ∧ Below w.heap.size w w') := Lib.hid (fun hs w => refTorCheck_any t w (fun i hi => Nat.le_trans (hs i hi) (by decide)))
  obtain ⟨F, hF⟩ : ∃ F, F = fe t 6 := ⟨_, rfl⟩
  rw [← hF] at CK
  have HT := Lib.hid (blk_new w #[.string (t 0), .string (t 1), .string (t 2), .string (t 3), .string (t 4), .string (t 5)] 25)
  have HB := Lib.hid (below_one w (.cells #[.string (t 0), .string (t 1), .string (t 2), .string (t 3), .string (t 4), .string (t 5)] 25))
  have HF := Lib.hid hF
  clear hF
  go_enter Tryz.func35, Tryz.ntmps35
  go_wp2_with fail
  refine (SH.out _).mono ?_
  rintro e w1 ⟨⟨b, hbb, rfl⟩, hb⟩
  have HB1 := Lib.hid (HB.out.trans (hb.mono HB.out.size)); have HT1 := Lib.hid (HT.out.later hb)
  have HBB := Lib.hid hbb
  clear hb hbb
  cases b with
  | false =>
    go_wp2_with fail
    go_ret
    exact ⟨⟨false, ⟨fun h => (Bool.false_ne_true h).elim, fun h => by have := HBB.out.2 h.1; exact this⟩, rfl⟩, HB1.out⟩
  | true =>
    have hs := HBB.out.1 rfl
    have CK2 := Lib.hid (CK.out hs)
    have HS := Lib.hid hs
    clear hs
    have t0 := HT1.out.cell 0; have t1 := HT1.out.cell 1; have t2 := HT1.out.cell 2; have t3 := HT1.out.cell 3; have t4 := HT1.out.cell 4; have t5 := HT1.out.cell 5
    by_cases h0 : F = 0
    · have HR : Hid (fe t 6 = 0) := Lib.hid (by rw [← HF.out, h0])
      subst h0
      go_wp2_with fail
      refine (CK2.out _).mono ?_
      rintro e w2 ⟨rfl, hb⟩
      have HB2 := Lib.hid (HB1.out.trans (hb.mono HB1.out.size))
      clear hb
      go_wp2_with fail
      go_ret
      exact ⟨⟨true, ⟨fun _ => ⟨HS.out, HR.out⟩, fun _ => rfl⟩, rfl⟩, HB2.out⟩
    · have HR : Hid (fe t 6 ≠ 0) := Lib.hid (by rw [← HF.out]; exact h0)
      have hne : ((F : Int) == 0) = false := by rw [beq_eq_false_iff_ne]; omega
      clear h0
      go_wp2_with fail
      refine (CK2.out _).mono ?_
      rintro e w2 ⟨rfl, hb⟩
      have HB2 := Lib.hid (HB1.out.trans (hb.mono HB1.out.size))
      clear hb
      go_wp2_with fail
      go_ret
      exact ⟨⟨false, ⟨fun h => (Bool.false_ne_true h).elim, fun h => absurd h.2 HR.out⟩, rfl⟩, HB2.out⟩
end Go.Proofs.YtbpegjgpdgeadaaGreatDoor
namespace Go.Proofs.YtbpegjgpdgeadaaGreatDoor
open Go Go.RowKit Metro
open Go.Lib (nDigits decDigits)

theorem dig_size {k : Nat} {q : Rat} (h : Dig k q) : (qt q).size ≤ 2 * k + 2 := by
  have h1 := zl_length q.num
  have h2 := zl_length (q.den : Int)
  have hl : (qt q).size = (ql q).length := by rw [← qt_toList, ← Lib.size_eq]
  have hd : nDigits ((q.den : Int)).natAbs ≤ k := h.den
  have hn := h.1
  have hz : ¬ (q.den : Int) < 0 := by omega
  rw [if_neg hz] at h2
  have hm : (if q.num < 0 then 1 else 0) ≤ 1 := by split <;> omega
  rw [hl]
  unfold ql
  split
  · omega
  · rw [List.length_append, List.length_cons]; omega
theorem qt_pos (q : Rat) : 0 < (qt q).size := by
  have hl : (qt q).size = (ql q).length := by rw [← qt_toList, ← Lib.size_eq]
  have h1 := zl_length q.num
  have h0 : 0 < (zl q.num).length := by
    have := zt_pos q.num
    rw [Lib.size_eq] at this
    simpa [zt] using this
  rw [hl]
  unfold ql
  split
  · exact h0
  · rw [List.length_append]; omega

/-- The sums of the law. -/
def kD (x y z x2 y2 z2 : Int) : Nat → Int | 0 => x - x2 | 1 => y - y2 | _ => z - z2
def kU (q : Nat → Rat) (x y z x2 y2 z2 : Int) (k : Nat) : Rat := gone q x y z k - gone q x2 y2 z2 k
def kV (q : Nat → Rat) (x y z x2 y2 z2 : Int) (k : Nat) : Rat := kU q x y z x2 y2 z2 k - (kD x y z x2 y2 z2 k : Rat)
def kW (q : Nat → Rat) (x y z x2 y2 z2 : Int) (k : Nat) : Rat := (kD x y z x2 y2 z2 k : Rat) * kV q x y z x2 y2 z2 k
def kS (q : Nat → Rat) (x y z x2 y2 z2 : Int) : Nat → Rat
  | 0 => 0
  | k + 1 => kS q x y z x2 y2 z2 k + kW q x y z x2 y2 z2 k
theorem kS_three (q : Nat → Rat) (x y z x2 y2 z2 : Int) : kS q x y z x2 y2 z2 3 = 0 := keeps_sum q x y z x2 y2 z2
section
variable {q : Nat → Rat} {x y z x2 y2 z2 : Int}
theorem kD_small (hp : okP x y z = true) (hp2 : okP x2 y2 z2 = true) (k : Nat) : (kD x y z x2 y2 z2 k).natAbs < 1000000 := by
  have h1 := okP_parts hp; have h2 := okP_parts hp2
  unfold kD; split <;> omega
theorem kD_dig (hp : okP x y z = true) (hp2 : okP x2 y2 z2 = true) (k : Nat) : Dig 6 (kD x y z x2 y2 z2 k : Rat) := dig_int _ (by decide) (kD_small hp hp2 k)
theorem kU_dig (hp : okP x y z = true) (hp2 : okP x2 y2 z2 = true) (hq : ∀ i, i < 6 → Dig 24 (q i)) (k : Nat) : Dig 389 (kU q x y z x2 y2 z2 k) := (gone_dig hp hq k).sub (gone_dig hp2 hq k)
theorem kV_dig (hp : okP x y z = true) (hp2 : okP x2 y2 z2 = true) (hq : ∀ i, i < 6 → Dig 24 (q i)) (k : Nat) : Dig 396 (kV q x y z x2 y2 z2 k) := (kU_dig hp hp2 hq k).sub (kD_dig hp hp2 k)
theorem kW_dig (hp : okP x y z = true) (hp2 : okP x2 y2 z2 = true) (hq : ∀ i, i < 6 → Dig 24 (q i)) (k : Nat) : Dig 402 (kW q x y z x2 y2 z2 k) := (kD_dig hp hp2 k).mul (kV_dig hp hp2 hq k)
theorem kS_dig (hp : okP x y z = true) (hp2 : okP x2 y2 z2 = true) (hq : ∀ i, i < 6 → Dig 24 (q i)) : ∀ k, Dig (1 + 403 * k) (kS q x y z x2 y2 z2 k)
  | 0 => dig_zero _ (by decide)
  | k + 1 => ((kS_dig hp hp2 hq k).add (kW_dig hp hp2 hq k)).mono (by omega)
end

set_option maxHeartbeats 1000000 in
set_option maxRecDepth 100000 in
/-- Where the torsor or a point is not right the law only asks the examples. -/
theorem keepsNot_any (t : Nat → ByteArray) (x y z x2 y2 z2 : Int) (w : World) (hE : Env w) (hn : ¬ (((∀ i, i < 6 → (t i).size ≤ 24) ∧ fe t 6 = 0) ∧ okP x y z = true ∧ okP x2 y2 z2 = true)) :
    Calls Tryz.prog 6 #[.agg #[.string (t 0), .string (t 1), .string (t 2), .string (t 3), .string (t 4), .string (t 5)], .agg #[.int .i64 x, .int .i64 y, .int .i64 z], .agg #[.int .i64 x2, .int .i64 y2, .int .i64 z2]] w fun e w' => e = .returned (.bool true) ∧ Below w.heap.size w w' := by
  have AW := Lib.hid awake40_any
  have HE := Lib.hid hE
  have RT := Lib.hid (right_any t)
  have SP := Lib.hid (rightSpot_any x y z); have SQ := Lib.hid (rightSpot_any x2 y2 z2)
  obtain ⟨bp, hbp⟩ : ∃ b, b = okP x y z := ⟨_, rfl⟩
  obtain ⟨bq, hbq⟩ : ∃ b, b = okP x2 y2 z2 := ⟨_, rfl⟩
  rw [← hbp] at SP
  rw [← hbq] at SQ
  have HBP := Lib.hid hbp; have HBQ := Lib.hid hbq; have HN := Lib.hid hn
  have HB0 := Lib.hid (below_three w (.cells #[.string (t 0), .string (t 1), .string (t 2), .string (t 3), .string (t 4), .string (t 5)] 25) (.cells #[.int .i64 x, .int .i64 y, .int .i64 z] 27) (.cells #[.int .i64 x2, .int .i64 y2, .int .i64 z2] 27))
  have HP0 := Lib.hid ((blk_new1 w (.cells #[.string (t 0), .string (t 1), .string (t 2), .string (t 3), .string (t 4), .string (t 5)] 25) #[.int .i64 x, .int .i64 y, .int .i64 z] 27).alloc (.cells #[.int .i64 x2, .int .i64 y2, .int .i64 z2] 27))
  have HQ0 := Lib.hid (blk_new2 w (.cells #[.string (t 0), .string (t 1), .string (t 2), .string (t 3), .string (t 4), .string (t 5)] 25) (.cells #[.int .i64 x, .int .i64 y, .int .i64 z] 27) #[.int .i64 x2, .int .i64 y2, .int .i64 z2] 27)
  clear hE hbp hbq hn
  go_enter Tryz.func6, Tryz.ntmps6
  go_wp2_with fail
  refine (RT.out _).mono ?_
  rintro e w1 ⟨⟨b, hbb, rfl⟩, hb⟩
  have HB1 := Lib.hid (HB0.out.trans (hb.mono HB0.out.size)); have HP1 := Lib.hid (HP0.out.later hb); have HQ1 := Lib.hid (HQ0.out.later hb)
  have HBB := Lib.hid hbb
  clear hb hbb
  cases b with
  | false =>
    go_wp2_with fail
    refine (AW.out _ (HE.out.below HB1.out)).mono ?_
    rintro e w9 ⟨rfl, hb⟩
    have HB9 := Lib.hid (HB1.out.trans (hb.mono HB1.out.size))
    clear hb
    go_wp2_with fail
    go_ret
    exact ⟨rfl, HB9.out⟩
  | true =>
    have p0 := HP1.out.cell 0; have p1 := HP1.out.cell 1; have p2 := HP1.out.cell 2
    go_wp2_with fail
    refine (SP.out _).mono ?_
    rintro e w2 ⟨rfl, hb⟩
    have HB2 := Lib.hid (HB1.out.trans (hb.mono HB1.out.size)); have HQ2 := Lib.hid (HQ1.out.later hb)
    clear hb p0 p1 p2
    cases bp with
    | false =>
      go_wp2_with fail
      refine (AW.out _ (HE.out.below HB2.out)).mono ?_
      rintro e w9 ⟨rfl, hb⟩
      have HB9 := Lib.hid (HB2.out.trans (hb.mono HB2.out.size))
      clear hb
      go_wp2_with fail
      go_ret
      exact ⟨rfl, HB9.out⟩
    | true =>
      have q0 := HQ2.out.cell 0; have q1 := HQ2.out.cell 1; have q2 := HQ2.out.cell 2
      cases bq with
      | true => exact absurd ⟨HBB.out.1 (by first | rfl | trivial), HBP.out.symm, HBQ.out.symm⟩ HN.out
      | false =>
        go_wp2_with fail
        refine (SQ.out _).mono ?_
        rintro e w3 ⟨rfl, hb⟩
        have HB3 := Lib.hid (HB2.out.trans (hb.mono HB2.out.size))
        clear hb q0 q1 q2
        go_wp2_with fail
        refine (AW.out _ (HE.out.below HB3.out)).mono ?_
        rintro e w9 ⟨rfl, hb⟩
        have HB9 := Lib.hid (HB3.out.trans (hb.mono HB3.out.size))
        clear hb
        go_wp2_with fail
        go_ret
        exact ⟨rfl, HB9.out⟩

end Go.Proofs.YtbpegjgpdgeadaaGreatDoor
namespace Go.Proofs.YtbpegjgpdgeadaaGreatDoor
open Go Go.RowKit Metro
open Go.Lib (nDigits decDigits)

set_option maxHeartbeats 4000000 in
set_option maxRecDepth 100000 in
theorem keepsOk_any (q : Nat → Rat) (x y z x2 y2 z2 : Int) (w : World) (hE : Env w) (hs : ∀ i, i < 6 → (qt (q i)).size ≤ 24) (hq : ∀ i, i < 6 → Dig 24 (q i)) (hp : okP x y z = true) (hp2 : okP x2 y2 z2 = true) :
    Calls Tryz.prog 6 #[.agg #[.string (qt (q 0)), .string (qt (q 1)), .string (qt (q 2)), .string (qt (q 3)), .string (qt (q 4)), .string (qt (q 5))], .agg #[.int .i64 x, .int .i64 y, .int .i64 z], .agg #[.int .i64 x2, .int .i64 y2, .int .i64 z2]] w fun e w' => e = .returned (.bool true) ∧ Below w.heap.size w w' := by
  have AW := Lib.hid awake40_any
  have RT : Hid (∀ w, Calls Tryz.prog 35 #[.agg #[.string (qt (q 0)), .string (qt (q 1)), .string (qt (q 2)), .string (qt (q 3)), .string (qt (q 4)), .string (qt (q 5))]] w fun e w' => e = .returned (.bool true) ∧ Below w.heap.size w w') := Lib.hid (fun w => by
    refine (right_any (fun i => qt (q i)) w).mono ?_
    rintro e w' ⟨⟨b, hb, rfl⟩, h⟩
    rw [hb.2 ⟨hs, fe_qt hq⟩]
    exact ⟨rfl, h⟩)
  have SP := Lib.hid (rightSpot_any x y z); have SQ := Lib.hid (rightSpot_any x2 y2 z2)
  rw [hp] at SP
  rw [hp2] at SQ
  obtain ⟨A, hA⟩ : ∃ A : Nat → ByteArray, A = fun i => qt (gone q x y z i) := ⟨_, rfl⟩
  obtain ⟨B, hB⟩ : ∃ A : Nat → ByteArray, A = fun i => qt (gone q x2 y2 z2 i) := ⟨_, rfl⟩
  obtain ⟨D, hD⟩ : ∃ A : Nat → Int, A = kD x y z x2 y2 z2 := ⟨_, rfl⟩
  obtain ⟨U, hU⟩ : ∃ A : Nat → ByteArray, A = fun i => qt (kU q x y z x2 y2 z2 i) := ⟨_, rfl⟩
  obtain ⟨V, hV⟩ : ∃ A : Nat → ByteArray, A = fun i => qt (kV q x y z x2 y2 z2 i) := ⟨_, rfl⟩
  obtain ⟨M, hM⟩ : ∃ A : Nat → ByteArray, A = fun i => qt (kW q x y z x2 y2 z2 i) := ⟨_, rfl⟩
  obtain ⟨S, hS⟩ : ∃ A : Nat → ByteArray, A = fun i => qt (kS q x y z x2 y2 z2 i) := ⟨_, rfl⟩
  obtain ⟨N, hN⟩ : ∃ A : Nat → ByteArray, A = fun i => qt (kD x y z x2 y2 z2 i : Rat) := ⟨_, rfl⟩
  have CA : Hid (∀ w, Env w → Calls Tryz.prog 21 #[.agg #[.string (qt (q 0)), .string (qt (q 1)), .string (qt (q 2)), .string (qt (q 3)), .string (qt (q 4)), .string (qt (q 5))], .agg #[.int .i64 x, .int .i64 y, .int .i64 z]] w fun e w' => e = .returned (.tuple #[.agg #[.string (A 0), .string (A 1), .string (A 2)], .int .i64 0]) ∧ Below w.heap.size w w') := Lib.hid (by intro w hE; have h := applyOk_any (D := 24) q x y z w hE hq hp; subst hA; exact h)
  have CB : Hid (∀ w, Env w → Calls Tryz.prog 21 #[.agg #[.string (qt (q 0)), .string (qt (q 1)), .string (qt (q 2)), .string (qt (q 3)), .string (qt (q 4)), .string (qt (q 5))], .agg #[.int .i64 x2, .int .i64 y2, .int .i64 z2]] w fun e w' => e = .returned (.tuple #[.agg #[.string (B 0), .string (B 1), .string (B 2)], .int .i64 0]) ∧ Below w.heap.size w w') := Lib.hid (by intro w hE; have h := applyOk_any (D := 24) q x2 y2 z2 w hE hq hp2; subst hB; exact h)
  have LA : Hid (∀ w, Calls Tryz.prog 36 #[.agg #[.string (A 0), .string (A 1), .string (A 2)]] w fun e w' => e = .returned (.bool true) ∧ Below w.heap.size w w') := Lib.hid (by intro w; have h := place_any (fun i => qt (gone q x y z i)) w (fe_qt (fun i _ => gone_dig hp hq i)) (fun i _ => Nat.le_trans (dig_size (gone_dig hp hq i)) (by decide)); subst hA; exact h)
  have LB : Hid (∀ w, Calls Tryz.prog 36 #[.agg #[.string (B 0), .string (B 1), .string (B 2)]] w fun e w' => e = .returned (.bool true) ∧ Below w.heap.size w w') := Lib.hid (by intro w; have h := place_any (fun i => qt (gone q x2 y2 z2 i)) w (fe_qt (fun i _ => gone_dig hp2 hq i)) (fun i _ => Nat.le_trans (dig_size (gone_dig hp2 hq i)) (by decide)); subst hB; exact h)
  have CW : Hid (∀ i w, Calls Tryz.prog 34 #[.int .i64 (D i)] w fun e w' => e = .returned (.string (N i)) ∧ Below w.heap.size w w') := Lib.hid (by subst hD hN; exact fun i w => refQWhole_any _ w (by have := kD_small hp hp2 i; omega) (by have := kD_small hp hp2 i; omega))
  have C1 : Hid (∀ i w, Calls Tryz.prog 39 #[.string (A i), .string (B i)] w fun e w' => e = .returned (.string (U i)) ∧ Below w.heap.size w w') := Lib.hid (by subst hA hB hU; exact fun i w => refQLess_any _ _ w ((gone_dig hp hq i).mono (by decide)) ((gone_dig hp2 hq i).mono (by decide)))
  have C2 : Hid (∀ i w, Calls Tryz.prog 39 #[.string (U i), .string (N i)] w fun e w' => e = .returned (.string (V i)) ∧ Below w.heap.size w w') := Lib.hid (by subst hU hN hV; exact fun i w => refQLess_any _ _ w ((kU_dig hp hp2 hq i).mono (by decide)) ((kD_dig hp hp2 i).mono (by decide)))
  have C3 : Hid (∀ i w, Calls Tryz.prog 38 #[.string (N i), .string (V i)] w fun e w' => e = .returned (.string (M i)) ∧ Below w.heap.size w w') := Lib.hid (by subst hV hN hM; exact fun i w => refQTimes_any _ _ w ((kD_dig hp hp2 i).mono (by decide)) ((kV_dig hp hp2 hq i).mono (by decide)))
  have C4 : Hid (∀ i, i < 3 → ∀ w, Calls Tryz.prog 37 #[.string (S i), .string (M i)] w fun e w' => e = .returned (.string (S (i + 1))) ∧ Below w.heap.size w w') := Lib.hid (by subst hS hM; exact fun i hi w => refQPlus_any _ _ w ((kS_dig hp hp2 hq i).mono (by omega)) ((kW_dig hp hp2 hq i).mono (by decide)))
  have HS0 : Hid (S 0 = ⟨#[48]⟩) := Lib.hid (by subst hS; exact qt_zero48)
  have HS3 : Hid (S 3 = ⟨#[48]⟩) := Lib.hid (by subst hS; show qt (kS q x y z x2 y2 z2 3) = _; rw [kS_three]; exact qt_zero48)
  have hpp := okP_parts hp; have hpp2 := okP_parts hp2
  have hw0 : IntKind.i64.wrap (x - x2) = D 0 := by subst hD; show IntKind.i64.wrap (x - x2) = x - x2; rw [IntKind.wrap_i64]; omega
  have hw1 : IntKind.i64.wrap (y - y2) = D 1 := by subst hD; show IntKind.i64.wrap (y - y2) = y - y2; rw [IntKind.wrap_i64]; omega
  have hw2 : IntKind.i64.wrap (z - z2) = D 2 := by subst hD; show IntKind.i64.wrap (z - z2) = z - z2; rw [IntKind.wrap_i64]; omega
  have HZA : Hid (∀ i, 0 < (A i).size) := Lib.hid (by subst hA; exact fun i => qt_pos _)
  have HZB : Hid (∀ i, 0 < (B i).size) := Lib.hid (by subst hB; exact fun i => qt_pos _)
  have HE := Lib.hid hE
  have HB0 := Lib.hid (below_three w (.cells #[.string (qt (q 0)), .string (qt (q 1)), .string (qt (q 2)), .string (qt (q 3)), .string (qt (q 4)), .string (qt (q 5))] 25) (.cells #[.int .i64 x, .int .i64 y, .int .i64 z] 27) (.cells #[.int .i64 x2, .int .i64 y2, .int .i64 z2] 27))
  have HT0 := Lib.hid (((blk_new w #[.string (qt (q 0)), .string (qt (q 1)), .string (qt (q 2)), .string (qt (q 3)), .string (qt (q 4)), .string (qt (q 5))] 25).alloc (.cells #[.int .i64 x, .int .i64 y, .int .i64 z] 27)).alloc (.cells #[.int .i64 x2, .int .i64 y2, .int .i64 z2] 27))
  have HP0 := Lib.hid ((blk_new1 w (.cells #[.string (qt (q 0)), .string (qt (q 1)), .string (qt (q 2)), .string (qt (q 3)), .string (qt (q 4)), .string (qt (q 5))] 25) #[.int .i64 x, .int .i64 y, .int .i64 z] 27).alloc (.cells #[.int .i64 x2, .int .i64 y2, .int .i64 z2] 27))
  have HQ0 := Lib.hid (blk_new2 w (.cells #[.string (qt (q 0)), .string (qt (q 1)), .string (qt (q 2)), .string (qt (q 3)), .string (qt (q 4)), .string (qt (q 5))] 25) (.cells #[.int .i64 x, .int .i64 y, .int .i64 z] 27) #[.int .i64 x2, .int .i64 y2, .int .i64 z2] 27)
  clear hE hp hp2 hq hs hA hB hD hU hV hM hS hN hpp hpp2
  go_enter Tryz.func6, Tryz.ntmps6
  go_wp2_with fail
  refine (RT.out _).mono ?_
  rintro e w1 ⟨rfl, hb⟩
  have HB1 := Lib.hid (HB0.out.trans (hb.mono HB0.out.size)); have HT1 := Lib.hid (HT0.out.later hb); have HP1 := Lib.hid (HP0.out.later hb); have HQ1 := Lib.hid (HQ0.out.later hb); clear hb
  have p0 := HP1.out.cell 0; have p1 := HP1.out.cell 1; have p2 := HP1.out.cell 2
  go_wp2_with fail
  refine (SP.out _).mono ?_
  rintro e w2 ⟨rfl, hb⟩
  have HB2 := Lib.hid (HB1.out.trans (hb.mono HB1.out.size)); have HT2 := Lib.hid (HT1.out.later hb); have HP2 := Lib.hid (HP1.out.later hb); have HQ2 := Lib.hid (HQ1.out.later hb); clear hb
  clear p0 p1 p2
  have q0 := HQ2.out.cell 0; have q1 := HQ2.out.cell 1; have q2 := HQ2.out.cell 2
  go_wp2_with fail
  refine (SQ.out _).mono ?_
  rintro e w3 ⟨rfl, hb⟩
  have HB3 := Lib.hid (HB2.out.trans (hb.mono HB2.out.size)); have HT3 := Lib.hid (HT2.out.later hb); have HP3 := Lib.hid (HP2.out.later hb); have HQ3 := Lib.hid (HQ2.out.later hb); clear hb
  clear q0 q1 q2
  have p0 := HP3.out.cell 0; have p1 := HP3.out.cell 1; have p2 := HP3.out.cell 2
  have t0 := HT3.out.cell 0; have t1 := HT3.out.cell 1; have t2 := HT3.out.cell 2; have t3 := HT3.out.cell 3; have t4 := HT3.out.cell 4; have t5 := HT3.out.cell 5
  go_wp2_with fail
  refine (CA.out _ (HE.out.below HB3.out)).mono ?_
  rintro e w4 ⟨rfl, hb⟩
  have HA5 := Lib.hid (blk_new w4 #[.string (A 0), .string (A 1), .string (A 2)] 23)
  have HBx := Lib.hid ((HB3.out.trans (hb.mono HB3.out.size)).alloc (Nat.le_trans HB3.out.size hb.size) (.cells #[.string (A 0), .string (A 1), .string (A 2)] 23)); have HTx := Lib.hid ((HT3.out.later hb).alloc (.cells #[.string (A 0), .string (A 1), .string (A 2)] 23)); have HPx := Lib.hid ((HP3.out.later hb).alloc (.cells #[.string (A 0), .string (A 1), .string (A 2)] 23)); have HQx := Lib.hid ((HQ3.out.later hb).alloc (.cells #[.string (A 0), .string (A 1), .string (A 2)] 23))
  clear hb p0 p1 p2 t0 t1 t2 t3 t4 t5
  have q0 := HQx.out.cell 0; have q1 := HQx.out.cell 1; have q2 := HQx.out.cell 2
  have t0 := HTx.out.cell 0; have t1 := HTx.out.cell 1; have t2 := HTx.out.cell 2; have t3 := HTx.out.cell 3; have t4 := HTx.out.cell 4; have t5 := HTx.out.cell 5
  go_wp2_with fail
  refine (CB.out _ (HE.out.below HBx.out)).mono ?_
  rintro e w5 ⟨rfl, hb⟩
  have HA6 := Lib.hid ((HA5.out.later hb).alloc (.cells #[.string (B 0), .string (B 1), .string (B 2)] 23))
  have HC6 := Lib.hid (blk_new w5 #[.string (B 0), .string (B 1), .string (B 2)] 23)
  have HB6 := Lib.hid ((HBx.out.trans (hb.mono HBx.out.size)).alloc (Nat.le_trans HBx.out.size hb.size) (.cells #[.string (B 0), .string (B 1), .string (B 2)] 23)); have HP6 := Lib.hid ((HPx.out.later hb).alloc (.cells #[.string (B 0), .string (B 1), .string (B 2)] 23)); have HQ6 := Lib.hid ((HQx.out.later hb).alloc (.cells #[.string (B 0), .string (B 1), .string (B 2)] 23))
  have hlt := (HA5.out.later hb).lt
  clear hb q0 q1 q2 t0 t1 t2 t3 t4 t5
  have a0 := HA6.out.cell 0; have a1 := HA6.out.cell 1; have a2 := HA6.out.cell 2
  have b0 := HC6.out.cell 0; have b1 := HC6.out.cell 1; have b2 := HC6.out.cell 2
  go_wp2_with fail
  obtain ⟨bA, hbA⟩ : ∃ b, b = w4.heap.size := ⟨_, rfl⟩
  obtain ⟨bB, hbB⟩ : ∃ b, b = w5.heap.size := ⟨_, rfl⟩
  rw [← hbA] at HA6
  rw [← hbB] at HC6
  rw [← hbA, ← hbB]
  clear hbA hbB hlt a0 a1 a2 b0 b1 b2
  generalize (w5.alloc (.cells #[.string (B 0), .string (B 1), .string (B 2)] 23)) = W6 at HA6 HC6 HB6 HP6 HQ6 ⊢
  refine (LA.out _).mono ?_
  rintro e w7 ⟨rfl, hb⟩
  have HB7 := Lib.hid (HB6.out.trans (hb.mono HB6.out.size)); have HA7 := Lib.hid (HA6.out.later hb); have HC7 := Lib.hid (HC6.out.later hb); have HP7 := Lib.hid (HP6.out.later hb); have HQ7 := Lib.hid (HQ6.out.later hb); clear hb
  have b0 := HC7.out.cell 0; have b1 := HC7.out.cell 1; have b2 := HC7.out.cell 2
  go_wp2_with fail
  refine (LB.out _).mono ?_
  rintro e w8 ⟨rfl, hb⟩
  have HB8 := Lib.hid (HB7.out.trans (hb.mono HB7.out.size)); have HA8 := Lib.hid (HA7.out.later hb); have HC8 := Lib.hid (HC7.out.later hb); have HP8 := Lib.hid (HP7.out.later hb); have HQ8 := Lib.hid (HQ7.out.later hb); clear hb
  clear b0 b1 b2
  have p0 := HP8.out.cell 0; have p1 := HP8.out.cell 1; have p2 := HP8.out.cell 2
  have q0 := HQ8.out.cell 0; have q1 := HQ8.out.cell 1; have q2 := HQ8.out.cell 2
  obtain ⟨i0, i1, i2⟩ := ix56 (.int .i64 (D 0)) (.int .i64 (D 1)) (.int .i64 (D 2))
  obtain ⟨L, hL⟩ : ∃ N : Nat, N = 3 := ⟨_, rfl⟩
  have HL := Lib.hid hL
  clear hL
  go_wp2_with fail
  clear p0 p1 p2 q0 q1 q2
  go_loopg [11, 73] L (fun d s i wr => ∃ j : Nat, i = .int .i64 j ∧ j ≤ 3 ∧ d = L - j ∧ s = .string (S j) ∧ Blk wr bA #[.string (A 0), .string (A 1), .string (A 2)] 23 ∧ Blk wr bB #[.string (B 0), .string (B 1), .string (B 2)] 23 ∧ Below w.heap.size w wr)
  case atStart => exact ⟨0, rfl, by decide, rfl, by rw [HS0.out], HA8.out, HC8.out, HB8.out⟩
  case round =>
    obtain ⟨j, rfl, hj, rfl, rfl, ha, hc, hb⟩ := hrel
    have HA := Lib.hid ha; have HC := Lib.hid hc; have HB := Lib.hid hb
    clear ha hc hb
    by_cases hlt : j < 3
    · have hj' : j = 0 ∨ j = 1 ∨ j = 2 := by omega
      rcases hj' with rfl | rfl | rfl
      · go_wp2_with fail
        refine (CW.out 0 _).mono ?_
        rintro e wa ⟨rfl, hba⟩
        have HBa := Lib.hid (HB.out.trans (hba.mono HB.out.size)); have HAa := Lib.hid (Blk.later (HA.out) hba); have HCa := Lib.hid (Blk.later (HC.out) hba); have xa := HAa.out.cell 0; have ya := HCa.out.cell 0; clear hba
        have za : (((A 0).size : Int) == 0) = false := by rw [beq_eq_false_iff_ne]; have := HZA.out 0; omega
        have zb : (((B 0).size : Int) == 0) = false := by rw [beq_eq_false_iff_ne]; have := HZB.out 0; omega
        go_wp2_with fail
        go_region_held3 (fun w' => w'.cell? ⟨bA, 0, none⟩ = some (.string (A 0)) ∧ w'.cell? ⟨bB, 0, none⟩ = some (.string (B 0)))
          (first | go_keep | exact ⟨xa, ya⟩ | exact ⟨xb, yb⟩ | exact ⟨xc, yc⟩ | exact ⟨xd, yd⟩ | exact ⟨xe, ye⟩)
          (first
            | (go_at_call 39; first
              | (have hx := HBb; clear hx; refine (C2.out 0 _).mono ?_; rintro e wc ⟨rfl, hbc⟩; have HBc := Lib.hid (HBb.out.trans (hbc.mono HBb.out.size)); have HAc := Lib.hid (Blk.later (HAb.out) hbc); have HCc := Lib.hid (Blk.later (HCb.out) hbc); have xc := HAc.out.cell 0; have yc := HCc.out.cell 0; clear hbc)
              | (refine (C1.out 0 _).mono ?_; rintro e wb ⟨rfl, hbb⟩; have HBb := Lib.hid (HBa.out.drew.trans (hbb.mono HBa.out.drew.size)); have HAb := Lib.hid (Blk.later (HAa.out.drew) hbb); have HCb := Lib.hid (Blk.later (HCa.out.drew) hbb); have xb := HAb.out.cell 0; have yb := HCb.out.cell 0; clear hbb))
            | (go_at_call 38; refine (C3.out 0 _).mono ?_; rintro e wd ⟨rfl, hbd⟩; have HBd := Lib.hid (HBc.out.trans (hbd.mono HBc.out.size)); have HAd := Lib.hid (Blk.later (HAc.out) hbd); have HCd := Lib.hid (Blk.later (HCc.out) hbd); have xd := HAd.out.cell 0; have yd := HCd.out.cell 0; clear hbd)
            | (go_at_call 37; refine (C4.out 0 (by decide) _).mono ?_; rintro e we ⟨rfl, hbe⟩; have HBe := Lib.hid (HBd.out.trans (hbe.mono HBd.out.size)); have HAe := Lib.hid (Blk.later (HAd.out) hbe); have HCe := Lib.hid (Blk.later (HCd.out) hbe); have xe := HAe.out.cell 0; have ye := HCe.out.cell 0; clear hbe))
        all_goals
          go_wp2_with fail
          go_roundg (L - (0 + 1))
          case measure => have := HL.out; omega
          case rel => exact ⟨1, rfl, by decide, rfl, rfl, HAe.out, HCe.out, HBe.out⟩
      · go_wp2_with fail
        refine (CW.out 1 _).mono ?_
        rintro e wa ⟨rfl, hba⟩
        have HBa := Lib.hid (HB.out.trans (hba.mono HB.out.size)); have HAa := Lib.hid (Blk.later (HA.out) hba); have HCa := Lib.hid (Blk.later (HC.out) hba); have xa := HAa.out.cell 1; have ya := HCa.out.cell 1; clear hba
        have za : (((A 1).size : Int) == 0) = false := by rw [beq_eq_false_iff_ne]; have := HZA.out 1; omega
        have zb : (((B 1).size : Int) == 0) = false := by rw [beq_eq_false_iff_ne]; have := HZB.out 1; omega
        go_wp2_with fail
        go_region_held3 (fun w' => w'.cell? ⟨bA, 1, none⟩ = some (.string (A 1)) ∧ w'.cell? ⟨bB, 1, none⟩ = some (.string (B 1)))
          (first | go_keep | exact ⟨xa, ya⟩ | exact ⟨xb, yb⟩ | exact ⟨xc, yc⟩ | exact ⟨xd, yd⟩ | exact ⟨xe, ye⟩)
          (first
            | (go_at_call 39; first
              | (have hx := HBb; clear hx; refine (C2.out 1 _).mono ?_; rintro e wc ⟨rfl, hbc⟩; have HBc := Lib.hid (HBb.out.trans (hbc.mono HBb.out.size)); have HAc := Lib.hid (Blk.later (HAb.out) hbc); have HCc := Lib.hid (Blk.later (HCb.out) hbc); have xc := HAc.out.cell 1; have yc := HCc.out.cell 1; clear hbc)
              | (refine (C1.out 1 _).mono ?_; rintro e wb ⟨rfl, hbb⟩; have HBb := Lib.hid (HBa.out.drew.trans (hbb.mono HBa.out.drew.size)); have HAb := Lib.hid (Blk.later (HAa.out.drew) hbb); have HCb := Lib.hid (Blk.later (HCa.out.drew) hbb); have xb := HAb.out.cell 1; have yb := HCb.out.cell 1; clear hbb))
            | (go_at_call 38; refine (C3.out 1 _).mono ?_; rintro e wd ⟨rfl, hbd⟩; have HBd := Lib.hid (HBc.out.trans (hbd.mono HBc.out.size)); have HAd := Lib.hid (Blk.later (HAc.out) hbd); have HCd := Lib.hid (Blk.later (HCc.out) hbd); have xd := HAd.out.cell 1; have yd := HCd.out.cell 1; clear hbd)
            | (go_at_call 37; refine (C4.out 1 (by decide) _).mono ?_; rintro e we ⟨rfl, hbe⟩; have HBe := Lib.hid (HBd.out.trans (hbe.mono HBd.out.size)); have HAe := Lib.hid (Blk.later (HAd.out) hbe); have HCe := Lib.hid (Blk.later (HCd.out) hbe); have xe := HAe.out.cell 1; have ye := HCe.out.cell 1; clear hbe))
        all_goals
          go_wp2_with fail
          go_roundg (L - (1 + 1))
          case measure => have := HL.out; omega
          case rel => exact ⟨2, rfl, by decide, rfl, rfl, HAe.out, HCe.out, HBe.out⟩
      · go_wp2_with fail
        refine (CW.out 2 _).mono ?_
        rintro e wa ⟨rfl, hba⟩
        have HBa := Lib.hid (HB.out.trans (hba.mono HB.out.size)); have HAa := Lib.hid (Blk.later (HA.out) hba); have HCa := Lib.hid (Blk.later (HC.out) hba); have xa := HAa.out.cell 2; have ya := HCa.out.cell 2; clear hba
        have za : (((A 2).size : Int) == 0) = false := by rw [beq_eq_false_iff_ne]; have := HZA.out 2; omega
        have zb : (((B 2).size : Int) == 0) = false := by rw [beq_eq_false_iff_ne]; have := HZB.out 2; omega
        go_wp2_with fail
        go_region_held3 (fun w' => w'.cell? ⟨bA, 2, none⟩ = some (.string (A 2)) ∧ w'.cell? ⟨bB, 2, none⟩ = some (.string (B 2)))
          (first | go_keep | exact ⟨xa, ya⟩ | exact ⟨xb, yb⟩ | exact ⟨xc, yc⟩ | exact ⟨xd, yd⟩ | exact ⟨xe, ye⟩)
          (first
            | (go_at_call 39; first
              | (have hx := HBb; clear hx; refine (C2.out 2 _).mono ?_; rintro e wc ⟨rfl, hbc⟩; have HBc := Lib.hid (HBb.out.trans (hbc.mono HBb.out.size)); have HAc := Lib.hid (Blk.later (HAb.out) hbc); have HCc := Lib.hid (Blk.later (HCb.out) hbc); have xc := HAc.out.cell 2; have yc := HCc.out.cell 2; clear hbc)
              | (refine (C1.out 2 _).mono ?_; rintro e wb ⟨rfl, hbb⟩; have HBb := Lib.hid (HBa.out.drew.trans (hbb.mono HBa.out.drew.size)); have HAb := Lib.hid (Blk.later (HAa.out.drew) hbb); have HCb := Lib.hid (Blk.later (HCa.out.drew) hbb); have xb := HAb.out.cell 2; have yb := HCb.out.cell 2; clear hbb))
            | (go_at_call 38; refine (C3.out 2 _).mono ?_; rintro e wd ⟨rfl, hbd⟩; have HBd := Lib.hid (HBc.out.trans (hbd.mono HBc.out.size)); have HAd := Lib.hid (Blk.later (HAc.out) hbd); have HCd := Lib.hid (Blk.later (HCc.out) hbd); have xd := HAd.out.cell 2; have yd := HCd.out.cell 2; clear hbd)
            | (go_at_call 37; refine (C4.out 2 (by decide) _).mono ?_; rintro e we ⟨rfl, hbe⟩; have HBe := Lib.hid (HBd.out.trans (hbe.mono HBd.out.size)); have HAe := Lib.hid (Blk.later (HAd.out) hbe); have HCe := Lib.hid (Blk.later (HCd.out) hbe); have xe := HAe.out.cell 2; have ye := HCe.out.cell 2; clear hbe))
        all_goals
          go_wp2_with fail
          go_roundg (L - (2 + 1))
          case measure => have := HL.out; omega
          case rel => exact ⟨3, rfl, by decide, rfl, rfl, HAe.out, HCe.out, HBe.out⟩
    · have hj3 : j = 3 := by omega
      subst hj3
      rw [HS3.out]
      go_wp2_with fail
      refine (AW.out _ (HE.out.below HB.out)).mono ?_
      rintro e w9 ⟨rfl, hb⟩
      have HB9 := Lib.hid (HB.out.trans (hb.mono HB.out.size))
      clear hb
      go_wp2_with fail
      go_ret
      exact ⟨rfl, HB9.out⟩
end Go.Proofs.YtbpegjgpdgeadaaGreatDoor
namespace Go.Proofs.YtbpegjgpdgeadaaGreatDoor
open Go Go.RowKit Metro
open Go.Lib (nDigits decDigits)

/-- The law of displacements square to differences. -/
theorem keeps_any (t : Nat → ByteArray) (x y z x2 y2 z2 : Int) (w : World) (hE : Env w) :
    Calls Tryz.prog 6 #[.agg #[.string (t 0), .string (t 1), .string (t 2), .string (t 3), .string (t 4), .string (t 5)], .agg #[.int .i64 x, .int .i64 y, .int .i64 z], .agg #[.int .i64 x2, .int .i64 y2, .int .i64 z2]] w fun e w' => e = .returned (.bool true) ∧ Below w.heap.size w w' := by
  by_cases h : ((∀ i, i < 6 → (t i).size ≤ 24) ∧ fe t 6 = 0) ∧ okP x y z = true ∧ okP x2 y2 z2 = true
  · obtain ⟨⟨hs, h0⟩, hp, hp2⟩ := h
    obtain ⟨q, hq, hd⟩ := numbers_of h0 hs
    rw [hq 0 (by decide), hq 1 (by decide), hq 2 (by decide), hq 3 (by decide), hq 4 (by decide), hq 5 (by decide)]
    exact keepsOk_any q x y z x2 y2 z2 w hE (fun i hi => by rw [← hq i hi]; exact hs i hi) hd hp hp2
  · exact keepsNot_any t x y z x2 y2 z2 w hE h
end Go.Proofs.YtbpegjgpdgeadaaGreatDoor
