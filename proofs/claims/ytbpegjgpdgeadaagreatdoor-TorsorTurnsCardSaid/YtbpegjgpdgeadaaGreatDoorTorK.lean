/- A part of the proof: TorK. Conditions: none. -/
import Derived.Test.YtbpegjgpdgeadaaGreatDoorTorI
namespace Go.Proofs.YtbpegjgpdgeadaaGreatDoor
open Go Go.RowKit Metro
open Go.Lib (nDigits decDigits)

set_option maxHeartbeats 2000000 in
set_option maxRecDepth 100000 in
theorem turnsOk1_any (a : Int) (x y z x2 y2 z2 : Int) (q : Rat) (w : World) (hE : Env w) (ha : 0 ≤ a ∧ a ≤ 255) (hk : a % 3 = 1) (hp : okP x y z = true) (hp2 : okP x2 y2 z2 = true) (hs : (qt q).size ≤ 24) (hq : Dig 24 q) :
    Calls Tryz.prog 5 #[.int .u8 a, .agg #[.int .i64 x, .int .i64 y, .int .i64 z, .int .i64 x2, .int .i64 y2, .int .i64 z2], .string (qt q)] w fun e w' => e = .returned (.bool true) ∧ Below w.heap.size w w' := by
  have hK : a % 3 = 1 := hk
  have ha0 := ha.1; have ha1 := ha.2
  have AW := Lib.hid awake40_any
  have SP := Lib.hid (rightSpot_any x y z); have SQ := Lib.hid (rightSpot_any x2 y2 z2)
  rw [hp] at SP
  rw [hp2] at SQ
  have CK : Hid (∀ w, Calls Tryz.prog 33 #[.string (qt q)] w fun e w' => e = .returned (.int .i64 0) ∧ Below w.heap.size w w') := Lib.hid (fun w => by
    have hs : (qt q).size ≤ 90000 := Nat.le_trans (qt_size (hq.fits (by decide))) (by decide)
    have := refQCheck_any (qt q) w hs
    rw [qt_toList, chkQ_ql (hq.fits (by decide))] at this
    exact this)
  obtain ⟨A, hA⟩ : ∃ A : Nat → ByteArray, A = fun i => qt (around 1 x y z q i) := ⟨_, rfl⟩
  obtain ⟨A2, hA2⟩ : ∃ A : Nat → ByteArray, A = fun i => qt (around 1 x2 y2 z2 q i) := ⟨_, rfl⟩
  obtain ⟨B, hB⟩ : ∃ A : Nat → ByteArray, A = fun i => qt (tqf 1 q i) := ⟨_, rfl⟩
  obtain ⟨O, hO⟩ : ∃ A : Nat → ByteArray, A = fun i => qt (crd x y2 z i : Rat) := ⟨_, rfl⟩
  have CA : Hid (∀ w, Env w → Calls Tryz.prog 29 #[.int .i64 1, .agg #[.int .i64 x, .int .i64 y, .int .i64 z], .string (qt q)] w fun e w' => e = .returned (.tuple #[.agg #[.string (A 0), .string (A 1), .string (A 2), .string (B 3), .string (B 4), .string (B 5)], .int .i64 0]) ∧ Below w.heap.size w w') := Lib.hid (by subst hA hB; exact fun w hE => aboutOk_any 1 (by decide) x y z q w hE hq hp)
  have CB : Hid (∀ w, Env w → Calls Tryz.prog 29 #[.int .i64 1, .agg #[.int .i64 x2, .int .i64 y2, .int .i64 z2], .string (qt q)] w fun e w' => e = .returned (.tuple #[.agg #[.string (A2 0), .string (A2 1), .string (A2 2), .string (B 3), .string (B 4), .string (B 5)], .int .i64 0]) ∧ Below w.heap.size w w') := Lib.hid (by subst hA2 hB; exact fun w hE => aboutOk_any 1 (by decide) x2 y2 z2 q w hE hq hp2)
  have hpo : okP x y2 z = true := by
    have h1 := okP_parts hp; have h2 := okP_parts hp2
    unfold okP
    simp only [Bool.and_eq_true, inC_iff]
    omega
  have CP : Hid (∀ w, Env w → Calls Tryz.prog 21 #[.agg #[.string (A 0), .string (A 1), .string (A 2), .string (B 3), .string (B 4), .string (B 5)], .agg #[.int .i64 x, .int .i64 y2, .int .i64 z]] w fun e w' => e = .returned (.tuple #[.agg #[.string (O 0), .string (O 1), .string (O 2)], .int .i64 0]) ∧ Below w.heap.size w w') := Lib.hid (by
    intro w hE
    have h := applyOk_any (D := 31) (around 1 x y z q) x y2 z w hE (fun i hi => around_dig (by decide) hq hp i hi) hpo
    have hcr : ∀ i, i < 3 → i ≠ 1 → crd x y2 z i = crd x y z i := by
      intro i hi hne
      have h3 : i = 0 ∨ i = 1 ∨ i = 2 := by omega
      rcases h3 with rfl | rfl | rfl <;> first | rfl | exact absurd rfl hne
    have hg := fun i hi => gone_around 1 (by decide) x y z x y2 z q hcr i hi
    rw [hg 0 (by decide), hg 1 (by decide), hg 2 (by decide)] at h
    subst hA hB hO
    exact h)
  have hpoo := okP_parts hpo
  have CW0 : Hid (∀ w, Calls Tryz.prog 34 #[.int .i64 x] w fun e w' => e = .returned (.string (O 0)) ∧ Below w.heap.size w w') := Lib.hid (by subst hO; exact fun w => refQWhole_any _ w (by omega) (by omega))
  have CW1 : Hid (∀ w, Calls Tryz.prog 34 #[.int .i64 y2] w fun e w' => e = .returned (.string (O 1)) ∧ Below w.heap.size w w') := Lib.hid (by subst hO; exact fun w => refQWhole_any _ w (by omega) (by omega))
  have CW2 : Hid (∀ w, Calls Tryz.prog 34 #[.int .i64 z] w fun e w' => e = .returned (.string (O 2)) ∧ Below w.heap.size w w') := Lib.hid (by subst hO; exact fun w => refQWhole_any _ w (by omega) (by omega))
  have q23 := eq23_same (B 3) (B 4) (B 5); have q23o := eq23_same (O 0) (O 1) (O 2)
  have hsz : ¬ 24 < ((qt q).size : Int) := by omega
  have HE := Lib.hid hE
  clear hE hp hp2 hq hA hA2 hB hO hpo hpoo hk ha hs
  have HX0 := Lib.hid (blk_new w #[.int .i64 x, .int .i64 y, .int .i64 z, .int .i64 x2, .int .i64 y2, .int .i64 z2] 50)
  have HB0 := Lib.hid (below_one w (.cells #[.int .i64 x, .int .i64 y, .int .i64 z, .int .i64 x2, .int .i64 y2, .int .i64 z2] 50))
  go_enter Tryz.func5, Tryz.ntmps5
  go_wp2_with fail
  generalize (w.alloc (.cells #[.int .i64 x, .int .i64 y, .int .i64 z, .int .i64 x2, .int .i64 y2, .int .i64 z2] 50)) = W0 at HX0 HB0 ⊢
  have c0 := HX0.out.cell 0; have c1 := HX0.out.cell 1; have c2 := HX0.out.cell 2; have c3 := HX0.out.cell 3; have c4 := HX0.out.cell 4; have c5 := HX0.out.cell 5
  have l0 := HX0.out.lt
  go_region
  all_goals go_wp2_with fail
  · have hp := ((blk_new W0 #[.int .i64 x, .int .i64 y, .int .i64 z] 27).alloc (.cells #[.int .i64 x2, .int .i64 y2, .int .i64 z2] 27)).drew
    have hq := (blk_new1 W0 (.cells #[.int .i64 x, .int .i64 y, .int .i64 z] 27) #[.int .i64 x2, .int .i64 y2, .int .i64 z2] 27).drew
    have hb := (HB0.out.trans ((below_two W0 (.cells #[.int .i64 x, .int .i64 y, .int .i64 z] 27) (.cells #[.int .i64 x2, .int .i64 y2, .int .i64 z2] 27)).mono HB0.out.size)).drew
    obtain ⟨QB, hQB⟩ : ∃ b, b = W0.heap.size + 1 := ⟨_, rfl⟩
    obtain ⟨PB, hPB⟩ : ∃ b, b = W0.heap.size := ⟨_, rfl⟩
    rw [← hQB] at hq ⊢
    rw [← hPB] at hp ⊢
    have hpq : PB ≠ QB := by omega
    generalize ((W0.alloc (.cells #[.int .i64 x, .int .i64 y, .int .i64 z] 27)).alloc (.cells #[.int .i64 x2, .int .i64 y2, .int .i64 z2] 27)).drew = W1 at hp hq hb ⊢
    have HP1 := Lib.hid hp; have HQ1 := Lib.hid hq; have HB1 := Lib.hid hb; have HPQ := Lib.hid hpq
    clear hp hq hb hpq hPB hQB c0 c1 c2 c3 c4 c5 l0 HX0 HB0
    refine (SP.out _).mono ?_
    rintro e w2 ⟨rfl, hb⟩
    have HB2 := Lib.hid (HB1.out.trans (hb.mono HB1.out.size)); have HP2 := Lib.hid (HP1.out.later hb); have HQ2 := Lib.hid (HQ1.out.later hb); clear hb
    have q0 := HQ2.out.cell 0; have q1 := HQ2.out.cell 1; have q2 := HQ2.out.cell 2
    go_wp2_with fail
    refine (SQ.out _).mono ?_
    rintro e w3 ⟨rfl, hb⟩
    have HB3 := Lib.hid (HB2.out.trans (hb.mono HB2.out.size)); have HP3 := Lib.hid (HP2.out.later hb); have HQ3 := Lib.hid (HQ2.out.later hb); clear hb
    clear q0 q1 q2
    go_wp2_with fail
    refine (CK.out _).mono ?_
    rintro e w4 ⟨rfl, hb⟩
    have HB4 := Lib.hid (HB3.out.trans (hb.mono HB3.out.size)); have HP4 := Lib.hid (HP3.out.later hb); have HQ4 := Lib.hid (HQ3.out.later hb); clear hb
    have p0 := HP4.out.cell 0; have p1 := HP4.out.cell 1; have p2 := HP4.out.cell 2
    go_wp2_with fail
    refine (CA.out _ (HE.out.below HB4.out)).mono ?_
    rintro e w5 ⟨rfl, hb⟩
    have HB5 := Lib.hid ((HB4.out.trans (hb.mono HB4.out.size)).alloc (Nat.le_trans HB4.out.size hb.size) (.cells #[.string (A 0), .string (A 1), .string (A 2), .string (B 3), .string (B 4), .string (B 5)] 25)); have HP5 := Lib.hid ((HP4.out.later hb).alloc (.cells #[.string (A 0), .string (A 1), .string (A 2), .string (B 3), .string (B 4), .string (B 5)] 25)); have HQ5 := Lib.hid ((HQ4.out.later hb).alloc (.cells #[.string (A 0), .string (A 1), .string (A 2), .string (B 3), .string (B 4), .string (B 5)] 25)); have HT5 := Lib.hid (blk_new w5 #[.string (A 0), .string (A 1), .string (A 2), .string (B 3), .string (B 4), .string (B 5)] 25)
    clear hb p0 p1 p2
    have q0 := HQ5.out.cell 0; have q1 := HQ5.out.cell 1; have q2 := HQ5.out.cell 2
    go_wp2_with fail
    refine (CB.out _ (HE.out.below HB5.out)).mono ?_
    rintro e w6 ⟨rfl, hb⟩
    have HB6 := Lib.hid ((HB5.out.trans (hb.mono HB5.out.size)).alloc (Nat.le_trans HB5.out.size hb.size) (.cells #[.string (A2 0), .string (A2 1), .string (A2 2), .string (B 3), .string (B 4), .string (B 5)] 25)); have HP6 := Lib.hid ((HP5.out.later hb).alloc (.cells #[.string (A2 0), .string (A2 1), .string (A2 2), .string (B 3), .string (B 4), .string (B 5)] 25)); have HQ6 := Lib.hid ((HQ5.out.later hb).alloc (.cells #[.string (A2 0), .string (A2 1), .string (A2 2), .string (B 3), .string (B 4), .string (B 5)] 25)); have HT6 := Lib.hid ((HT5.out.later hb).alloc (.cells #[.string (A2 0), .string (A2 1), .string (A2 2), .string (B 3), .string (B 4), .string (B 5)] 25)); have HU6 := Lib.hid (blk_new w6 #[.string (A2 0), .string (A2 1), .string (A2 2), .string (B 3), .string (B 4), .string (B 5)] 25)
    clear hb q0 q1 q2
    have p0 := HP6.out.cell 0; have p1 := HP6.out.cell 1; have p2 := HP6.out.cell 2
    have q0 := HQ6.out.cell 0; have q1 := HQ6.out.cell 1; have q2 := HQ6.out.cell 2
    have t0 := HT6.out.cell 0; have t1 := HT6.out.cell 1; have t2 := HT6.out.cell 2; have t3 := HT6.out.cell 3; have t4 := HT6.out.cell 4; have t5 := HT6.out.cell 5
    have u0 := HU6.out.cell 0; have u1 := HU6.out.cell 1; have u2 := HU6.out.cell 2; have u3 := HU6.out.cell 3; have u4 := HU6.out.cell 4; have u5 := HU6.out.cell 5
    have lq : QB < w6.heap.size + 1 := by have := HQ6.out.lt; simpa using this
    have lt : w5.heap.size < w6.heap.size + 1 := by have := HT6.out.lt; simpa using this
    go_wp2_with fail
    have HB7 := Lib.hid (HB6.out.alloc HB6.out.size (.cells #[.int .i64 x, .int .i64 y2, .int .i64 z] 27)); have HN7 := Lib.hid (blk_new (w6.alloc (.cells #[.string (A2 0), .string (A2 1), .string (A2 2), .string (B 3), .string (B 4), .string (B 5)] 25)) #[.int .i64 x, .int .i64 y2, .int .i64 z] 27)
    refine (CP.out _ (HE.out.below HB7.out)).mono ?_
    rintro e w7 ⟨rfl, hb⟩
    have HB8 := Lib.hid ((HB7.out.trans (hb.mono HB7.out.size)).alloc (Nat.le_trans HB7.out.size hb.size) (.cells #[.string (O 0), .string (O 1), .string (O 2)] 23)); have HN8 := Lib.hid ((HN7.out.later hb).alloc (.cells #[.string (O 0), .string (O 1), .string (O 2)] 23)); have HR8 := Lib.hid (blk_new w7 #[.string (O 0), .string (O 1), .string (O 2)] 23)
    clear hb HT6 HU6 HP6 HQ6 HP5 HQ5 HT5 p0 p1 p2 q0 q1 q2 t0 t1 t2 t3 t4 t5 u0 u1 u2 u3 u4 u5 lq lt
    go_wp2_with fail
    obtain ⟨bN, hbN⟩ : ∃ b, b = w6.heap.size + 1 := ⟨_, rfl⟩
    obtain ⟨bR, hbR⟩ : ∃ b, b = w7.heap.size := ⟨_, rfl⟩
    have hen : (w6.alloc (.cells #[.string (A2 0), .string (A2 1), .string (A2 2), .string (B 3), .string (B 4), .string (B 5)] 25)).heap.size = bN := by rw [hbN]; simp
    rw [hen] at HN8
    rw [← hbR] at HR8
    rw [← hbN, ← hbR]
    clear hbN hbR hen
    generalize (w7.alloc (.cells #[.string (O 0), .string (O 1), .string (O 2)] 23)) = W8 at HB8 HN8 HR8 ⊢
    have n80 := HN8.out.cell 0; have n81 := HN8.out.cell 1; have n82 := HN8.out.cell 2; have r80 := HR8.out.cell 0; have r81 := HR8.out.cell 1; have r82 := HR8.out.cell 2
    go_region_held3 (fun w' => w'.cell? ⟨bN, 0, none⟩ = some (.int .i64 x) ∧ w'.cell? ⟨bN, 1, none⟩ = some (.int .i64 y2) ∧ w'.cell? ⟨bN, 2, none⟩ = some (.int .i64 z) ∧ w'.cell? ⟨bR, 0, none⟩ = some (.string (O 0)) ∧ w'.cell? ⟨bR, 1, none⟩ = some (.string (O 1)) ∧ w'.cell? ⟨bR, 2, none⟩ = some (.string (O 2)))
      (first | go_keep | exact ⟨n80, n81, n82, r80, r81, r82⟩ | exact ⟨na0, na1, na2, ra0, ra1, ra2⟩ | exact ⟨nb0, nb1, nb2, rb0, rb1, rb2⟩ | exact ⟨nc0, nc1, nc2, rc0, rc1, rc2⟩ | exact ⟨nd0, nd1, nd2, rd0, rd1, rd2⟩)
      (first
        | (go_at_call 34; first
          | (have hx := HBb; clear hx; refine (CW2.out _).mono ?_; rintro e wc ⟨rfl, hbc⟩; have HBc := Lib.hid (HBb.out.trans (hbc.mono HBb.out.size)); have HNc := Lib.hid (Blk.later (HNb.out) hbc); have HRc := Lib.hid (Blk.later (HRb.out) hbc); have nc0 := HNc.out.cell 0; have nc1 := HNc.out.cell 1; have nc2 := HNc.out.cell 2; have rc0 := HRc.out.cell 0; have rc1 := HRc.out.cell 1; have rc2 := HRc.out.cell 2; clear hbc)
          | (have hx := HBa; clear hx; refine (CW1.out _).mono ?_; rintro e wb ⟨rfl, hbb⟩; have HBb := Lib.hid (HBa.out.trans (hbb.mono HBa.out.size)); have HNb := Lib.hid (Blk.later (HNa.out) hbb); have HRb := Lib.hid (Blk.later (HRa.out) hbb); have nb0 := HNb.out.cell 0; have nb1 := HNb.out.cell 1; have nb2 := HNb.out.cell 2; have rb0 := HRb.out.cell 0; have rb1 := HRb.out.cell 1; have rb2 := HRb.out.cell 2; clear hbb)
          | (refine (CW0.out _).mono ?_; rintro e wa ⟨rfl, hba⟩; have HBa := Lib.hid (HB8.out.drew.trans (hba.mono HB8.out.drew.size)); have HNa := Lib.hid (Blk.later (HN8.out.drew) hba); have HRa := Lib.hid (Blk.later (HR8.out.drew) hba); have na0 := HNa.out.cell 0; have na1 := HNa.out.cell 1; have na2 := HNa.out.cell 2; have ra0 := HRa.out.cell 0; have ra1 := HRa.out.cell 1; have ra2 := HRa.out.cell 2; clear hba))
        | (go_at_call 20; refine (AW.out _ (HE.out.below HBc.out)).mono ?_; rintro e wd ⟨rfl, hbd⟩; have HBd := Lib.hid (HBc.out.trans (hbd.mono HBc.out.size)); have HNd := Lib.hid (Blk.later (HNc.out) hbd); have HRd := Lib.hid (Blk.later (HRc.out) hbd); have nd0 := HNd.out.cell 0; have nd1 := HNd.out.cell 1; have nd2 := HNd.out.cell 2; have rd0 := HRd.out.cell 0; have rd1 := HRd.out.cell 1; have rd2 := HRd.out.cell 2; clear hbd))
    all_goals
      go_wp2_with fail
      go_ret
      exact ⟨rfl, HBd.out⟩
  · have hp := (blk_new1 W0 (.cells #[.int .i64 x2, .int .i64 y2, .int .i64 z2] 27) #[.int .i64 x, .int .i64 y, .int .i64 z] 27).drew
    have hq := ((blk_new W0 #[.int .i64 x2, .int .i64 y2, .int .i64 z2] 27).alloc (.cells #[.int .i64 x, .int .i64 y, .int .i64 z] 27)).drew
    have hb := (HB0.out.trans ((below_two W0 (.cells #[.int .i64 x2, .int .i64 y2, .int .i64 z2] 27) (.cells #[.int .i64 x, .int .i64 y, .int .i64 z] 27)).mono HB0.out.size)).drew
    obtain ⟨PB, hPB⟩ : ∃ b, b = W0.heap.size + 1 := ⟨_, rfl⟩
    obtain ⟨QB, hQB⟩ : ∃ b, b = W0.heap.size := ⟨_, rfl⟩
    rw [← hPB] at hp ⊢
    rw [← hQB] at hq ⊢
    have hpq : PB ≠ QB := by omega
    generalize ((W0.alloc (.cells #[.int .i64 x2, .int .i64 y2, .int .i64 z2] 27)).alloc (.cells #[.int .i64 x, .int .i64 y, .int .i64 z] 27)).drew = W1 at hp hq hb ⊢
    have HP1 := Lib.hid hp; have HQ1 := Lib.hid hq; have HB1 := Lib.hid hb; have HPQ := Lib.hid hpq
    clear hp hq hb hpq hPB hQB c0 c1 c2 c3 c4 c5 l0 HX0 HB0
    refine (SP.out _).mono ?_
    rintro e w2 ⟨rfl, hb⟩
    have HB2 := Lib.hid (HB1.out.trans (hb.mono HB1.out.size)); have HP2 := Lib.hid (HP1.out.later hb); have HQ2 := Lib.hid (HQ1.out.later hb); clear hb
    have q0 := HQ2.out.cell 0; have q1 := HQ2.out.cell 1; have q2 := HQ2.out.cell 2
    go_wp2_with fail
    refine (SQ.out _).mono ?_
    rintro e w3 ⟨rfl, hb⟩
    have HB3 := Lib.hid (HB2.out.trans (hb.mono HB2.out.size)); have HP3 := Lib.hid (HP2.out.later hb); have HQ3 := Lib.hid (HQ2.out.later hb); clear hb
    clear q0 q1 q2
    go_wp2_with fail
    refine (CK.out _).mono ?_
    rintro e w4 ⟨rfl, hb⟩
    have HB4 := Lib.hid (HB3.out.trans (hb.mono HB3.out.size)); have HP4 := Lib.hid (HP3.out.later hb); have HQ4 := Lib.hid (HQ3.out.later hb); clear hb
    have p0 := HP4.out.cell 0; have p1 := HP4.out.cell 1; have p2 := HP4.out.cell 2
    go_wp2_with fail
    refine (CA.out _ (HE.out.below HB4.out)).mono ?_
    rintro e w5 ⟨rfl, hb⟩
    have HB5 := Lib.hid ((HB4.out.trans (hb.mono HB4.out.size)).alloc (Nat.le_trans HB4.out.size hb.size) (.cells #[.string (A 0), .string (A 1), .string (A 2), .string (B 3), .string (B 4), .string (B 5)] 25)); have HP5 := Lib.hid ((HP4.out.later hb).alloc (.cells #[.string (A 0), .string (A 1), .string (A 2), .string (B 3), .string (B 4), .string (B 5)] 25)); have HQ5 := Lib.hid ((HQ4.out.later hb).alloc (.cells #[.string (A 0), .string (A 1), .string (A 2), .string (B 3), .string (B 4), .string (B 5)] 25)); have HT5 := Lib.hid (blk_new w5 #[.string (A 0), .string (A 1), .string (A 2), .string (B 3), .string (B 4), .string (B 5)] 25)
    clear hb p0 p1 p2
    have q0 := HQ5.out.cell 0; have q1 := HQ5.out.cell 1; have q2 := HQ5.out.cell 2
    go_wp2_with fail
    refine (CB.out _ (HE.out.below HB5.out)).mono ?_
    rintro e w6 ⟨rfl, hb⟩
    have HB6 := Lib.hid ((HB5.out.trans (hb.mono HB5.out.size)).alloc (Nat.le_trans HB5.out.size hb.size) (.cells #[.string (A2 0), .string (A2 1), .string (A2 2), .string (B 3), .string (B 4), .string (B 5)] 25)); have HP6 := Lib.hid ((HP5.out.later hb).alloc (.cells #[.string (A2 0), .string (A2 1), .string (A2 2), .string (B 3), .string (B 4), .string (B 5)] 25)); have HQ6 := Lib.hid ((HQ5.out.later hb).alloc (.cells #[.string (A2 0), .string (A2 1), .string (A2 2), .string (B 3), .string (B 4), .string (B 5)] 25)); have HT6 := Lib.hid ((HT5.out.later hb).alloc (.cells #[.string (A2 0), .string (A2 1), .string (A2 2), .string (B 3), .string (B 4), .string (B 5)] 25)); have HU6 := Lib.hid (blk_new w6 #[.string (A2 0), .string (A2 1), .string (A2 2), .string (B 3), .string (B 4), .string (B 5)] 25)
    clear hb q0 q1 q2
    have p0 := HP6.out.cell 0; have p1 := HP6.out.cell 1; have p2 := HP6.out.cell 2
    have q0 := HQ6.out.cell 0; have q1 := HQ6.out.cell 1; have q2 := HQ6.out.cell 2
    have t0 := HT6.out.cell 0; have t1 := HT6.out.cell 1; have t2 := HT6.out.cell 2; have t3 := HT6.out.cell 3; have t4 := HT6.out.cell 4; have t5 := HT6.out.cell 5
    have u0 := HU6.out.cell 0; have u1 := HU6.out.cell 1; have u2 := HU6.out.cell 2; have u3 := HU6.out.cell 3; have u4 := HU6.out.cell 4; have u5 := HU6.out.cell 5
    have lq : QB < w6.heap.size + 1 := by have := HQ6.out.lt; simpa using this
    have lt : w5.heap.size < w6.heap.size + 1 := by have := HT6.out.lt; simpa using this
    go_wp2_with fail
    have HB7 := Lib.hid (HB6.out.alloc HB6.out.size (.cells #[.int .i64 x, .int .i64 y2, .int .i64 z] 27)); have HN7 := Lib.hid (blk_new (w6.alloc (.cells #[.string (A2 0), .string (A2 1), .string (A2 2), .string (B 3), .string (B 4), .string (B 5)] 25)) #[.int .i64 x, .int .i64 y2, .int .i64 z] 27)
    refine (CP.out _ (HE.out.below HB7.out)).mono ?_
    rintro e w7 ⟨rfl, hb⟩
    have HB8 := Lib.hid ((HB7.out.trans (hb.mono HB7.out.size)).alloc (Nat.le_trans HB7.out.size hb.size) (.cells #[.string (O 0), .string (O 1), .string (O 2)] 23)); have HN8 := Lib.hid ((HN7.out.later hb).alloc (.cells #[.string (O 0), .string (O 1), .string (O 2)] 23)); have HR8 := Lib.hid (blk_new w7 #[.string (O 0), .string (O 1), .string (O 2)] 23)
    clear hb HT6 HU6 HP6 HQ6 HP5 HQ5 HT5 p0 p1 p2 q0 q1 q2 t0 t1 t2 t3 t4 t5 u0 u1 u2 u3 u4 u5 lq lt
    go_wp2_with fail
    obtain ⟨bN, hbN⟩ : ∃ b, b = w6.heap.size + 1 := ⟨_, rfl⟩
    obtain ⟨bR, hbR⟩ : ∃ b, b = w7.heap.size := ⟨_, rfl⟩
    have hen : (w6.alloc (.cells #[.string (A2 0), .string (A2 1), .string (A2 2), .string (B 3), .string (B 4), .string (B 5)] 25)).heap.size = bN := by rw [hbN]; simp
    rw [hen] at HN8
    rw [← hbR] at HR8
    rw [← hbN, ← hbR]
    clear hbN hbR hen
    generalize (w7.alloc (.cells #[.string (O 0), .string (O 1), .string (O 2)] 23)) = W8 at HB8 HN8 HR8 ⊢
    have n80 := HN8.out.cell 0; have n81 := HN8.out.cell 1; have n82 := HN8.out.cell 2; have r80 := HR8.out.cell 0; have r81 := HR8.out.cell 1; have r82 := HR8.out.cell 2
    go_region_held3 (fun w' => w'.cell? ⟨bN, 0, none⟩ = some (.int .i64 x) ∧ w'.cell? ⟨bN, 1, none⟩ = some (.int .i64 y2) ∧ w'.cell? ⟨bN, 2, none⟩ = some (.int .i64 z) ∧ w'.cell? ⟨bR, 0, none⟩ = some (.string (O 0)) ∧ w'.cell? ⟨bR, 1, none⟩ = some (.string (O 1)) ∧ w'.cell? ⟨bR, 2, none⟩ = some (.string (O 2)))
      (first | go_keep | exact ⟨n80, n81, n82, r80, r81, r82⟩ | exact ⟨na0, na1, na2, ra0, ra1, ra2⟩ | exact ⟨nb0, nb1, nb2, rb0, rb1, rb2⟩ | exact ⟨nc0, nc1, nc2, rc0, rc1, rc2⟩ | exact ⟨nd0, nd1, nd2, rd0, rd1, rd2⟩)
      (first
        | (go_at_call 34; first
          | (have hx := HBb; clear hx; refine (CW2.out _).mono ?_; rintro e wc ⟨rfl, hbc⟩; have HBc := Lib.hid (HBb.out.trans (hbc.mono HBb.out.size)); have HNc := Lib.hid (Blk.later (HNb.out) hbc); have HRc := Lib.hid (Blk.later (HRb.out) hbc); have nc0 := HNc.out.cell 0; have nc1 := HNc.out.cell 1; have nc2 := HNc.out.cell 2; have rc0 := HRc.out.cell 0; have rc1 := HRc.out.cell 1; have rc2 := HRc.out.cell 2; clear hbc)
          | (have hx := HBa; clear hx; refine (CW1.out _).mono ?_; rintro e wb ⟨rfl, hbb⟩; have HBb := Lib.hid (HBa.out.trans (hbb.mono HBa.out.size)); have HNb := Lib.hid (Blk.later (HNa.out) hbb); have HRb := Lib.hid (Blk.later (HRa.out) hbb); have nb0 := HNb.out.cell 0; have nb1 := HNb.out.cell 1; have nb2 := HNb.out.cell 2; have rb0 := HRb.out.cell 0; have rb1 := HRb.out.cell 1; have rb2 := HRb.out.cell 2; clear hbb)
          | (refine (CW0.out _).mono ?_; rintro e wa ⟨rfl, hba⟩; have HBa := Lib.hid (HB8.out.drew.trans (hba.mono HB8.out.drew.size)); have HNa := Lib.hid (Blk.later (HN8.out.drew) hba); have HRa := Lib.hid (Blk.later (HR8.out.drew) hba); have na0 := HNa.out.cell 0; have na1 := HNa.out.cell 1; have na2 := HNa.out.cell 2; have ra0 := HRa.out.cell 0; have ra1 := HRa.out.cell 1; have ra2 := HRa.out.cell 2; clear hba))
        | (go_at_call 20; refine (AW.out _ (HE.out.below HBc.out)).mono ?_; rintro e wd ⟨rfl, hbd⟩; have HBd := Lib.hid (HBc.out.trans (hbd.mono HBc.out.size)); have HNd := Lib.hid (Blk.later (HNc.out) hbd); have HRd := Lib.hid (Blk.later (HRc.out) hbd); have nd0 := HNd.out.cell 0; have nd1 := HNd.out.cell 1; have nd2 := HNd.out.cell 2; have rd0 := HRd.out.cell 0; have rd1 := HRd.out.cell 1; have rd2 := HRd.out.cell 2; clear hbd))
    all_goals
      go_wp2_with fail
      go_ret
      exact ⟨rfl, HBd.out⟩
end Go.Proofs.YtbpegjgpdgeadaaGreatDoor
