/- A part of the proof: TorE. Conditions: none. -/
import Derived.Test.YtbpegjgpdgeadaaGreatDoorTorD
namespace Go.Proofs.YtbpegjgpdgeadaaGreatDoor
open Go Go.RowKit Metro
open Go.Lib (nDigits decDigits)

/-- The numbers of a pure turn. -/
def tqf (k : Nat) (q : Rat) (i : Nat) : Rat := if i = 3 + k then q else 0
theorem tqf_set0 (q : Rat) : (#[.string ⟨#[48]⟩, .string ⟨#[48]⟩, .string ⟨#[48]⟩, .string (qt q), .string ⟨#[48]⟩, .string ⟨#[48]⟩] : Array Value) = #[.string (qt (tqf 0 q 0)), .string (qt (tqf 0 q 1)), .string (qt (tqf 0 q 2)), .string (qt (tqf 0 q 3)), .string (qt (tqf 0 q 4)), .string (qt (tqf 0 q 5))] := by
  have e := qt_zero48
  simp [tqf, ← e]

theorem tqf_set1 (q : Rat) : (#[.string ⟨#[48]⟩, .string ⟨#[48]⟩, .string ⟨#[48]⟩, .string ⟨#[48]⟩, .string (qt q), .string ⟨#[48]⟩] : Array Value) = #[.string (qt (tqf 1 q 0)), .string (qt (tqf 1 q 1)), .string (qt (tqf 1 q 2)), .string (qt (tqf 1 q 3)), .string (qt (tqf 1 q 4)), .string (qt (tqf 1 q 5))] := by
  have e := qt_zero48
  simp [tqf, ← e]

theorem tqf_set2 (q : Rat) : (#[.string ⟨#[48]⟩, .string ⟨#[48]⟩, .string ⟨#[48]⟩, .string ⟨#[48]⟩, .string ⟨#[48]⟩, .string (qt q)] : Array Value) = #[.string (qt (tqf 2 q 0)), .string (qt (tqf 2 q 1)), .string (qt (tqf 2 q 2)), .string (qt (tqf 2 q 3)), .string (qt (tqf 2 q 4)), .string (qt (tqf 2 q 5))] := by
  have e := qt_zero48
  simp [tqf, ← e]


/-- The first i numbers of one list, the others of another one. -/
def obC (a t : Nat → ByteArray) (i : Nat) : Array Value := #[.string (if 0 < i then a 0 else t 0), .string (if 1 < i then a 1 else t 1), .string (if 2 < i then a 2 else t 2), .string (t 3), .string (t 4), .string (t 5)]
theorem obC_zero (a t : Nat → ByteArray) : obC a t 0 = #[.string (t 0), .string (t 1), .string (t 2), .string (t 3), .string (t 4), .string (t 5)] := by simp [obC]
theorem obC_three (a t : Nat → ByteArray) : obC a t 3 = #[.string (a 0), .string (a 1), .string (a 2), .string (t 3), .string (t 4), .string (t 5)] := by simp [obC]
theorem obC_set (a t : Nat → ByteArray) {i : Nat} (hi : i < 3) : (obC a t i).setIfInBounds i (.string (a i)) = obC a t (i + 1) := by
  have : i = 0 ∨ i = 1 ∨ i = 2 := by omega
  rcases this with rfl | rfl | rfl <;> simp [obC]

theorem around_low (k : Nat) (x y z : Int) (q : Rat) {i : Nat} (hi : i < 3) : around k x y z q i = -dot6 (frm x y z i) (tqf k q) := by
  have : i = 0 ∨ i = 1 ∨ i = 2 := by omega
  rcases this with rfl | rfl | rfl <;> rfl
theorem around_high (k : Nat) (x y z : Int) (q : Rat) : around k x y z q 3 = tqf k q 3 ∧ around k x y z q 4 = tqf k q 4 ∧ around k x y z q 5 = tqf k q 5 := ⟨rfl, rfl, rfl⟩
theorem tqf_dig {k : Nat} {q : Rat} (h : Dig 24 q) (i : Nat) : Dig 24 (tqf k q i) := by
  unfold tqf; split
  · exact h
  · exact dig_zero _ (by decide)

set_option maxHeartbeats 4000000 in
set_option maxRecDepth 100000 in
/-- The turn about an axis through a right point. -/
theorem about0_any (x y z : Int) (q : Rat) (w : World) (hE : Env w) (hq : Dig 24 q) (hp : okP x y z = true) :
    Calls Tryz.prog 29 #[.int .i64 0, .agg #[.int .i64 x, .int .i64 y, .int .i64 z], .string (qt q)] w fun e w' => e = .returned (.tuple #[.agg #[.string (qt (around 0 x y z q 0)), .string (qt (around 0 x y z q 1)), .string (qt (around 0 x y z q 2)), .string (qt (around 0 x y z q 3)), .string (qt (around 0 x y z q 4)), .string (qt (around 0 x y z q 5))], .int .i64 0]) ∧ Below w.heap.size w w' := by
  have hpp := okP_parts hp
  have CG := Lib.hid (fun w => given_any 0 x y z w)
  rw [if_pos ⟨by omega, by omega⟩, show errP x y z = 0 from by unfold errP; rw [hp]; rfl] at CG
  obtain ⟨tq, htq⟩ : ∃ tq, tq = tqf 0 q := ⟨_, rfl⟩
  obtain ⟨ar, har⟩ : ∃ ar, ar = around 0 x y z q := ⟨_, rfl⟩
  have hq6 : ∀ i, i < 6 → Dig 24 (tq i) := fun i _ => by rw [htq]; exact tqf_dig hq i
  have hal : ∀ i, i < 3 → -dot6 (frm x y z i) tq = ar i := fun i hi => by rw [har, htq]; exact (around_low 0 x y z q hi).symm
  have hah : ar 3 = tq 3 ∧ ar 4 = tq 4 ∧ ar 5 = tq 5 := by rw [har, htq]; exact around_high 0 x y z q
  have CN1 : Hid (∀ g w, Env w → Blk w g #[.string (qt q)] 22 → Calls Tryz.prog 100 #[.slice (some ⟨g, 0, none⟩) 1 1] w fun e w' => e = .returned (.int .i64 0) ∧ Below w.heap.size w w') := Lib.hid (fun g w hE h => by
    have hz : fe (fun _ => qt q) 1 = 0 := fe_qt (q := fun _ => q) (n := 1) (fun _ _ => hq)
    have := canonical_any g 1 (fun _ => qt q) w hE (by decide) (fun i hi => by
      rw [h.cell]
      match i, hi with
      | 0, _ => rfl) (fun _ _ => Nat.le_trans (qt_size (hq.fits (by decide))) (by decide))
    rw [hz] at this
    exact this)
  have ZE := Lib.hid zero_any
  have CF : Hid (∀ i, i < 3 → ∀ w, Calls Tryz.prog 95 #[.int .i64 (i : Nat), .agg #[.int .i64 x, .int .i64 y, .int .i64 z]] w fun E w' => E = .returned (.agg #[.int .i64 (frm x y z i 0), .int .i64 (frm x y z i 1), .int .i64 (frm x y z i 2), .int .i64 (frm x y z i 3), .int .i64 (frm x y z i 4), .int .i64 (frm x y z i 5)]) ∧ Below w.heap.size w w') := Lib.hid (fun i hi w => form_any i hi x y z w hpp.1 hpp.2.1 hpp.2.2)
  have CN := Lib.hid (numbers_any (qt (tq 0)) (qt (tq 1)) (qt (tq 2)) (qt (tq 3)) (qt (tq 4)) (qt (tq 5)))
  have CT : Hid (∀ i w, Env w → Calls Tryz.prog 94 #[.agg #[.int .i64 (frm x y z i 0), .int .i64 (frm x y z i 1), .int .i64 (frm x y z i 2), .int .i64 (frm x y z i 3), .int .i64 (frm x y z i 4), .int .i64 (frm x y z i 5)], .agg #[.string (qt (tq 0)), .string (qt (tq 1)), .string (qt (tq 2)), .string (qt (tq 3)), .string (qt (tq 4)), .string (qt (tq 5))]] w
      fun e w' => e = .returned (.tuple #[.string (qt (dot6 (frm x y z i) tq)), .int .i64 0]) ∧ Below w.heap.size w w') := Lib.hid (fun i w hE => times6_any 6 rfl (frm x y z i) tq w hE (fun j _ => frm_small hp i j) hq6)
  have CNe : Hid (∀ i, i < 3 → ∀ w, Env w → Calls Tryz.prog 107 #[.string (qt (dot6 (frm x y z i) tq))] w fun e w' => QOk (ar i) e w w') := Lib.hid (fun i hi w hE => by
    rw [← hal i hi]
    exact qneg_any _ w hE ((dot_dig (fun j _ => frm_small hp i j) hq6).fits (by decide)))
  have HTS : Hid ((#[.string ⟨#[48]⟩, .string ⟨#[48]⟩, .string ⟨#[48]⟩, .string (qt q), .string ⟨#[48]⟩, .string ⟨#[48]⟩] : Array Value) = #[.string (qt (tq 0)), .string (qt (tq 1)), .string (qt (tq 2)), .string (qt (tq 3)), .string (qt (tq 4)), .string (qt (tq 5))]) := Lib.hid (by rw [htq]; exact tqf_set0 q)
  have GS : Hid (∀ i, i < 3 → (obC (fun i => qt (ar i)) (fun i => qt (tq i)) i).setIfInBounds i (.string (qt (ar i))) = obC (fun i => qt (ar i)) (fun i => qt (tq i)) (i + 1)) := Lib.hid fun i hi => obC_set _ _ hi
  have HAH := Lib.hid hah
  rw [← har]
  have HE := Lib.hid hE
  clear hE hq hp hpp hq6 hal hah htq har
  obtain ⟨N, hN⟩ : ∃ N : Nat, N = 3 := ⟨_, rfl⟩
  have HN := Lib.hid hN
  clear hN
  have HB0 := Lib.hid (below_two w (.cells #[.int .i64 x, .int .i64 y, .int .i64 z] 27) (.cells #[.string ⟨#[]⟩, .string ⟨#[]⟩, .string ⟨#[]⟩, .string ⟨#[]⟩, .string ⟨#[]⟩, .string ⟨#[]⟩] 25))
  have HR0 := Lib.hid (blk_new1 w (.cells #[.int .i64 x, .int .i64 y, .int .i64 z] 27) #[.string ⟨#[]⟩, .string ⟨#[]⟩, .string ⟨#[]⟩, .string ⟨#[]⟩, .string ⟨#[]⟩, .string ⟨#[]⟩] 25)
  have HP0 := Lib.hid ((blk_new w #[.int .i64 x, .int .i64 y, .int .i64 z] 27).alloc (.cells #[.string ⟨#[]⟩, .string ⟨#[]⟩, .string ⟨#[]⟩, .string ⟨#[]⟩, .string ⟨#[]⟩, .string ⟨#[]⟩] 25))
  go_enter Tryz.func29, Tryz.ntmps29
  go_wp2_with fail
  refine (CG.out _).mono ?_
  rintro e w1 ⟨rfl, hb⟩
  have HB1 := Lib.hid (HB0.out.trans (hb.mono HB0.out.size)); have HP1 := Lib.hid (HP0.out.later hb); have HR1 := Lib.hid (HR0.out.later hb)
  clear hb
  go_wp2_with fail
  refine (CN1.out _ _ ?_ (blk_new _ _ _)).mono ?_
  · exact HE.out.below (HB1.out.alloc HB1.out.size _)
  rintro e w2 ⟨rfl, hb⟩
  have HB2 := Lib.hid ((HB1.out.alloc HB1.out.size (.cells #[.string (qt q)] 22)).trans (hb.mono (by have := HB1.out.size; simp; omega))); have HP2 := Lib.hid ((HP1.out.alloc (.cells #[.string (qt q)] 22)).later hb); have HR2 := Lib.hid ((HR1.out.alloc (.cells #[.string (qt q)] 22)).later hb)
  clear hb
  go_wp2_with fail
  refine (ZE.out _).mono ?_
  rintro e w3 ⟨rfl, hb⟩
  have HB3 := Lib.hid (HB2.out.trans (hb.mono HB2.out.size)); have HP3 := Lib.hid (HP2.out.later hb); have HR3 := Lib.hid (HR2.out.later hb)
  clear hb
  go_wp2_with fail
  rw [HTS.out]
  have hbt := HB3.out.size
  have HBs := Lib.hid (((HB3.out.alloc HB3.out.size (.cells #[.string (qt (tq 0)), .string (qt (tq 1)), .string (qt (tq 2)), .string (qt (tq 3)), .string (qt (tq 4)), .string (qt (tq 5))] 25)).alloc (by simp; omega) (.cells #[.string (qt (tq 0)), .string (qt (tq 1)), .string (qt (tq 2)), .string (qt (tq 3)), .string (qt (tq 4)), .string (qt (tq 5))] 25)))
  have HTs := Lib.hid ((blk_new w3 #[.string (qt (tq 0)), .string (qt (tq 1)), .string (qt (tq 2)), .string (qt (tq 3)), .string (qt (tq 4)), .string (qt (tq 5))] 25).alloc (.cells #[.string (qt (tq 0)), .string (qt (tq 1)), .string (qt (tq 2)), .string (qt (tq 3)), .string (qt (tq 4)), .string (qt (tq 5))] 25))
  have HOs := Lib.hid (blk_new1 w3 (.cells #[.string (qt (tq 0)), .string (qt (tq 1)), .string (qt (tq 2)), .string (qt (tq 3)), .string (qt (tq 4)), .string (qt (tq 5))] 25) #[.string (qt (tq 0)), .string (qt (tq 1)), .string (qt (tq 2)), .string (qt (tq 3)), .string (qt (tq 4)), .string (qt (tq 5))] 25)
  have HPs := Lib.hid ((HP3.out.alloc (.cells #[.string (qt (tq 0)), .string (qt (tq 1)), .string (qt (tq 2)), .string (qt (tq 3)), .string (qt (tq 4)), .string (qt (tq 5))] 25)).alloc (.cells #[.string (qt (tq 0)), .string (qt (tq 1)), .string (qt (tq 2)), .string (qt (tq 3)), .string (qt (tq 4)), .string (qt (tq 5))] 25)); have HRs := Lib.hid ((HR3.out.alloc (.cells #[.string (qt (tq 0)), .string (qt (tq 1)), .string (qt (tq 2)), .string (qt (tq 3)), .string (qt (tq 4)), .string (qt (tq 5))] 25)).alloc (.cells #[.string (qt (tq 0)), .string (qt (tq 1)), .string (qt (tq 2)), .string (qt (tq 3)), .string (qt (tq 4)), .string (qt (tq 5))] 25))
  have hlr := HR3.out.lt
  generalize ((w3.alloc (.cells #[.string (qt (tq 0)), .string (qt (tq 1)), .string (qt (tq 2)), .string (qt (tq 3)), .string (qt (tq 4)), .string (qt (tq 5))] 25)).alloc (.cells #[.string (qt (tq 0)), .string (qt (tq 1)), .string (qt (tq 2)), .string (qt (tq 3)), .string (qt (tq 4)), .string (qt (tq 5))] 25)) = W4 at HBs HTs HOs HPs HRs ⊢
  obtain ⟨BO, hBO⟩ : ∃ BO, BO = w3.heap.size + 1 := ⟨_, rfl⟩
  obtain ⟨BT, hBT⟩ : ∃ BT, BT = w3.heap.size := ⟨_, rfl⟩
  rw [← hBO] at HOs ⊢
  rw [← hBT] at HTs ⊢
  rw [← obC_zero (fun i => qt (ar i)) (fun i => qt (tq i))] at HOs
  have HN1 : Hid (BO = BT + 1) := Lib.hid (by omega)
  have HN2 : Hid (w.heap.size + 1 < BT) := Lib.hid (by omega)
  clear hBO hBT hlr hbt
  go_loopg [12, 13, 14, 35] N (fun d _ _ _ i wr => ∃ j : Nat, i = .int .i64 j ∧ j ≤ 3 ∧ d = N - j ∧ Blk wr w.heap.size #[.int .i64 x, .int .i64 y, .int .i64 z] 27 ∧ Blk wr (w.heap.size + 1) #[.string ⟨#[]⟩, .string ⟨#[]⟩, .string ⟨#[]⟩, .string ⟨#[]⟩, .string ⟨#[]⟩, .string ⟨#[]⟩] 25 ∧ Blk wr BT #[.string (qt (tq 0)), .string (qt (tq 1)), .string (qt (tq 2)), .string (qt (tq 3)), .string (qt (tq 4)), .string (qt (tq 5))] 25 ∧ Blk wr BO (obC (fun i => qt (ar i)) (fun i => qt (tq i)) j) 25 ∧ Below w.heap.size w wr)
  case atStart => exact ⟨0, rfl, by decide, rfl, HPs.out, HRs.out, HTs.out, HOs.out, HBs.out⟩
  case round =>
    obtain ⟨j, rfl, hj, rfl, hp, hr, ht, ho, hb⟩ := hrel
    have HT := Lib.hid ht; have HP := Lib.hid hp; have HR := Lib.hid hr; have HO := Lib.hid ho; have HB := Lib.hid hb
    clear ht hp hr ho hb
    by_cases hlt : j < 3
    · have hj' : j = 0 ∨ j = 1 ∨ j = 2 := by omega
      have p0 := HP.out.cell 0; have p1 := HP.out.cell 1; have p2 := HP.out.cell 2; have t0 := HT.out.cell 0; have t1 := HT.out.cell 1; have t2 := HT.out.cell 2; have t3 := HT.out.cell 3; have t4 := HT.out.cell 4; have t5 := HT.out.cell 5
      rcases hj' with rfl | rfl | rfl
      · go_wp2_with fail
        go_region_held3 (fun w' => w'.cell? ⟨w.heap.size, 0, none⟩ = some (.int .i64 x) ∧ w'.cell? ⟨w.heap.size, 1, none⟩ = some (.int .i64 y) ∧ w'.cell? ⟨w.heap.size, 2, none⟩ = some (.int .i64 z) ∧ w'.cell? ⟨BT, 0, none⟩ = some (.string (qt (tq 0))) ∧ w'.cell? ⟨BT, 1, none⟩ = some (.string (qt (tq 1))) ∧ w'.cell? ⟨BT, 2, none⟩ = some (.string (qt (tq 2))) ∧ w'.cell? ⟨BT, 3, none⟩ = some (.string (qt (tq 3))) ∧ w'.cell? ⟨BT, 4, none⟩ = some (.string (qt (tq 4))) ∧ w'.cell? ⟨BT, 5, none⟩ = some (.string (qt (tq 5))))
          (first | go_keep | exact ⟨p0, p1, p2, t0, t1, t2, t3, t4, t5⟩ | exact ⟨ap0, ap1, ap2, at0, at1, at2, at3, at4, at5⟩ | exact ⟨bp0, bp1, bp2, bt0, bt1, bt2, bt3, bt4, bt5⟩ | exact ⟨cp0, cp1, cp2, ct0, ct1, ct2, ct3, ct4, ct5⟩)
          (first
            | (go_at_call 95; refine (CF.out _ (by decide) _).mono ?_; rintro e wn ⟨rfl, hbn⟩; first | (have HBb := Lib.hid (HBa.out.trans (hbn.mono HBa.out.size)); have HTb := Lib.hid (Blk.later (HTa.out) hbn); have HPb := Lib.hid (Blk.later (HPa.out) hbn); have HRb := Lib.hid (Blk.later (HRa.out) hbn); have HOb := Lib.hid (Blk.later (HOa.out) hbn); have bp0 := HPb.out.cell 0; have bp1 := HPb.out.cell 1; have bp2 := HPb.out.cell 2; have bt0 := HTb.out.cell 0; have bt1 := HTb.out.cell 1; have bt2 := HTb.out.cell 2; have bt3 := HTb.out.cell 3; have bt4 := HTb.out.cell 4; have bt5 := HTb.out.cell 5; clear hbn) | (have HBa := Lib.hid (HB.out.drew.trans (hbn.mono HB.out.drew.size)); have HTa := Lib.hid (Blk.later (HT.out.drew) hbn); have HPa := Lib.hid (Blk.later (HP.out.drew) hbn); have HRa := Lib.hid (Blk.later (HR.out.drew) hbn); have HOa := Lib.hid (Blk.later (HO.out.drew) hbn); have ap0 := HPa.out.cell 0; have ap1 := HPa.out.cell 1; have ap2 := HPa.out.cell 2; have at0 := HTa.out.cell 0; have at1 := HTa.out.cell 1; have at2 := HTa.out.cell 2; have at3 := HTa.out.cell 3; have at4 := HTa.out.cell 4; have at5 := HTa.out.cell 5; clear hbn))
            | (go_at_call 96; refine (CN.out _).mono ?_; rintro e wm ⟨rfl, hbm⟩; first | (have HBb := Lib.hid (HBa.out.trans (hbm.mono HBa.out.size)); have HTb := Lib.hid (Blk.later (HTa.out) hbm); have HPb := Lib.hid (Blk.later (HPa.out) hbm); have HRb := Lib.hid (Blk.later (HRa.out) hbm); have HOb := Lib.hid (Blk.later (HOa.out) hbm); have bp0 := HPb.out.cell 0; have bp1 := HPb.out.cell 1; have bp2 := HPb.out.cell 2; have bt0 := HTb.out.cell 0; have bt1 := HTb.out.cell 1; have bt2 := HTb.out.cell 2; have bt3 := HTb.out.cell 3; have bt4 := HTb.out.cell 4; have bt5 := HTb.out.cell 5; clear hbm) | (have HBa := Lib.hid (HB.out.drew.trans (hbm.mono HB.out.drew.size)); have HTa := Lib.hid (Blk.later (HT.out.drew) hbm); have HPa := Lib.hid (Blk.later (HP.out.drew) hbm); have HRa := Lib.hid (Blk.later (HR.out.drew) hbm); have HOa := Lib.hid (Blk.later (HO.out.drew) hbm); have ap0 := HPa.out.cell 0; have ap1 := HPa.out.cell 1; have ap2 := HPa.out.cell 2; have at0 := HTa.out.cell 0; have at1 := HTa.out.cell 1; have at2 := HTa.out.cell 2; have at3 := HTa.out.cell 3; have at4 := HTa.out.cell 4; have at5 := HTa.out.cell 5; clear hbm))
            | (go_at_call 94; refine (CT.out 0 _ (HE.out.below HBb.out)).mono ?_; rintro e wl ⟨rfl, hbl⟩; have HBc := Lib.hid (HBb.out.trans (hbl.mono HBb.out.size)); have HTc := Lib.hid (Blk.later (HTb.out) hbl); have HPc := Lib.hid (Blk.later (HPb.out) hbl); have HRc := Lib.hid (Blk.later (HRb.out) hbl); have HOc := Lib.hid (Blk.later (HOb.out) hbl); have cp0 := HPc.out.cell 0; have cp1 := HPc.out.cell 1; have cp2 := HPc.out.cell 2; have ct0 := HTc.out.cell 0; have ct1 := HTc.out.cell 1; have ct2 := HTc.out.cell 2; have ct3 := HTc.out.cell 3; have ct4 := HTc.out.cell 4; have ct5 := HTc.out.cell 5; clear hbl))
        all_goals
          go_wp2_with fail
          refine (CNe.out 0 (by decide) _ (HE.out.below HBc.out)).mono ?_
          rintro e wi ⟨rfl, hbi⟩
          have HBd := Lib.hid (HBc.out.trans (hbi.mono HBc.out.size)); have HTd := Lib.hid (Blk.later (HTc.out) hbi); have HPd := Lib.hid (Blk.later (HPc.out) hbi); have HRd := Lib.hid (Blk.later (HRc.out) hbi); have HOd := Lib.hid (Blk.later (HOc.out) hbi); clear hbi
          have oK := HOd.out.cell 0
          have fK := HOd.out.free 0
          go_wp2_with fail
          go_roundg (N - (0 + 1))
          case measure => have := HN.out; omega
          case rel =>
            have hn1 := HN1.out; have hn2 := HN2.out
            refine ⟨1, rfl, by decide, rfl, HPd.out.other (by show BO ≠ _; omega) _, HRd.out.other (by show BO ≠ _; omega) _, HTd.out.other (by show BO ≠ _; omega) _, ?_, HBd.out.setCell (p := ⟨BO, 0, none⟩) (by show _ ≤ BO; omega) _⟩
            rw [← GS.out 0 (by decide)]
            exact HOd.out.set 0 _
      · go_wp2_with fail
        go_region_held3 (fun w' => w'.cell? ⟨w.heap.size, 0, none⟩ = some (.int .i64 x) ∧ w'.cell? ⟨w.heap.size, 1, none⟩ = some (.int .i64 y) ∧ w'.cell? ⟨w.heap.size, 2, none⟩ = some (.int .i64 z) ∧ w'.cell? ⟨BT, 0, none⟩ = some (.string (qt (tq 0))) ∧ w'.cell? ⟨BT, 1, none⟩ = some (.string (qt (tq 1))) ∧ w'.cell? ⟨BT, 2, none⟩ = some (.string (qt (tq 2))) ∧ w'.cell? ⟨BT, 3, none⟩ = some (.string (qt (tq 3))) ∧ w'.cell? ⟨BT, 4, none⟩ = some (.string (qt (tq 4))) ∧ w'.cell? ⟨BT, 5, none⟩ = some (.string (qt (tq 5))))
          (first | go_keep | exact ⟨p0, p1, p2, t0, t1, t2, t3, t4, t5⟩ | exact ⟨ap0, ap1, ap2, at0, at1, at2, at3, at4, at5⟩ | exact ⟨bp0, bp1, bp2, bt0, bt1, bt2, bt3, bt4, bt5⟩ | exact ⟨cp0, cp1, cp2, ct0, ct1, ct2, ct3, ct4, ct5⟩)
          (first
            | (go_at_call 95; refine (CF.out _ (by decide) _).mono ?_; rintro e wn ⟨rfl, hbn⟩; first | (have HBb := Lib.hid (HBa.out.trans (hbn.mono HBa.out.size)); have HTb := Lib.hid (Blk.later (HTa.out) hbn); have HPb := Lib.hid (Blk.later (HPa.out) hbn); have HRb := Lib.hid (Blk.later (HRa.out) hbn); have HOb := Lib.hid (Blk.later (HOa.out) hbn); have bp0 := HPb.out.cell 0; have bp1 := HPb.out.cell 1; have bp2 := HPb.out.cell 2; have bt0 := HTb.out.cell 0; have bt1 := HTb.out.cell 1; have bt2 := HTb.out.cell 2; have bt3 := HTb.out.cell 3; have bt4 := HTb.out.cell 4; have bt5 := HTb.out.cell 5; clear hbn) | (have HBa := Lib.hid (HB.out.drew.trans (hbn.mono HB.out.drew.size)); have HTa := Lib.hid (Blk.later (HT.out.drew) hbn); have HPa := Lib.hid (Blk.later (HP.out.drew) hbn); have HRa := Lib.hid (Blk.later (HR.out.drew) hbn); have HOa := Lib.hid (Blk.later (HO.out.drew) hbn); have ap0 := HPa.out.cell 0; have ap1 := HPa.out.cell 1; have ap2 := HPa.out.cell 2; have at0 := HTa.out.cell 0; have at1 := HTa.out.cell 1; have at2 := HTa.out.cell 2; have at3 := HTa.out.cell 3; have at4 := HTa.out.cell 4; have at5 := HTa.out.cell 5; clear hbn))
            | (go_at_call 96; refine (CN.out _).mono ?_; rintro e wm ⟨rfl, hbm⟩; first | (have HBb := Lib.hid (HBa.out.trans (hbm.mono HBa.out.size)); have HTb := Lib.hid (Blk.later (HTa.out) hbm); have HPb := Lib.hid (Blk.later (HPa.out) hbm); have HRb := Lib.hid (Blk.later (HRa.out) hbm); have HOb := Lib.hid (Blk.later (HOa.out) hbm); have bp0 := HPb.out.cell 0; have bp1 := HPb.out.cell 1; have bp2 := HPb.out.cell 2; have bt0 := HTb.out.cell 0; have bt1 := HTb.out.cell 1; have bt2 := HTb.out.cell 2; have bt3 := HTb.out.cell 3; have bt4 := HTb.out.cell 4; have bt5 := HTb.out.cell 5; clear hbm) | (have HBa := Lib.hid (HB.out.drew.trans (hbm.mono HB.out.drew.size)); have HTa := Lib.hid (Blk.later (HT.out.drew) hbm); have HPa := Lib.hid (Blk.later (HP.out.drew) hbm); have HRa := Lib.hid (Blk.later (HR.out.drew) hbm); have HOa := Lib.hid (Blk.later (HO.out.drew) hbm); have ap0 := HPa.out.cell 0; have ap1 := HPa.out.cell 1; have ap2 := HPa.out.cell 2; have at0 := HTa.out.cell 0; have at1 := HTa.out.cell 1; have at2 := HTa.out.cell 2; have at3 := HTa.out.cell 3; have at4 := HTa.out.cell 4; have at5 := HTa.out.cell 5; clear hbm))
            | (go_at_call 94; refine (CT.out 1 _ (HE.out.below HBb.out)).mono ?_; rintro e wl ⟨rfl, hbl⟩; have HBc := Lib.hid (HBb.out.trans (hbl.mono HBb.out.size)); have HTc := Lib.hid (Blk.later (HTb.out) hbl); have HPc := Lib.hid (Blk.later (HPb.out) hbl); have HRc := Lib.hid (Blk.later (HRb.out) hbl); have HOc := Lib.hid (Blk.later (HOb.out) hbl); have cp0 := HPc.out.cell 0; have cp1 := HPc.out.cell 1; have cp2 := HPc.out.cell 2; have ct0 := HTc.out.cell 0; have ct1 := HTc.out.cell 1; have ct2 := HTc.out.cell 2; have ct3 := HTc.out.cell 3; have ct4 := HTc.out.cell 4; have ct5 := HTc.out.cell 5; clear hbl))
        all_goals
          go_wp2_with fail
          refine (CNe.out 1 (by decide) _ (HE.out.below HBc.out)).mono ?_
          rintro e wi ⟨rfl, hbi⟩
          have HBd := Lib.hid (HBc.out.trans (hbi.mono HBc.out.size)); have HTd := Lib.hid (Blk.later (HTc.out) hbi); have HPd := Lib.hid (Blk.later (HPc.out) hbi); have HRd := Lib.hid (Blk.later (HRc.out) hbi); have HOd := Lib.hid (Blk.later (HOc.out) hbi); clear hbi
          have oK := HOd.out.cell 1
          have fK := HOd.out.free 1
          go_wp2_with fail
          go_roundg (N - (1 + 1))
          case measure => have := HN.out; omega
          case rel =>
            have hn1 := HN1.out; have hn2 := HN2.out
            refine ⟨2, rfl, by decide, rfl, HPd.out.other (by show BO ≠ _; omega) _, HRd.out.other (by show BO ≠ _; omega) _, HTd.out.other (by show BO ≠ _; omega) _, ?_, HBd.out.setCell (p := ⟨BO, 1, none⟩) (by show _ ≤ BO; omega) _⟩
            rw [← GS.out 1 (by decide)]
            exact HOd.out.set 1 _
      · go_wp2_with fail
        go_region_held3 (fun w' => w'.cell? ⟨w.heap.size, 0, none⟩ = some (.int .i64 x) ∧ w'.cell? ⟨w.heap.size, 1, none⟩ = some (.int .i64 y) ∧ w'.cell? ⟨w.heap.size, 2, none⟩ = some (.int .i64 z) ∧ w'.cell? ⟨BT, 0, none⟩ = some (.string (qt (tq 0))) ∧ w'.cell? ⟨BT, 1, none⟩ = some (.string (qt (tq 1))) ∧ w'.cell? ⟨BT, 2, none⟩ = some (.string (qt (tq 2))) ∧ w'.cell? ⟨BT, 3, none⟩ = some (.string (qt (tq 3))) ∧ w'.cell? ⟨BT, 4, none⟩ = some (.string (qt (tq 4))) ∧ w'.cell? ⟨BT, 5, none⟩ = some (.string (qt (tq 5))))
          (first | go_keep | exact ⟨p0, p1, p2, t0, t1, t2, t3, t4, t5⟩ | exact ⟨ap0, ap1, ap2, at0, at1, at2, at3, at4, at5⟩ | exact ⟨bp0, bp1, bp2, bt0, bt1, bt2, bt3, bt4, bt5⟩ | exact ⟨cp0, cp1, cp2, ct0, ct1, ct2, ct3, ct4, ct5⟩)
          (first
            | (go_at_call 95; refine (CF.out _ (by decide) _).mono ?_; rintro e wn ⟨rfl, hbn⟩; first | (have HBb := Lib.hid (HBa.out.trans (hbn.mono HBa.out.size)); have HTb := Lib.hid (Blk.later (HTa.out) hbn); have HPb := Lib.hid (Blk.later (HPa.out) hbn); have HRb := Lib.hid (Blk.later (HRa.out) hbn); have HOb := Lib.hid (Blk.later (HOa.out) hbn); have bp0 := HPb.out.cell 0; have bp1 := HPb.out.cell 1; have bp2 := HPb.out.cell 2; have bt0 := HTb.out.cell 0; have bt1 := HTb.out.cell 1; have bt2 := HTb.out.cell 2; have bt3 := HTb.out.cell 3; have bt4 := HTb.out.cell 4; have bt5 := HTb.out.cell 5; clear hbn) | (have HBa := Lib.hid (HB.out.drew.trans (hbn.mono HB.out.drew.size)); have HTa := Lib.hid (Blk.later (HT.out.drew) hbn); have HPa := Lib.hid (Blk.later (HP.out.drew) hbn); have HRa := Lib.hid (Blk.later (HR.out.drew) hbn); have HOa := Lib.hid (Blk.later (HO.out.drew) hbn); have ap0 := HPa.out.cell 0; have ap1 := HPa.out.cell 1; have ap2 := HPa.out.cell 2; have at0 := HTa.out.cell 0; have at1 := HTa.out.cell 1; have at2 := HTa.out.cell 2; have at3 := HTa.out.cell 3; have at4 := HTa.out.cell 4; have at5 := HTa.out.cell 5; clear hbn))
            | (go_at_call 96; refine (CN.out _).mono ?_; rintro e wm ⟨rfl, hbm⟩; first | (have HBb := Lib.hid (HBa.out.trans (hbm.mono HBa.out.size)); have HTb := Lib.hid (Blk.later (HTa.out) hbm); have HPb := Lib.hid (Blk.later (HPa.out) hbm); have HRb := Lib.hid (Blk.later (HRa.out) hbm); have HOb := Lib.hid (Blk.later (HOa.out) hbm); have bp0 := HPb.out.cell 0; have bp1 := HPb.out.cell 1; have bp2 := HPb.out.cell 2; have bt0 := HTb.out.cell 0; have bt1 := HTb.out.cell 1; have bt2 := HTb.out.cell 2; have bt3 := HTb.out.cell 3; have bt4 := HTb.out.cell 4; have bt5 := HTb.out.cell 5; clear hbm) | (have HBa := Lib.hid (HB.out.drew.trans (hbm.mono HB.out.drew.size)); have HTa := Lib.hid (Blk.later (HT.out.drew) hbm); have HPa := Lib.hid (Blk.later (HP.out.drew) hbm); have HRa := Lib.hid (Blk.later (HR.out.drew) hbm); have HOa := Lib.hid (Blk.later (HO.out.drew) hbm); have ap0 := HPa.out.cell 0; have ap1 := HPa.out.cell 1; have ap2 := HPa.out.cell 2; have at0 := HTa.out.cell 0; have at1 := HTa.out.cell 1; have at2 := HTa.out.cell 2; have at3 := HTa.out.cell 3; have at4 := HTa.out.cell 4; have at5 := HTa.out.cell 5; clear hbm))
            | (go_at_call 94; refine (CT.out 2 _ (HE.out.below HBb.out)).mono ?_; rintro e wl ⟨rfl, hbl⟩; have HBc := Lib.hid (HBb.out.trans (hbl.mono HBb.out.size)); have HTc := Lib.hid (Blk.later (HTb.out) hbl); have HPc := Lib.hid (Blk.later (HPb.out) hbl); have HRc := Lib.hid (Blk.later (HRb.out) hbl); have HOc := Lib.hid (Blk.later (HOb.out) hbl); have cp0 := HPc.out.cell 0; have cp1 := HPc.out.cell 1; have cp2 := HPc.out.cell 2; have ct0 := HTc.out.cell 0; have ct1 := HTc.out.cell 1; have ct2 := HTc.out.cell 2; have ct3 := HTc.out.cell 3; have ct4 := HTc.out.cell 4; have ct5 := HTc.out.cell 5; clear hbl))
        all_goals
          go_wp2_with fail
          refine (CNe.out 2 (by decide) _ (HE.out.below HBc.out)).mono ?_
          rintro e wi ⟨rfl, hbi⟩
          have HBd := Lib.hid (HBc.out.trans (hbi.mono HBc.out.size)); have HTd := Lib.hid (Blk.later (HTc.out) hbi); have HPd := Lib.hid (Blk.later (HPc.out) hbi); have HRd := Lib.hid (Blk.later (HRc.out) hbi); have HOd := Lib.hid (Blk.later (HOc.out) hbi); clear hbi
          have oK := HOd.out.cell 2
          have fK := HOd.out.free 2
          go_wp2_with fail
          go_roundg (N - (2 + 1))
          case measure => have := HN.out; omega
          case rel =>
            have hn1 := HN1.out; have hn2 := HN2.out
            refine ⟨3, rfl, by decide, rfl, HPd.out.other (by show BO ≠ _; omega) _, HRd.out.other (by show BO ≠ _; omega) _, HTd.out.other (by show BO ≠ _; omega) _, ?_, HBd.out.setCell (p := ⟨BO, 2, none⟩) (by show _ ≤ BO; omega) _⟩
            rw [← GS.out 2 (by decide)]
            exact HOd.out.set 2 _
    · have hj3 : j = 3 := by omega
      subst hj3
      rw [obC_three] at HO
      have o0 := HO.out.cell 0; have o1 := HO.out.cell 1; have o2 := HO.out.cell 2; have o3 := HO.out.cell 3; have o4 := HO.out.cell 4; have o5 := HO.out.cell 5
      have r0 := HR.out.cell 0; have r1 := HR.out.cell 1; have r2 := HR.out.cell 2; have r3 := HR.out.cell 3; have r4 := HR.out.cell 4; have r5 := HR.out.cell 5
      have f0 := HR.out.free 0; have f1 := HR.out.free 1; have f2 := HR.out.free 2; have f3 := HR.out.free 3; have f4 := HR.out.free 4; have f5 := HR.out.free 5
      go_wp2_with fail
      rw [HAH.out.1, HAH.out.2.1, HAH.out.2.2]
      have hr3 := (Blk.set (Blk.set (Blk.set (Blk.set (Blk.set (Blk.set HR.out 0 (.string (qt (ar 0)))) 1 (.string (qt (ar 1)))) 2 (.string (qt (ar 2)))) 3 (.string (qt (tq 3)))) 4 (.string (qt (tq 4)))) 5 (.string (qt (tq 5))))
      have hb3 := (Below.setCell (p := ⟨w.heap.size + 1, 5, none⟩) (Below.setCell (p := ⟨w.heap.size + 1, 4, none⟩) (Below.setCell (p := ⟨w.heap.size + 1, 3, none⟩) (Below.setCell (p := ⟨w.heap.size + 1, 2, none⟩) (Below.setCell (p := ⟨w.heap.size + 1, 1, none⟩) (Below.setCell (p := ⟨w.heap.size + 1, 0, none⟩) HB.out (by show _ ≤ w.heap.size + 1; omega) (.string (qt (ar 0)))) (by show _ ≤ w.heap.size + 1; omega) (.string (qt (ar 1)))) (by show _ ≤ w.heap.size + 1; omega) (.string (qt (ar 2)))) (by show _ ≤ w.heap.size + 1; omega) (.string (qt (tq 3)))) (by show _ ≤ w.heap.size + 1; omega) (.string (qt (tq 4)))) (by show _ ≤ w.heap.size + 1; omega) (.string (qt (tq 5))))
      generalize ((((((wr.setCell ⟨w.heap.size + 1, 0, none⟩ (.string (qt (ar 0)))).setCell ⟨w.heap.size + 1, 1, none⟩ (.string (qt (ar 1)))).setCell ⟨w.heap.size + 1, 2, none⟩ (.string (qt (ar 2)))).setCell ⟨w.heap.size + 1, 3, none⟩ (.string (qt (tq 3)))).setCell ⟨w.heap.size + 1, 4, none⟩ (.string (qt (tq 4)))).setCell ⟨w.heap.size + 1, 5, none⟩ (.string (qt (tq 5)))) = W3 at hr3 hb3 ⊢
      have s0 := hr3.cell 0; have s1 := hr3.cell 1; have s2 := hr3.cell 2; have s3 := hr3.cell 3; have s4 := hr3.cell 4; have s5 := hr3.cell 5
      exact bodyPost_ret (by simp [results, Tryz.results29, go_sem, s0, s1, s2, s3, s4, s5]; try rfl) rfl ⟨rfl, hb3⟩

set_option maxHeartbeats 4000000 in
set_option maxRecDepth 100000 in
/-- The turn about an axis through a right point. -/
theorem about1_any (x y z : Int) (q : Rat) (w : World) (hE : Env w) (hq : Dig 24 q) (hp : okP x y z = true) :
    Calls Tryz.prog 29 #[.int .i64 1, .agg #[.int .i64 x, .int .i64 y, .int .i64 z], .string (qt q)] w fun e w' => e = .returned (.tuple #[.agg #[.string (qt (around 1 x y z q 0)), .string (qt (around 1 x y z q 1)), .string (qt (around 1 x y z q 2)), .string (qt (around 1 x y z q 3)), .string (qt (around 1 x y z q 4)), .string (qt (around 1 x y z q 5))], .int .i64 0]) ∧ Below w.heap.size w w' := by
  have hpp := okP_parts hp
  have CG := Lib.hid (fun w => given_any 1 x y z w)
  rw [if_pos ⟨by omega, by omega⟩, show errP x y z = 0 from by unfold errP; rw [hp]; rfl] at CG
  obtain ⟨tq, htq⟩ : ∃ tq, tq = tqf 1 q := ⟨_, rfl⟩
  obtain ⟨ar, har⟩ : ∃ ar, ar = around 1 x y z q := ⟨_, rfl⟩
  have hq6 : ∀ i, i < 6 → Dig 24 (tq i) := fun i _ => by rw [htq]; exact tqf_dig hq i
  have hal : ∀ i, i < 3 → -dot6 (frm x y z i) tq = ar i := fun i hi => by rw [har, htq]; exact (around_low 1 x y z q hi).symm
  have hah : ar 3 = tq 3 ∧ ar 4 = tq 4 ∧ ar 5 = tq 5 := by rw [har, htq]; exact around_high 1 x y z q
  have CN1 : Hid (∀ g w, Env w → Blk w g #[.string (qt q)] 22 → Calls Tryz.prog 100 #[.slice (some ⟨g, 0, none⟩) 1 1] w fun e w' => e = .returned (.int .i64 0) ∧ Below w.heap.size w w') := Lib.hid (fun g w hE h => by
    have hz : fe (fun _ => qt q) 1 = 0 := fe_qt (q := fun _ => q) (n := 1) (fun _ _ => hq)
    have := canonical_any g 1 (fun _ => qt q) w hE (by decide) (fun i hi => by
      rw [h.cell]
      match i, hi with
      | 0, _ => rfl) (fun _ _ => Nat.le_trans (qt_size (hq.fits (by decide))) (by decide))
    rw [hz] at this
    exact this)
  have ZE := Lib.hid zero_any
  have CF : Hid (∀ i, i < 3 → ∀ w, Calls Tryz.prog 95 #[.int .i64 (i : Nat), .agg #[.int .i64 x, .int .i64 y, .int .i64 z]] w fun E w' => E = .returned (.agg #[.int .i64 (frm x y z i 0), .int .i64 (frm x y z i 1), .int .i64 (frm x y z i 2), .int .i64 (frm x y z i 3), .int .i64 (frm x y z i 4), .int .i64 (frm x y z i 5)]) ∧ Below w.heap.size w w') := Lib.hid (fun i hi w => form_any i hi x y z w hpp.1 hpp.2.1 hpp.2.2)
  have CN := Lib.hid (numbers_any (qt (tq 0)) (qt (tq 1)) (qt (tq 2)) (qt (tq 3)) (qt (tq 4)) (qt (tq 5)))
  have CT : Hid (∀ i w, Env w → Calls Tryz.prog 94 #[.agg #[.int .i64 (frm x y z i 0), .int .i64 (frm x y z i 1), .int .i64 (frm x y z i 2), .int .i64 (frm x y z i 3), .int .i64 (frm x y z i 4), .int .i64 (frm x y z i 5)], .agg #[.string (qt (tq 0)), .string (qt (tq 1)), .string (qt (tq 2)), .string (qt (tq 3)), .string (qt (tq 4)), .string (qt (tq 5))]] w
      fun e w' => e = .returned (.tuple #[.string (qt (dot6 (frm x y z i) tq)), .int .i64 0]) ∧ Below w.heap.size w w') := Lib.hid (fun i w hE => times6_any 6 rfl (frm x y z i) tq w hE (fun j _ => frm_small hp i j) hq6)
  have CNe : Hid (∀ i, i < 3 → ∀ w, Env w → Calls Tryz.prog 107 #[.string (qt (dot6 (frm x y z i) tq))] w fun e w' => QOk (ar i) e w w') := Lib.hid (fun i hi w hE => by
    rw [← hal i hi]
    exact qneg_any _ w hE ((dot_dig (fun j _ => frm_small hp i j) hq6).fits (by decide)))
  have HTS : Hid ((#[.string ⟨#[48]⟩, .string ⟨#[48]⟩, .string ⟨#[48]⟩, .string ⟨#[48]⟩, .string (qt q), .string ⟨#[48]⟩] : Array Value) = #[.string (qt (tq 0)), .string (qt (tq 1)), .string (qt (tq 2)), .string (qt (tq 3)), .string (qt (tq 4)), .string (qt (tq 5))]) := Lib.hid (by rw [htq]; exact tqf_set1 q)
  have GS : Hid (∀ i, i < 3 → (obC (fun i => qt (ar i)) (fun i => qt (tq i)) i).setIfInBounds i (.string (qt (ar i))) = obC (fun i => qt (ar i)) (fun i => qt (tq i)) (i + 1)) := Lib.hid fun i hi => obC_set _ _ hi
  have HAH := Lib.hid hah
  rw [← har]
  have HE := Lib.hid hE
  clear hE hq hp hpp hq6 hal hah htq har
  obtain ⟨N, hN⟩ : ∃ N : Nat, N = 3 := ⟨_, rfl⟩
  have HN := Lib.hid hN
  clear hN
  have HB0 := Lib.hid (below_two w (.cells #[.int .i64 x, .int .i64 y, .int .i64 z] 27) (.cells #[.string ⟨#[]⟩, .string ⟨#[]⟩, .string ⟨#[]⟩, .string ⟨#[]⟩, .string ⟨#[]⟩, .string ⟨#[]⟩] 25))
  have HR0 := Lib.hid (blk_new1 w (.cells #[.int .i64 x, .int .i64 y, .int .i64 z] 27) #[.string ⟨#[]⟩, .string ⟨#[]⟩, .string ⟨#[]⟩, .string ⟨#[]⟩, .string ⟨#[]⟩, .string ⟨#[]⟩] 25)
  have HP0 := Lib.hid ((blk_new w #[.int .i64 x, .int .i64 y, .int .i64 z] 27).alloc (.cells #[.string ⟨#[]⟩, .string ⟨#[]⟩, .string ⟨#[]⟩, .string ⟨#[]⟩, .string ⟨#[]⟩, .string ⟨#[]⟩] 25))
  go_enter Tryz.func29, Tryz.ntmps29
  go_wp2_with fail
  refine (CG.out _).mono ?_
  rintro e w1 ⟨rfl, hb⟩
  have HB1 := Lib.hid (HB0.out.trans (hb.mono HB0.out.size)); have HP1 := Lib.hid (HP0.out.later hb); have HR1 := Lib.hid (HR0.out.later hb)
  clear hb
  go_wp2_with fail
  refine (CN1.out _ _ ?_ (blk_new _ _ _)).mono ?_
  · exact HE.out.below (HB1.out.alloc HB1.out.size _)
  rintro e w2 ⟨rfl, hb⟩
  have HB2 := Lib.hid ((HB1.out.alloc HB1.out.size (.cells #[.string (qt q)] 22)).trans (hb.mono (by have := HB1.out.size; simp; omega))); have HP2 := Lib.hid ((HP1.out.alloc (.cells #[.string (qt q)] 22)).later hb); have HR2 := Lib.hid ((HR1.out.alloc (.cells #[.string (qt q)] 22)).later hb)
  clear hb
  go_wp2_with fail
  refine (ZE.out _).mono ?_
  rintro e w3 ⟨rfl, hb⟩
  have HB3 := Lib.hid (HB2.out.trans (hb.mono HB2.out.size)); have HP3 := Lib.hid (HP2.out.later hb); have HR3 := Lib.hid (HR2.out.later hb)
  clear hb
  go_wp2_with fail
  rw [HTS.out]
  have hbt := HB3.out.size
  have HBs := Lib.hid (((HB3.out.alloc HB3.out.size (.cells #[.string (qt (tq 0)), .string (qt (tq 1)), .string (qt (tq 2)), .string (qt (tq 3)), .string (qt (tq 4)), .string (qt (tq 5))] 25)).alloc (by simp; omega) (.cells #[.string (qt (tq 0)), .string (qt (tq 1)), .string (qt (tq 2)), .string (qt (tq 3)), .string (qt (tq 4)), .string (qt (tq 5))] 25)))
  have HTs := Lib.hid ((blk_new w3 #[.string (qt (tq 0)), .string (qt (tq 1)), .string (qt (tq 2)), .string (qt (tq 3)), .string (qt (tq 4)), .string (qt (tq 5))] 25).alloc (.cells #[.string (qt (tq 0)), .string (qt (tq 1)), .string (qt (tq 2)), .string (qt (tq 3)), .string (qt (tq 4)), .string (qt (tq 5))] 25))
  have HOs := Lib.hid (blk_new1 w3 (.cells #[.string (qt (tq 0)), .string (qt (tq 1)), .string (qt (tq 2)), .string (qt (tq 3)), .string (qt (tq 4)), .string (qt (tq 5))] 25) #[.string (qt (tq 0)), .string (qt (tq 1)), .string (qt (tq 2)), .string (qt (tq 3)), .string (qt (tq 4)), .string (qt (tq 5))] 25)
  have HPs := Lib.hid ((HP3.out.alloc (.cells #[.string (qt (tq 0)), .string (qt (tq 1)), .string (qt (tq 2)), .string (qt (tq 3)), .string (qt (tq 4)), .string (qt (tq 5))] 25)).alloc (.cells #[.string (qt (tq 0)), .string (qt (tq 1)), .string (qt (tq 2)), .string (qt (tq 3)), .string (qt (tq 4)), .string (qt (tq 5))] 25)); have HRs := Lib.hid ((HR3.out.alloc (.cells #[.string (qt (tq 0)), .string (qt (tq 1)), .string (qt (tq 2)), .string (qt (tq 3)), .string (qt (tq 4)), .string (qt (tq 5))] 25)).alloc (.cells #[.string (qt (tq 0)), .string (qt (tq 1)), .string (qt (tq 2)), .string (qt (tq 3)), .string (qt (tq 4)), .string (qt (tq 5))] 25))
  have hlr := HR3.out.lt
  generalize ((w3.alloc (.cells #[.string (qt (tq 0)), .string (qt (tq 1)), .string (qt (tq 2)), .string (qt (tq 3)), .string (qt (tq 4)), .string (qt (tq 5))] 25)).alloc (.cells #[.string (qt (tq 0)), .string (qt (tq 1)), .string (qt (tq 2)), .string (qt (tq 3)), .string (qt (tq 4)), .string (qt (tq 5))] 25)) = W4 at HBs HTs HOs HPs HRs ⊢
  obtain ⟨BO, hBO⟩ : ∃ BO, BO = w3.heap.size + 1 := ⟨_, rfl⟩
  obtain ⟨BT, hBT⟩ : ∃ BT, BT = w3.heap.size := ⟨_, rfl⟩
  rw [← hBO] at HOs ⊢
  rw [← hBT] at HTs ⊢
  rw [← obC_zero (fun i => qt (ar i)) (fun i => qt (tq i))] at HOs
  have HN1 : Hid (BO = BT + 1) := Lib.hid (by omega)
  have HN2 : Hid (w.heap.size + 1 < BT) := Lib.hid (by omega)
  clear hBO hBT hlr hbt
  go_loopg [12, 13, 14, 35] N (fun d _ _ _ i wr => ∃ j : Nat, i = .int .i64 j ∧ j ≤ 3 ∧ d = N - j ∧ Blk wr w.heap.size #[.int .i64 x, .int .i64 y, .int .i64 z] 27 ∧ Blk wr (w.heap.size + 1) #[.string ⟨#[]⟩, .string ⟨#[]⟩, .string ⟨#[]⟩, .string ⟨#[]⟩, .string ⟨#[]⟩, .string ⟨#[]⟩] 25 ∧ Blk wr BT #[.string (qt (tq 0)), .string (qt (tq 1)), .string (qt (tq 2)), .string (qt (tq 3)), .string (qt (tq 4)), .string (qt (tq 5))] 25 ∧ Blk wr BO (obC (fun i => qt (ar i)) (fun i => qt (tq i)) j) 25 ∧ Below w.heap.size w wr)
  case atStart => exact ⟨0, rfl, by decide, rfl, HPs.out, HRs.out, HTs.out, HOs.out, HBs.out⟩
  case round =>
    obtain ⟨j, rfl, hj, rfl, hp, hr, ht, ho, hb⟩ := hrel
    have HT := Lib.hid ht; have HP := Lib.hid hp; have HR := Lib.hid hr; have HO := Lib.hid ho; have HB := Lib.hid hb
    clear ht hp hr ho hb
    by_cases hlt : j < 3
    · have hj' : j = 0 ∨ j = 1 ∨ j = 2 := by omega
      have p0 := HP.out.cell 0; have p1 := HP.out.cell 1; have p2 := HP.out.cell 2; have t0 := HT.out.cell 0; have t1 := HT.out.cell 1; have t2 := HT.out.cell 2; have t3 := HT.out.cell 3; have t4 := HT.out.cell 4; have t5 := HT.out.cell 5
      rcases hj' with rfl | rfl | rfl
      · go_wp2_with fail
        go_region_held3 (fun w' => w'.cell? ⟨w.heap.size, 0, none⟩ = some (.int .i64 x) ∧ w'.cell? ⟨w.heap.size, 1, none⟩ = some (.int .i64 y) ∧ w'.cell? ⟨w.heap.size, 2, none⟩ = some (.int .i64 z) ∧ w'.cell? ⟨BT, 0, none⟩ = some (.string (qt (tq 0))) ∧ w'.cell? ⟨BT, 1, none⟩ = some (.string (qt (tq 1))) ∧ w'.cell? ⟨BT, 2, none⟩ = some (.string (qt (tq 2))) ∧ w'.cell? ⟨BT, 3, none⟩ = some (.string (qt (tq 3))) ∧ w'.cell? ⟨BT, 4, none⟩ = some (.string (qt (tq 4))) ∧ w'.cell? ⟨BT, 5, none⟩ = some (.string (qt (tq 5))))
          (first | go_keep | exact ⟨p0, p1, p2, t0, t1, t2, t3, t4, t5⟩ | exact ⟨ap0, ap1, ap2, at0, at1, at2, at3, at4, at5⟩ | exact ⟨bp0, bp1, bp2, bt0, bt1, bt2, bt3, bt4, bt5⟩ | exact ⟨cp0, cp1, cp2, ct0, ct1, ct2, ct3, ct4, ct5⟩)
          (first
            | (go_at_call 95; refine (CF.out _ (by decide) _).mono ?_; rintro e wn ⟨rfl, hbn⟩; first | (have HBb := Lib.hid (HBa.out.trans (hbn.mono HBa.out.size)); have HTb := Lib.hid (Blk.later (HTa.out) hbn); have HPb := Lib.hid (Blk.later (HPa.out) hbn); have HRb := Lib.hid (Blk.later (HRa.out) hbn); have HOb := Lib.hid (Blk.later (HOa.out) hbn); have bp0 := HPb.out.cell 0; have bp1 := HPb.out.cell 1; have bp2 := HPb.out.cell 2; have bt0 := HTb.out.cell 0; have bt1 := HTb.out.cell 1; have bt2 := HTb.out.cell 2; have bt3 := HTb.out.cell 3; have bt4 := HTb.out.cell 4; have bt5 := HTb.out.cell 5; clear hbn) | (have HBa := Lib.hid (HB.out.drew.trans (hbn.mono HB.out.drew.size)); have HTa := Lib.hid (Blk.later (HT.out.drew) hbn); have HPa := Lib.hid (Blk.later (HP.out.drew) hbn); have HRa := Lib.hid (Blk.later (HR.out.drew) hbn); have HOa := Lib.hid (Blk.later (HO.out.drew) hbn); have ap0 := HPa.out.cell 0; have ap1 := HPa.out.cell 1; have ap2 := HPa.out.cell 2; have at0 := HTa.out.cell 0; have at1 := HTa.out.cell 1; have at2 := HTa.out.cell 2; have at3 := HTa.out.cell 3; have at4 := HTa.out.cell 4; have at5 := HTa.out.cell 5; clear hbn))
            | (go_at_call 96; refine (CN.out _).mono ?_; rintro e wm ⟨rfl, hbm⟩; first | (have HBb := Lib.hid (HBa.out.trans (hbm.mono HBa.out.size)); have HTb := Lib.hid (Blk.later (HTa.out) hbm); have HPb := Lib.hid (Blk.later (HPa.out) hbm); have HRb := Lib.hid (Blk.later (HRa.out) hbm); have HOb := Lib.hid (Blk.later (HOa.out) hbm); have bp0 := HPb.out.cell 0; have bp1 := HPb.out.cell 1; have bp2 := HPb.out.cell 2; have bt0 := HTb.out.cell 0; have bt1 := HTb.out.cell 1; have bt2 := HTb.out.cell 2; have bt3 := HTb.out.cell 3; have bt4 := HTb.out.cell 4; have bt5 := HTb.out.cell 5; clear hbm) | (have HBa := Lib.hid (HB.out.drew.trans (hbm.mono HB.out.drew.size)); have HTa := Lib.hid (Blk.later (HT.out.drew) hbm); have HPa := Lib.hid (Blk.later (HP.out.drew) hbm); have HRa := Lib.hid (Blk.later (HR.out.drew) hbm); have HOa := Lib.hid (Blk.later (HO.out.drew) hbm); have ap0 := HPa.out.cell 0; have ap1 := HPa.out.cell 1; have ap2 := HPa.out.cell 2; have at0 := HTa.out.cell 0; have at1 := HTa.out.cell 1; have at2 := HTa.out.cell 2; have at3 := HTa.out.cell 3; have at4 := HTa.out.cell 4; have at5 := HTa.out.cell 5; clear hbm))
            | (go_at_call 94; refine (CT.out 0 _ (HE.out.below HBb.out)).mono ?_; rintro e wl ⟨rfl, hbl⟩; have HBc := Lib.hid (HBb.out.trans (hbl.mono HBb.out.size)); have HTc := Lib.hid (Blk.later (HTb.out) hbl); have HPc := Lib.hid (Blk.later (HPb.out) hbl); have HRc := Lib.hid (Blk.later (HRb.out) hbl); have HOc := Lib.hid (Blk.later (HOb.out) hbl); have cp0 := HPc.out.cell 0; have cp1 := HPc.out.cell 1; have cp2 := HPc.out.cell 2; have ct0 := HTc.out.cell 0; have ct1 := HTc.out.cell 1; have ct2 := HTc.out.cell 2; have ct3 := HTc.out.cell 3; have ct4 := HTc.out.cell 4; have ct5 := HTc.out.cell 5; clear hbl))
        all_goals
          go_wp2_with fail
          refine (CNe.out 0 (by decide) _ (HE.out.below HBc.out)).mono ?_
          rintro e wi ⟨rfl, hbi⟩
          have HBd := Lib.hid (HBc.out.trans (hbi.mono HBc.out.size)); have HTd := Lib.hid (Blk.later (HTc.out) hbi); have HPd := Lib.hid (Blk.later (HPc.out) hbi); have HRd := Lib.hid (Blk.later (HRc.out) hbi); have HOd := Lib.hid (Blk.later (HOc.out) hbi); clear hbi
          have oK := HOd.out.cell 0
          have fK := HOd.out.free 0
          go_wp2_with fail
          go_roundg (N - (0 + 1))
          case measure => have := HN.out; omega
          case rel =>
            have hn1 := HN1.out; have hn2 := HN2.out
            refine ⟨1, rfl, by decide, rfl, HPd.out.other (by show BO ≠ _; omega) _, HRd.out.other (by show BO ≠ _; omega) _, HTd.out.other (by show BO ≠ _; omega) _, ?_, HBd.out.setCell (p := ⟨BO, 0, none⟩) (by show _ ≤ BO; omega) _⟩
            rw [← GS.out 0 (by decide)]
            exact HOd.out.set 0 _
      · go_wp2_with fail
        go_region_held3 (fun w' => w'.cell? ⟨w.heap.size, 0, none⟩ = some (.int .i64 x) ∧ w'.cell? ⟨w.heap.size, 1, none⟩ = some (.int .i64 y) ∧ w'.cell? ⟨w.heap.size, 2, none⟩ = some (.int .i64 z) ∧ w'.cell? ⟨BT, 0, none⟩ = some (.string (qt (tq 0))) ∧ w'.cell? ⟨BT, 1, none⟩ = some (.string (qt (tq 1))) ∧ w'.cell? ⟨BT, 2, none⟩ = some (.string (qt (tq 2))) ∧ w'.cell? ⟨BT, 3, none⟩ = some (.string (qt (tq 3))) ∧ w'.cell? ⟨BT, 4, none⟩ = some (.string (qt (tq 4))) ∧ w'.cell? ⟨BT, 5, none⟩ = some (.string (qt (tq 5))))
          (first | go_keep | exact ⟨p0, p1, p2, t0, t1, t2, t3, t4, t5⟩ | exact ⟨ap0, ap1, ap2, at0, at1, at2, at3, at4, at5⟩ | exact ⟨bp0, bp1, bp2, bt0, bt1, bt2, bt3, bt4, bt5⟩ | exact ⟨cp0, cp1, cp2, ct0, ct1, ct2, ct3, ct4, ct5⟩)
          (first
            | (go_at_call 95; refine (CF.out _ (by decide) _).mono ?_; rintro e wn ⟨rfl, hbn⟩; first | (have HBb := Lib.hid (HBa.out.trans (hbn.mono HBa.out.size)); have HTb := Lib.hid (Blk.later (HTa.out) hbn); have HPb := Lib.hid (Blk.later (HPa.out) hbn); have HRb := Lib.hid (Blk.later (HRa.out) hbn); have HOb := Lib.hid (Blk.later (HOa.out) hbn); have bp0 := HPb.out.cell 0; have bp1 := HPb.out.cell 1; have bp2 := HPb.out.cell 2; have bt0 := HTb.out.cell 0; have bt1 := HTb.out.cell 1; have bt2 := HTb.out.cell 2; have bt3 := HTb.out.cell 3; have bt4 := HTb.out.cell 4; have bt5 := HTb.out.cell 5; clear hbn) | (have HBa := Lib.hid (HB.out.drew.trans (hbn.mono HB.out.drew.size)); have HTa := Lib.hid (Blk.later (HT.out.drew) hbn); have HPa := Lib.hid (Blk.later (HP.out.drew) hbn); have HRa := Lib.hid (Blk.later (HR.out.drew) hbn); have HOa := Lib.hid (Blk.later (HO.out.drew) hbn); have ap0 := HPa.out.cell 0; have ap1 := HPa.out.cell 1; have ap2 := HPa.out.cell 2; have at0 := HTa.out.cell 0; have at1 := HTa.out.cell 1; have at2 := HTa.out.cell 2; have at3 := HTa.out.cell 3; have at4 := HTa.out.cell 4; have at5 := HTa.out.cell 5; clear hbn))
            | (go_at_call 96; refine (CN.out _).mono ?_; rintro e wm ⟨rfl, hbm⟩; first | (have HBb := Lib.hid (HBa.out.trans (hbm.mono HBa.out.size)); have HTb := Lib.hid (Blk.later (HTa.out) hbm); have HPb := Lib.hid (Blk.later (HPa.out) hbm); have HRb := Lib.hid (Blk.later (HRa.out) hbm); have HOb := Lib.hid (Blk.later (HOa.out) hbm); have bp0 := HPb.out.cell 0; have bp1 := HPb.out.cell 1; have bp2 := HPb.out.cell 2; have bt0 := HTb.out.cell 0; have bt1 := HTb.out.cell 1; have bt2 := HTb.out.cell 2; have bt3 := HTb.out.cell 3; have bt4 := HTb.out.cell 4; have bt5 := HTb.out.cell 5; clear hbm) | (have HBa := Lib.hid (HB.out.drew.trans (hbm.mono HB.out.drew.size)); have HTa := Lib.hid (Blk.later (HT.out.drew) hbm); have HPa := Lib.hid (Blk.later (HP.out.drew) hbm); have HRa := Lib.hid (Blk.later (HR.out.drew) hbm); have HOa := Lib.hid (Blk.later (HO.out.drew) hbm); have ap0 := HPa.out.cell 0; have ap1 := HPa.out.cell 1; have ap2 := HPa.out.cell 2; have at0 := HTa.out.cell 0; have at1 := HTa.out.cell 1; have at2 := HTa.out.cell 2; have at3 := HTa.out.cell 3; have at4 := HTa.out.cell 4; have at5 := HTa.out.cell 5; clear hbm))
            | (go_at_call 94; refine (CT.out 1 _ (HE.out.below HBb.out)).mono ?_; rintro e wl ⟨rfl, hbl⟩; have HBc := Lib.hid (HBb.out.trans (hbl.mono HBb.out.size)); have HTc := Lib.hid (Blk.later (HTb.out) hbl); have HPc := Lib.hid (Blk.later (HPb.out) hbl); have HRc := Lib.hid (Blk.later (HRb.out) hbl); have HOc := Lib.hid (Blk.later (HOb.out) hbl); have cp0 := HPc.out.cell 0; have cp1 := HPc.out.cell 1; have cp2 := HPc.out.cell 2; have ct0 := HTc.out.cell 0; have ct1 := HTc.out.cell 1; have ct2 := HTc.out.cell 2; have ct3 := HTc.out.cell 3; have ct4 := HTc.out.cell 4; have ct5 := HTc.out.cell 5; clear hbl))
        all_goals
          go_wp2_with fail
          refine (CNe.out 1 (by decide) _ (HE.out.below HBc.out)).mono ?_
          rintro e wi ⟨rfl, hbi⟩
          have HBd := Lib.hid (HBc.out.trans (hbi.mono HBc.out.size)); have HTd := Lib.hid (Blk.later (HTc.out) hbi); have HPd := Lib.hid (Blk.later (HPc.out) hbi); have HRd := Lib.hid (Blk.later (HRc.out) hbi); have HOd := Lib.hid (Blk.later (HOc.out) hbi); clear hbi
          have oK := HOd.out.cell 1
          have fK := HOd.out.free 1
          go_wp2_with fail
          go_roundg (N - (1 + 1))
          case measure => have := HN.out; omega
          case rel =>
            have hn1 := HN1.out; have hn2 := HN2.out
            refine ⟨2, rfl, by decide, rfl, HPd.out.other (by show BO ≠ _; omega) _, HRd.out.other (by show BO ≠ _; omega) _, HTd.out.other (by show BO ≠ _; omega) _, ?_, HBd.out.setCell (p := ⟨BO, 1, none⟩) (by show _ ≤ BO; omega) _⟩
            rw [← GS.out 1 (by decide)]
            exact HOd.out.set 1 _
      · go_wp2_with fail
        go_region_held3 (fun w' => w'.cell? ⟨w.heap.size, 0, none⟩ = some (.int .i64 x) ∧ w'.cell? ⟨w.heap.size, 1, none⟩ = some (.int .i64 y) ∧ w'.cell? ⟨w.heap.size, 2, none⟩ = some (.int .i64 z) ∧ w'.cell? ⟨BT, 0, none⟩ = some (.string (qt (tq 0))) ∧ w'.cell? ⟨BT, 1, none⟩ = some (.string (qt (tq 1))) ∧ w'.cell? ⟨BT, 2, none⟩ = some (.string (qt (tq 2))) ∧ w'.cell? ⟨BT, 3, none⟩ = some (.string (qt (tq 3))) ∧ w'.cell? ⟨BT, 4, none⟩ = some (.string (qt (tq 4))) ∧ w'.cell? ⟨BT, 5, none⟩ = some (.string (qt (tq 5))))
          (first | go_keep | exact ⟨p0, p1, p2, t0, t1, t2, t3, t4, t5⟩ | exact ⟨ap0, ap1, ap2, at0, at1, at2, at3, at4, at5⟩ | exact ⟨bp0, bp1, bp2, bt0, bt1, bt2, bt3, bt4, bt5⟩ | exact ⟨cp0, cp1, cp2, ct0, ct1, ct2, ct3, ct4, ct5⟩)
          (first
            | (go_at_call 95; refine (CF.out _ (by decide) _).mono ?_; rintro e wn ⟨rfl, hbn⟩; first | (have HBb := Lib.hid (HBa.out.trans (hbn.mono HBa.out.size)); have HTb := Lib.hid (Blk.later (HTa.out) hbn); have HPb := Lib.hid (Blk.later (HPa.out) hbn); have HRb := Lib.hid (Blk.later (HRa.out) hbn); have HOb := Lib.hid (Blk.later (HOa.out) hbn); have bp0 := HPb.out.cell 0; have bp1 := HPb.out.cell 1; have bp2 := HPb.out.cell 2; have bt0 := HTb.out.cell 0; have bt1 := HTb.out.cell 1; have bt2 := HTb.out.cell 2; have bt3 := HTb.out.cell 3; have bt4 := HTb.out.cell 4; have bt5 := HTb.out.cell 5; clear hbn) | (have HBa := Lib.hid (HB.out.drew.trans (hbn.mono HB.out.drew.size)); have HTa := Lib.hid (Blk.later (HT.out.drew) hbn); have HPa := Lib.hid (Blk.later (HP.out.drew) hbn); have HRa := Lib.hid (Blk.later (HR.out.drew) hbn); have HOa := Lib.hid (Blk.later (HO.out.drew) hbn); have ap0 := HPa.out.cell 0; have ap1 := HPa.out.cell 1; have ap2 := HPa.out.cell 2; have at0 := HTa.out.cell 0; have at1 := HTa.out.cell 1; have at2 := HTa.out.cell 2; have at3 := HTa.out.cell 3; have at4 := HTa.out.cell 4; have at5 := HTa.out.cell 5; clear hbn))
            | (go_at_call 96; refine (CN.out _).mono ?_; rintro e wm ⟨rfl, hbm⟩; first | (have HBb := Lib.hid (HBa.out.trans (hbm.mono HBa.out.size)); have HTb := Lib.hid (Blk.later (HTa.out) hbm); have HPb := Lib.hid (Blk.later (HPa.out) hbm); have HRb := Lib.hid (Blk.later (HRa.out) hbm); have HOb := Lib.hid (Blk.later (HOa.out) hbm); have bp0 := HPb.out.cell 0; have bp1 := HPb.out.cell 1; have bp2 := HPb.out.cell 2; have bt0 := HTb.out.cell 0; have bt1 := HTb.out.cell 1; have bt2 := HTb.out.cell 2; have bt3 := HTb.out.cell 3; have bt4 := HTb.out.cell 4; have bt5 := HTb.out.cell 5; clear hbm) | (have HBa := Lib.hid (HB.out.drew.trans (hbm.mono HB.out.drew.size)); have HTa := Lib.hid (Blk.later (HT.out.drew) hbm); have HPa := Lib.hid (Blk.later (HP.out.drew) hbm); have HRa := Lib.hid (Blk.later (HR.out.drew) hbm); have HOa := Lib.hid (Blk.later (HO.out.drew) hbm); have ap0 := HPa.out.cell 0; have ap1 := HPa.out.cell 1; have ap2 := HPa.out.cell 2; have at0 := HTa.out.cell 0; have at1 := HTa.out.cell 1; have at2 := HTa.out.cell 2; have at3 := HTa.out.cell 3; have at4 := HTa.out.cell 4; have at5 := HTa.out.cell 5; clear hbm))
            | (go_at_call 94; refine (CT.out 2 _ (HE.out.below HBb.out)).mono ?_; rintro e wl ⟨rfl, hbl⟩; have HBc := Lib.hid (HBb.out.trans (hbl.mono HBb.out.size)); have HTc := Lib.hid (Blk.later (HTb.out) hbl); have HPc := Lib.hid (Blk.later (HPb.out) hbl); have HRc := Lib.hid (Blk.later (HRb.out) hbl); have HOc := Lib.hid (Blk.later (HOb.out) hbl); have cp0 := HPc.out.cell 0; have cp1 := HPc.out.cell 1; have cp2 := HPc.out.cell 2; have ct0 := HTc.out.cell 0; have ct1 := HTc.out.cell 1; have ct2 := HTc.out.cell 2; have ct3 := HTc.out.cell 3; have ct4 := HTc.out.cell 4; have ct5 := HTc.out.cell 5; clear hbl))
        all_goals
          go_wp2_with fail
          refine (CNe.out 2 (by decide) _ (HE.out.below HBc.out)).mono ?_
          rintro e wi ⟨rfl, hbi⟩
          have HBd := Lib.hid (HBc.out.trans (hbi.mono HBc.out.size)); have HTd := Lib.hid (Blk.later (HTc.out) hbi); have HPd := Lib.hid (Blk.later (HPc.out) hbi); have HRd := Lib.hid (Blk.later (HRc.out) hbi); have HOd := Lib.hid (Blk.later (HOc.out) hbi); clear hbi
          have oK := HOd.out.cell 2
          have fK := HOd.out.free 2
          go_wp2_with fail
          go_roundg (N - (2 + 1))
          case measure => have := HN.out; omega
          case rel =>
            have hn1 := HN1.out; have hn2 := HN2.out
            refine ⟨3, rfl, by decide, rfl, HPd.out.other (by show BO ≠ _; omega) _, HRd.out.other (by show BO ≠ _; omega) _, HTd.out.other (by show BO ≠ _; omega) _, ?_, HBd.out.setCell (p := ⟨BO, 2, none⟩) (by show _ ≤ BO; omega) _⟩
            rw [← GS.out 2 (by decide)]
            exact HOd.out.set 2 _
    · have hj3 : j = 3 := by omega
      subst hj3
      rw [obC_three] at HO
      have o0 := HO.out.cell 0; have o1 := HO.out.cell 1; have o2 := HO.out.cell 2; have o3 := HO.out.cell 3; have o4 := HO.out.cell 4; have o5 := HO.out.cell 5
      have r0 := HR.out.cell 0; have r1 := HR.out.cell 1; have r2 := HR.out.cell 2; have r3 := HR.out.cell 3; have r4 := HR.out.cell 4; have r5 := HR.out.cell 5
      have f0 := HR.out.free 0; have f1 := HR.out.free 1; have f2 := HR.out.free 2; have f3 := HR.out.free 3; have f4 := HR.out.free 4; have f5 := HR.out.free 5
      go_wp2_with fail
      rw [HAH.out.1, HAH.out.2.1, HAH.out.2.2]
      have hr3 := (Blk.set (Blk.set (Blk.set (Blk.set (Blk.set (Blk.set HR.out 0 (.string (qt (ar 0)))) 1 (.string (qt (ar 1)))) 2 (.string (qt (ar 2)))) 3 (.string (qt (tq 3)))) 4 (.string (qt (tq 4)))) 5 (.string (qt (tq 5))))
      have hb3 := (Below.setCell (p := ⟨w.heap.size + 1, 5, none⟩) (Below.setCell (p := ⟨w.heap.size + 1, 4, none⟩) (Below.setCell (p := ⟨w.heap.size + 1, 3, none⟩) (Below.setCell (p := ⟨w.heap.size + 1, 2, none⟩) (Below.setCell (p := ⟨w.heap.size + 1, 1, none⟩) (Below.setCell (p := ⟨w.heap.size + 1, 0, none⟩) HB.out (by show _ ≤ w.heap.size + 1; omega) (.string (qt (ar 0)))) (by show _ ≤ w.heap.size + 1; omega) (.string (qt (ar 1)))) (by show _ ≤ w.heap.size + 1; omega) (.string (qt (ar 2)))) (by show _ ≤ w.heap.size + 1; omega) (.string (qt (tq 3)))) (by show _ ≤ w.heap.size + 1; omega) (.string (qt (tq 4)))) (by show _ ≤ w.heap.size + 1; omega) (.string (qt (tq 5))))
      generalize ((((((wr.setCell ⟨w.heap.size + 1, 0, none⟩ (.string (qt (ar 0)))).setCell ⟨w.heap.size + 1, 1, none⟩ (.string (qt (ar 1)))).setCell ⟨w.heap.size + 1, 2, none⟩ (.string (qt (ar 2)))).setCell ⟨w.heap.size + 1, 3, none⟩ (.string (qt (tq 3)))).setCell ⟨w.heap.size + 1, 4, none⟩ (.string (qt (tq 4)))).setCell ⟨w.heap.size + 1, 5, none⟩ (.string (qt (tq 5)))) = W3 at hr3 hb3 ⊢
      have s0 := hr3.cell 0; have s1 := hr3.cell 1; have s2 := hr3.cell 2; have s3 := hr3.cell 3; have s4 := hr3.cell 4; have s5 := hr3.cell 5
      exact bodyPost_ret (by simp [results, Tryz.results29, go_sem, s0, s1, s2, s3, s4, s5]; try rfl) rfl ⟨rfl, hb3⟩

set_option maxHeartbeats 4000000 in
set_option maxRecDepth 100000 in
/-- The turn about an axis through a right point. -/
theorem about2_any (x y z : Int) (q : Rat) (w : World) (hE : Env w) (hq : Dig 24 q) (hp : okP x y z = true) :
    Calls Tryz.prog 29 #[.int .i64 2, .agg #[.int .i64 x, .int .i64 y, .int .i64 z], .string (qt q)] w fun e w' => e = .returned (.tuple #[.agg #[.string (qt (around 2 x y z q 0)), .string (qt (around 2 x y z q 1)), .string (qt (around 2 x y z q 2)), .string (qt (around 2 x y z q 3)), .string (qt (around 2 x y z q 4)), .string (qt (around 2 x y z q 5))], .int .i64 0]) ∧ Below w.heap.size w w' := by
  have hpp := okP_parts hp
  have CG := Lib.hid (fun w => given_any 2 x y z w)
  rw [if_pos ⟨by omega, by omega⟩, show errP x y z = 0 from by unfold errP; rw [hp]; rfl] at CG
  obtain ⟨tq, htq⟩ : ∃ tq, tq = tqf 2 q := ⟨_, rfl⟩
  obtain ⟨ar, har⟩ : ∃ ar, ar = around 2 x y z q := ⟨_, rfl⟩
  have hq6 : ∀ i, i < 6 → Dig 24 (tq i) := fun i _ => by rw [htq]; exact tqf_dig hq i
  have hal : ∀ i, i < 3 → -dot6 (frm x y z i) tq = ar i := fun i hi => by rw [har, htq]; exact (around_low 2 x y z q hi).symm
  have hah : ar 3 = tq 3 ∧ ar 4 = tq 4 ∧ ar 5 = tq 5 := by rw [har, htq]; exact around_high 2 x y z q
  have CN1 : Hid (∀ g w, Env w → Blk w g #[.string (qt q)] 22 → Calls Tryz.prog 100 #[.slice (some ⟨g, 0, none⟩) 1 1] w fun e w' => e = .returned (.int .i64 0) ∧ Below w.heap.size w w') := Lib.hid (fun g w hE h => by
    have hz : fe (fun _ => qt q) 1 = 0 := fe_qt (q := fun _ => q) (n := 1) (fun _ _ => hq)
    have := canonical_any g 1 (fun _ => qt q) w hE (by decide) (fun i hi => by
      rw [h.cell]
      match i, hi with
      | 0, _ => rfl) (fun _ _ => Nat.le_trans (qt_size (hq.fits (by decide))) (by decide))
    rw [hz] at this
    exact this)
  have ZE := Lib.hid zero_any
  have CF : Hid (∀ i, i < 3 → ∀ w, Calls Tryz.prog 95 #[.int .i64 (i : Nat), .agg #[.int .i64 x, .int .i64 y, .int .i64 z]] w fun E w' => E = .returned (.agg #[.int .i64 (frm x y z i 0), .int .i64 (frm x y z i 1), .int .i64 (frm x y z i 2), .int .i64 (frm x y z i 3), .int .i64 (frm x y z i 4), .int .i64 (frm x y z i 5)]) ∧ Below w.heap.size w w') := Lib.hid (fun i hi w => form_any i hi x y z w hpp.1 hpp.2.1 hpp.2.2)
  have CN := Lib.hid (numbers_any (qt (tq 0)) (qt (tq 1)) (qt (tq 2)) (qt (tq 3)) (qt (tq 4)) (qt (tq 5)))
  have CT : Hid (∀ i w, Env w → Calls Tryz.prog 94 #[.agg #[.int .i64 (frm x y z i 0), .int .i64 (frm x y z i 1), .int .i64 (frm x y z i 2), .int .i64 (frm x y z i 3), .int .i64 (frm x y z i 4), .int .i64 (frm x y z i 5)], .agg #[.string (qt (tq 0)), .string (qt (tq 1)), .string (qt (tq 2)), .string (qt (tq 3)), .string (qt (tq 4)), .string (qt (tq 5))]] w
      fun e w' => e = .returned (.tuple #[.string (qt (dot6 (frm x y z i) tq)), .int .i64 0]) ∧ Below w.heap.size w w') := Lib.hid (fun i w hE => times6_any 6 rfl (frm x y z i) tq w hE (fun j _ => frm_small hp i j) hq6)
  have CNe : Hid (∀ i, i < 3 → ∀ w, Env w → Calls Tryz.prog 107 #[.string (qt (dot6 (frm x y z i) tq))] w fun e w' => QOk (ar i) e w w') := Lib.hid (fun i hi w hE => by
    rw [← hal i hi]
    exact qneg_any _ w hE ((dot_dig (fun j _ => frm_small hp i j) hq6).fits (by decide)))
  have HTS : Hid ((#[.string ⟨#[48]⟩, .string ⟨#[48]⟩, .string ⟨#[48]⟩, .string ⟨#[48]⟩, .string ⟨#[48]⟩, .string (qt q)] : Array Value) = #[.string (qt (tq 0)), .string (qt (tq 1)), .string (qt (tq 2)), .string (qt (tq 3)), .string (qt (tq 4)), .string (qt (tq 5))]) := Lib.hid (by rw [htq]; exact tqf_set2 q)
  have GS : Hid (∀ i, i < 3 → (obC (fun i => qt (ar i)) (fun i => qt (tq i)) i).setIfInBounds i (.string (qt (ar i))) = obC (fun i => qt (ar i)) (fun i => qt (tq i)) (i + 1)) := Lib.hid fun i hi => obC_set _ _ hi
  have HAH := Lib.hid hah
  rw [← har]
  have HE := Lib.hid hE
  clear hE hq hp hpp hq6 hal hah htq har
  obtain ⟨N, hN⟩ : ∃ N : Nat, N = 3 := ⟨_, rfl⟩
  have HN := Lib.hid hN
  clear hN
  have HB0 := Lib.hid (below_two w (.cells #[.int .i64 x, .int .i64 y, .int .i64 z] 27) (.cells #[.string ⟨#[]⟩, .string ⟨#[]⟩, .string ⟨#[]⟩, .string ⟨#[]⟩, .string ⟨#[]⟩, .string ⟨#[]⟩] 25))
  have HR0 := Lib.hid (blk_new1 w (.cells #[.int .i64 x, .int .i64 y, .int .i64 z] 27) #[.string ⟨#[]⟩, .string ⟨#[]⟩, .string ⟨#[]⟩, .string ⟨#[]⟩, .string ⟨#[]⟩, .string ⟨#[]⟩] 25)
  have HP0 := Lib.hid ((blk_new w #[.int .i64 x, .int .i64 y, .int .i64 z] 27).alloc (.cells #[.string ⟨#[]⟩, .string ⟨#[]⟩, .string ⟨#[]⟩, .string ⟨#[]⟩, .string ⟨#[]⟩, .string ⟨#[]⟩] 25))
  go_enter Tryz.func29, Tryz.ntmps29
  go_wp2_with fail
  refine (CG.out _).mono ?_
  rintro e w1 ⟨rfl, hb⟩
  have HB1 := Lib.hid (HB0.out.trans (hb.mono HB0.out.size)); have HP1 := Lib.hid (HP0.out.later hb); have HR1 := Lib.hid (HR0.out.later hb)
  clear hb
  go_wp2_with fail
  refine (CN1.out _ _ ?_ (blk_new _ _ _)).mono ?_
  · exact HE.out.below (HB1.out.alloc HB1.out.size _)
  rintro e w2 ⟨rfl, hb⟩
  have HB2 := Lib.hid ((HB1.out.alloc HB1.out.size (.cells #[.string (qt q)] 22)).trans (hb.mono (by have := HB1.out.size; simp; omega))); have HP2 := Lib.hid ((HP1.out.alloc (.cells #[.string (qt q)] 22)).later hb); have HR2 := Lib.hid ((HR1.out.alloc (.cells #[.string (qt q)] 22)).later hb)
  clear hb
  go_wp2_with fail
  refine (ZE.out _).mono ?_
  rintro e w3 ⟨rfl, hb⟩
  have HB3 := Lib.hid (HB2.out.trans (hb.mono HB2.out.size)); have HP3 := Lib.hid (HP2.out.later hb); have HR3 := Lib.hid (HR2.out.later hb)
  clear hb
  go_wp2_with fail
  rw [HTS.out]
  have hbt := HB3.out.size
  have HBs := Lib.hid (((HB3.out.alloc HB3.out.size (.cells #[.string (qt (tq 0)), .string (qt (tq 1)), .string (qt (tq 2)), .string (qt (tq 3)), .string (qt (tq 4)), .string (qt (tq 5))] 25)).alloc (by simp; omega) (.cells #[.string (qt (tq 0)), .string (qt (tq 1)), .string (qt (tq 2)), .string (qt (tq 3)), .string (qt (tq 4)), .string (qt (tq 5))] 25)))
  have HTs := Lib.hid ((blk_new w3 #[.string (qt (tq 0)), .string (qt (tq 1)), .string (qt (tq 2)), .string (qt (tq 3)), .string (qt (tq 4)), .string (qt (tq 5))] 25).alloc (.cells #[.string (qt (tq 0)), .string (qt (tq 1)), .string (qt (tq 2)), .string (qt (tq 3)), .string (qt (tq 4)), .string (qt (tq 5))] 25))
  have HOs := Lib.hid (blk_new1 w3 (.cells #[.string (qt (tq 0)), .string (qt (tq 1)), .string (qt (tq 2)), .string (qt (tq 3)), .string (qt (tq 4)), .string (qt (tq 5))] 25) #[.string (qt (tq 0)), .string (qt (tq 1)), .string (qt (tq 2)), .string (qt (tq 3)), .string (qt (tq 4)), .string (qt (tq 5))] 25)
  have HPs := Lib.hid ((HP3.out.alloc (.cells #[.string (qt (tq 0)), .string (qt (tq 1)), .string (qt (tq 2)), .string (qt (tq 3)), .string (qt (tq 4)), .string (qt (tq 5))] 25)).alloc (.cells #[.string (qt (tq 0)), .string (qt (tq 1)), .string (qt (tq 2)), .string (qt (tq 3)), .string (qt (tq 4)), .string (qt (tq 5))] 25)); have HRs := Lib.hid ((HR3.out.alloc (.cells #[.string (qt (tq 0)), .string (qt (tq 1)), .string (qt (tq 2)), .string (qt (tq 3)), .string (qt (tq 4)), .string (qt (tq 5))] 25)).alloc (.cells #[.string (qt (tq 0)), .string (qt (tq 1)), .string (qt (tq 2)), .string (qt (tq 3)), .string (qt (tq 4)), .string (qt (tq 5))] 25))
  have hlr := HR3.out.lt
  generalize ((w3.alloc (.cells #[.string (qt (tq 0)), .string (qt (tq 1)), .string (qt (tq 2)), .string (qt (tq 3)), .string (qt (tq 4)), .string (qt (tq 5))] 25)).alloc (.cells #[.string (qt (tq 0)), .string (qt (tq 1)), .string (qt (tq 2)), .string (qt (tq 3)), .string (qt (tq 4)), .string (qt (tq 5))] 25)) = W4 at HBs HTs HOs HPs HRs ⊢
  obtain ⟨BO, hBO⟩ : ∃ BO, BO = w3.heap.size + 1 := ⟨_, rfl⟩
  obtain ⟨BT, hBT⟩ : ∃ BT, BT = w3.heap.size := ⟨_, rfl⟩
  rw [← hBO] at HOs ⊢
  rw [← hBT] at HTs ⊢
  rw [← obC_zero (fun i => qt (ar i)) (fun i => qt (tq i))] at HOs
  have HN1 : Hid (BO = BT + 1) := Lib.hid (by omega)
  have HN2 : Hid (w.heap.size + 1 < BT) := Lib.hid (by omega)
  clear hBO hBT hlr hbt
  go_loopg [12, 13, 14, 35] N (fun d _ _ _ i wr => ∃ j : Nat, i = .int .i64 j ∧ j ≤ 3 ∧ d = N - j ∧ Blk wr w.heap.size #[.int .i64 x, .int .i64 y, .int .i64 z] 27 ∧ Blk wr (w.heap.size + 1) #[.string ⟨#[]⟩, .string ⟨#[]⟩, .string ⟨#[]⟩, .string ⟨#[]⟩, .string ⟨#[]⟩, .string ⟨#[]⟩] 25 ∧ Blk wr BT #[.string (qt (tq 0)), .string (qt (tq 1)), .string (qt (tq 2)), .string (qt (tq 3)), .string (qt (tq 4)), .string (qt (tq 5))] 25 ∧ Blk wr BO (obC (fun i => qt (ar i)) (fun i => qt (tq i)) j) 25 ∧ Below w.heap.size w wr)
  case atStart => exact ⟨0, rfl, by decide, rfl, HPs.out, HRs.out, HTs.out, HOs.out, HBs.out⟩
  case round =>
    obtain ⟨j, rfl, hj, rfl, hp, hr, ht, ho, hb⟩ := hrel
    have HT := Lib.hid ht; have HP := Lib.hid hp; have HR := Lib.hid hr; have HO := Lib.hid ho; have HB := Lib.hid hb
    clear ht hp hr ho hb
    by_cases hlt : j < 3
    · have hj' : j = 0 ∨ j = 1 ∨ j = 2 := by omega
      have p0 := HP.out.cell 0; have p1 := HP.out.cell 1; have p2 := HP.out.cell 2; have t0 := HT.out.cell 0; have t1 := HT.out.cell 1; have t2 := HT.out.cell 2; have t3 := HT.out.cell 3; have t4 := HT.out.cell 4; have t5 := HT.out.cell 5
      rcases hj' with rfl | rfl | rfl
      · go_wp2_with fail
        go_region_held3 (fun w' => w'.cell? ⟨w.heap.size, 0, none⟩ = some (.int .i64 x) ∧ w'.cell? ⟨w.heap.size, 1, none⟩ = some (.int .i64 y) ∧ w'.cell? ⟨w.heap.size, 2, none⟩ = some (.int .i64 z) ∧ w'.cell? ⟨BT, 0, none⟩ = some (.string (qt (tq 0))) ∧ w'.cell? ⟨BT, 1, none⟩ = some (.string (qt (tq 1))) ∧ w'.cell? ⟨BT, 2, none⟩ = some (.string (qt (tq 2))) ∧ w'.cell? ⟨BT, 3, none⟩ = some (.string (qt (tq 3))) ∧ w'.cell? ⟨BT, 4, none⟩ = some (.string (qt (tq 4))) ∧ w'.cell? ⟨BT, 5, none⟩ = some (.string (qt (tq 5))))
          (first | go_keep | exact ⟨p0, p1, p2, t0, t1, t2, t3, t4, t5⟩ | exact ⟨ap0, ap1, ap2, at0, at1, at2, at3, at4, at5⟩ | exact ⟨bp0, bp1, bp2, bt0, bt1, bt2, bt3, bt4, bt5⟩ | exact ⟨cp0, cp1, cp2, ct0, ct1, ct2, ct3, ct4, ct5⟩)
          (first
            | (go_at_call 95; refine (CF.out _ (by decide) _).mono ?_; rintro e wn ⟨rfl, hbn⟩; first | (have HBb := Lib.hid (HBa.out.trans (hbn.mono HBa.out.size)); have HTb := Lib.hid (Blk.later (HTa.out) hbn); have HPb := Lib.hid (Blk.later (HPa.out) hbn); have HRb := Lib.hid (Blk.later (HRa.out) hbn); have HOb := Lib.hid (Blk.later (HOa.out) hbn); have bp0 := HPb.out.cell 0; have bp1 := HPb.out.cell 1; have bp2 := HPb.out.cell 2; have bt0 := HTb.out.cell 0; have bt1 := HTb.out.cell 1; have bt2 := HTb.out.cell 2; have bt3 := HTb.out.cell 3; have bt4 := HTb.out.cell 4; have bt5 := HTb.out.cell 5; clear hbn) | (have HBa := Lib.hid (HB.out.drew.trans (hbn.mono HB.out.drew.size)); have HTa := Lib.hid (Blk.later (HT.out.drew) hbn); have HPa := Lib.hid (Blk.later (HP.out.drew) hbn); have HRa := Lib.hid (Blk.later (HR.out.drew) hbn); have HOa := Lib.hid (Blk.later (HO.out.drew) hbn); have ap0 := HPa.out.cell 0; have ap1 := HPa.out.cell 1; have ap2 := HPa.out.cell 2; have at0 := HTa.out.cell 0; have at1 := HTa.out.cell 1; have at2 := HTa.out.cell 2; have at3 := HTa.out.cell 3; have at4 := HTa.out.cell 4; have at5 := HTa.out.cell 5; clear hbn))
            | (go_at_call 96; refine (CN.out _).mono ?_; rintro e wm ⟨rfl, hbm⟩; first | (have HBb := Lib.hid (HBa.out.trans (hbm.mono HBa.out.size)); have HTb := Lib.hid (Blk.later (HTa.out) hbm); have HPb := Lib.hid (Blk.later (HPa.out) hbm); have HRb := Lib.hid (Blk.later (HRa.out) hbm); have HOb := Lib.hid (Blk.later (HOa.out) hbm); have bp0 := HPb.out.cell 0; have bp1 := HPb.out.cell 1; have bp2 := HPb.out.cell 2; have bt0 := HTb.out.cell 0; have bt1 := HTb.out.cell 1; have bt2 := HTb.out.cell 2; have bt3 := HTb.out.cell 3; have bt4 := HTb.out.cell 4; have bt5 := HTb.out.cell 5; clear hbm) | (have HBa := Lib.hid (HB.out.drew.trans (hbm.mono HB.out.drew.size)); have HTa := Lib.hid (Blk.later (HT.out.drew) hbm); have HPa := Lib.hid (Blk.later (HP.out.drew) hbm); have HRa := Lib.hid (Blk.later (HR.out.drew) hbm); have HOa := Lib.hid (Blk.later (HO.out.drew) hbm); have ap0 := HPa.out.cell 0; have ap1 := HPa.out.cell 1; have ap2 := HPa.out.cell 2; have at0 := HTa.out.cell 0; have at1 := HTa.out.cell 1; have at2 := HTa.out.cell 2; have at3 := HTa.out.cell 3; have at4 := HTa.out.cell 4; have at5 := HTa.out.cell 5; clear hbm))
            | (go_at_call 94; refine (CT.out 0 _ (HE.out.below HBb.out)).mono ?_; rintro e wl ⟨rfl, hbl⟩; have HBc := Lib.hid (HBb.out.trans (hbl.mono HBb.out.size)); have HTc := Lib.hid (Blk.later (HTb.out) hbl); have HPc := Lib.hid (Blk.later (HPb.out) hbl); have HRc := Lib.hid (Blk.later (HRb.out) hbl); have HOc := Lib.hid (Blk.later (HOb.out) hbl); have cp0 := HPc.out.cell 0; have cp1 := HPc.out.cell 1; have cp2 := HPc.out.cell 2; have ct0 := HTc.out.cell 0; have ct1 := HTc.out.cell 1; have ct2 := HTc.out.cell 2; have ct3 := HTc.out.cell 3; have ct4 := HTc.out.cell 4; have ct5 := HTc.out.cell 5; clear hbl))
        all_goals
          go_wp2_with fail
          refine (CNe.out 0 (by decide) _ (HE.out.below HBc.out)).mono ?_
          rintro e wi ⟨rfl, hbi⟩
          have HBd := Lib.hid (HBc.out.trans (hbi.mono HBc.out.size)); have HTd := Lib.hid (Blk.later (HTc.out) hbi); have HPd := Lib.hid (Blk.later (HPc.out) hbi); have HRd := Lib.hid (Blk.later (HRc.out) hbi); have HOd := Lib.hid (Blk.later (HOc.out) hbi); clear hbi
          have oK := HOd.out.cell 0
          have fK := HOd.out.free 0
          go_wp2_with fail
          go_roundg (N - (0 + 1))
          case measure => have := HN.out; omega
          case rel =>
            have hn1 := HN1.out; have hn2 := HN2.out
            refine ⟨1, rfl, by decide, rfl, HPd.out.other (by show BO ≠ _; omega) _, HRd.out.other (by show BO ≠ _; omega) _, HTd.out.other (by show BO ≠ _; omega) _, ?_, HBd.out.setCell (p := ⟨BO, 0, none⟩) (by show _ ≤ BO; omega) _⟩
            rw [← GS.out 0 (by decide)]
            exact HOd.out.set 0 _
      · go_wp2_with fail
        go_region_held3 (fun w' => w'.cell? ⟨w.heap.size, 0, none⟩ = some (.int .i64 x) ∧ w'.cell? ⟨w.heap.size, 1, none⟩ = some (.int .i64 y) ∧ w'.cell? ⟨w.heap.size, 2, none⟩ = some (.int .i64 z) ∧ w'.cell? ⟨BT, 0, none⟩ = some (.string (qt (tq 0))) ∧ w'.cell? ⟨BT, 1, none⟩ = some (.string (qt (tq 1))) ∧ w'.cell? ⟨BT, 2, none⟩ = some (.string (qt (tq 2))) ∧ w'.cell? ⟨BT, 3, none⟩ = some (.string (qt (tq 3))) ∧ w'.cell? ⟨BT, 4, none⟩ = some (.string (qt (tq 4))) ∧ w'.cell? ⟨BT, 5, none⟩ = some (.string (qt (tq 5))))
          (first | go_keep | exact ⟨p0, p1, p2, t0, t1, t2, t3, t4, t5⟩ | exact ⟨ap0, ap1, ap2, at0, at1, at2, at3, at4, at5⟩ | exact ⟨bp0, bp1, bp2, bt0, bt1, bt2, bt3, bt4, bt5⟩ | exact ⟨cp0, cp1, cp2, ct0, ct1, ct2, ct3, ct4, ct5⟩)
          (first
            | (go_at_call 95; refine (CF.out _ (by decide) _).mono ?_; rintro e wn ⟨rfl, hbn⟩; first | (have HBb := Lib.hid (HBa.out.trans (hbn.mono HBa.out.size)); have HTb := Lib.hid (Blk.later (HTa.out) hbn); have HPb := Lib.hid (Blk.later (HPa.out) hbn); have HRb := Lib.hid (Blk.later (HRa.out) hbn); have HOb := Lib.hid (Blk.later (HOa.out) hbn); have bp0 := HPb.out.cell 0; have bp1 := HPb.out.cell 1; have bp2 := HPb.out.cell 2; have bt0 := HTb.out.cell 0; have bt1 := HTb.out.cell 1; have bt2 := HTb.out.cell 2; have bt3 := HTb.out.cell 3; have bt4 := HTb.out.cell 4; have bt5 := HTb.out.cell 5; clear hbn) | (have HBa := Lib.hid (HB.out.drew.trans (hbn.mono HB.out.drew.size)); have HTa := Lib.hid (Blk.later (HT.out.drew) hbn); have HPa := Lib.hid (Blk.later (HP.out.drew) hbn); have HRa := Lib.hid (Blk.later (HR.out.drew) hbn); have HOa := Lib.hid (Blk.later (HO.out.drew) hbn); have ap0 := HPa.out.cell 0; have ap1 := HPa.out.cell 1; have ap2 := HPa.out.cell 2; have at0 := HTa.out.cell 0; have at1 := HTa.out.cell 1; have at2 := HTa.out.cell 2; have at3 := HTa.out.cell 3; have at4 := HTa.out.cell 4; have at5 := HTa.out.cell 5; clear hbn))
            | (go_at_call 96; refine (CN.out _).mono ?_; rintro e wm ⟨rfl, hbm⟩; first | (have HBb := Lib.hid (HBa.out.trans (hbm.mono HBa.out.size)); have HTb := Lib.hid (Blk.later (HTa.out) hbm); have HPb := Lib.hid (Blk.later (HPa.out) hbm); have HRb := Lib.hid (Blk.later (HRa.out) hbm); have HOb := Lib.hid (Blk.later (HOa.out) hbm); have bp0 := HPb.out.cell 0; have bp1 := HPb.out.cell 1; have bp2 := HPb.out.cell 2; have bt0 := HTb.out.cell 0; have bt1 := HTb.out.cell 1; have bt2 := HTb.out.cell 2; have bt3 := HTb.out.cell 3; have bt4 := HTb.out.cell 4; have bt5 := HTb.out.cell 5; clear hbm) | (have HBa := Lib.hid (HB.out.drew.trans (hbm.mono HB.out.drew.size)); have HTa := Lib.hid (Blk.later (HT.out.drew) hbm); have HPa := Lib.hid (Blk.later (HP.out.drew) hbm); have HRa := Lib.hid (Blk.later (HR.out.drew) hbm); have HOa := Lib.hid (Blk.later (HO.out.drew) hbm); have ap0 := HPa.out.cell 0; have ap1 := HPa.out.cell 1; have ap2 := HPa.out.cell 2; have at0 := HTa.out.cell 0; have at1 := HTa.out.cell 1; have at2 := HTa.out.cell 2; have at3 := HTa.out.cell 3; have at4 := HTa.out.cell 4; have at5 := HTa.out.cell 5; clear hbm))
            | (go_at_call 94; refine (CT.out 1 _ (HE.out.below HBb.out)).mono ?_; rintro e wl ⟨rfl, hbl⟩; have HBc := Lib.hid (HBb.out.trans (hbl.mono HBb.out.size)); have HTc := Lib.hid (Blk.later (HTb.out) hbl); have HPc := Lib.hid (Blk.later (HPb.out) hbl); have HRc := Lib.hid (Blk.later (HRb.out) hbl); have HOc := Lib.hid (Blk.later (HOb.out) hbl); have cp0 := HPc.out.cell 0; have cp1 := HPc.out.cell 1; have cp2 := HPc.out.cell 2; have ct0 := HTc.out.cell 0; have ct1 := HTc.out.cell 1; have ct2 := HTc.out.cell 2; have ct3 := HTc.out.cell 3; have ct4 := HTc.out.cell 4; have ct5 := HTc.out.cell 5; clear hbl))
        all_goals
          go_wp2_with fail
          refine (CNe.out 1 (by decide) _ (HE.out.below HBc.out)).mono ?_
          rintro e wi ⟨rfl, hbi⟩
          have HBd := Lib.hid (HBc.out.trans (hbi.mono HBc.out.size)); have HTd := Lib.hid (Blk.later (HTc.out) hbi); have HPd := Lib.hid (Blk.later (HPc.out) hbi); have HRd := Lib.hid (Blk.later (HRc.out) hbi); have HOd := Lib.hid (Blk.later (HOc.out) hbi); clear hbi
          have oK := HOd.out.cell 1
          have fK := HOd.out.free 1
          go_wp2_with fail
          go_roundg (N - (1 + 1))
          case measure => have := HN.out; omega
          case rel =>
            have hn1 := HN1.out; have hn2 := HN2.out
            refine ⟨2, rfl, by decide, rfl, HPd.out.other (by show BO ≠ _; omega) _, HRd.out.other (by show BO ≠ _; omega) _, HTd.out.other (by show BO ≠ _; omega) _, ?_, HBd.out.setCell (p := ⟨BO, 1, none⟩) (by show _ ≤ BO; omega) _⟩
            rw [← GS.out 1 (by decide)]
            exact HOd.out.set 1 _
      · go_wp2_with fail
        go_region_held3 (fun w' => w'.cell? ⟨w.heap.size, 0, none⟩ = some (.int .i64 x) ∧ w'.cell? ⟨w.heap.size, 1, none⟩ = some (.int .i64 y) ∧ w'.cell? ⟨w.heap.size, 2, none⟩ = some (.int .i64 z) ∧ w'.cell? ⟨BT, 0, none⟩ = some (.string (qt (tq 0))) ∧ w'.cell? ⟨BT, 1, none⟩ = some (.string (qt (tq 1))) ∧ w'.cell? ⟨BT, 2, none⟩ = some (.string (qt (tq 2))) ∧ w'.cell? ⟨BT, 3, none⟩ = some (.string (qt (tq 3))) ∧ w'.cell? ⟨BT, 4, none⟩ = some (.string (qt (tq 4))) ∧ w'.cell? ⟨BT, 5, none⟩ = some (.string (qt (tq 5))))
          (first | go_keep | exact ⟨p0, p1, p2, t0, t1, t2, t3, t4, t5⟩ | exact ⟨ap0, ap1, ap2, at0, at1, at2, at3, at4, at5⟩ | exact ⟨bp0, bp1, bp2, bt0, bt1, bt2, bt3, bt4, bt5⟩ | exact ⟨cp0, cp1, cp2, ct0, ct1, ct2, ct3, ct4, ct5⟩)
          (first
            | (go_at_call 95; refine (CF.out _ (by decide) _).mono ?_; rintro e wn ⟨rfl, hbn⟩; first | (have HBb := Lib.hid (HBa.out.trans (hbn.mono HBa.out.size)); have HTb := Lib.hid (Blk.later (HTa.out) hbn); have HPb := Lib.hid (Blk.later (HPa.out) hbn); have HRb := Lib.hid (Blk.later (HRa.out) hbn); have HOb := Lib.hid (Blk.later (HOa.out) hbn); have bp0 := HPb.out.cell 0; have bp1 := HPb.out.cell 1; have bp2 := HPb.out.cell 2; have bt0 := HTb.out.cell 0; have bt1 := HTb.out.cell 1; have bt2 := HTb.out.cell 2; have bt3 := HTb.out.cell 3; have bt4 := HTb.out.cell 4; have bt5 := HTb.out.cell 5; clear hbn) | (have HBa := Lib.hid (HB.out.drew.trans (hbn.mono HB.out.drew.size)); have HTa := Lib.hid (Blk.later (HT.out.drew) hbn); have HPa := Lib.hid (Blk.later (HP.out.drew) hbn); have HRa := Lib.hid (Blk.later (HR.out.drew) hbn); have HOa := Lib.hid (Blk.later (HO.out.drew) hbn); have ap0 := HPa.out.cell 0; have ap1 := HPa.out.cell 1; have ap2 := HPa.out.cell 2; have at0 := HTa.out.cell 0; have at1 := HTa.out.cell 1; have at2 := HTa.out.cell 2; have at3 := HTa.out.cell 3; have at4 := HTa.out.cell 4; have at5 := HTa.out.cell 5; clear hbn))
            | (go_at_call 96; refine (CN.out _).mono ?_; rintro e wm ⟨rfl, hbm⟩; first | (have HBb := Lib.hid (HBa.out.trans (hbm.mono HBa.out.size)); have HTb := Lib.hid (Blk.later (HTa.out) hbm); have HPb := Lib.hid (Blk.later (HPa.out) hbm); have HRb := Lib.hid (Blk.later (HRa.out) hbm); have HOb := Lib.hid (Blk.later (HOa.out) hbm); have bp0 := HPb.out.cell 0; have bp1 := HPb.out.cell 1; have bp2 := HPb.out.cell 2; have bt0 := HTb.out.cell 0; have bt1 := HTb.out.cell 1; have bt2 := HTb.out.cell 2; have bt3 := HTb.out.cell 3; have bt4 := HTb.out.cell 4; have bt5 := HTb.out.cell 5; clear hbm) | (have HBa := Lib.hid (HB.out.drew.trans (hbm.mono HB.out.drew.size)); have HTa := Lib.hid (Blk.later (HT.out.drew) hbm); have HPa := Lib.hid (Blk.later (HP.out.drew) hbm); have HRa := Lib.hid (Blk.later (HR.out.drew) hbm); have HOa := Lib.hid (Blk.later (HO.out.drew) hbm); have ap0 := HPa.out.cell 0; have ap1 := HPa.out.cell 1; have ap2 := HPa.out.cell 2; have at0 := HTa.out.cell 0; have at1 := HTa.out.cell 1; have at2 := HTa.out.cell 2; have at3 := HTa.out.cell 3; have at4 := HTa.out.cell 4; have at5 := HTa.out.cell 5; clear hbm))
            | (go_at_call 94; refine (CT.out 2 _ (HE.out.below HBb.out)).mono ?_; rintro e wl ⟨rfl, hbl⟩; have HBc := Lib.hid (HBb.out.trans (hbl.mono HBb.out.size)); have HTc := Lib.hid (Blk.later (HTb.out) hbl); have HPc := Lib.hid (Blk.later (HPb.out) hbl); have HRc := Lib.hid (Blk.later (HRb.out) hbl); have HOc := Lib.hid (Blk.later (HOb.out) hbl); have cp0 := HPc.out.cell 0; have cp1 := HPc.out.cell 1; have cp2 := HPc.out.cell 2; have ct0 := HTc.out.cell 0; have ct1 := HTc.out.cell 1; have ct2 := HTc.out.cell 2; have ct3 := HTc.out.cell 3; have ct4 := HTc.out.cell 4; have ct5 := HTc.out.cell 5; clear hbl))
        all_goals
          go_wp2_with fail
          refine (CNe.out 2 (by decide) _ (HE.out.below HBc.out)).mono ?_
          rintro e wi ⟨rfl, hbi⟩
          have HBd := Lib.hid (HBc.out.trans (hbi.mono HBc.out.size)); have HTd := Lib.hid (Blk.later (HTc.out) hbi); have HPd := Lib.hid (Blk.later (HPc.out) hbi); have HRd := Lib.hid (Blk.later (HRc.out) hbi); have HOd := Lib.hid (Blk.later (HOc.out) hbi); clear hbi
          have oK := HOd.out.cell 2
          have fK := HOd.out.free 2
          go_wp2_with fail
          go_roundg (N - (2 + 1))
          case measure => have := HN.out; omega
          case rel =>
            have hn1 := HN1.out; have hn2 := HN2.out
            refine ⟨3, rfl, by decide, rfl, HPd.out.other (by show BO ≠ _; omega) _, HRd.out.other (by show BO ≠ _; omega) _, HTd.out.other (by show BO ≠ _; omega) _, ?_, HBd.out.setCell (p := ⟨BO, 2, none⟩) (by show _ ≤ BO; omega) _⟩
            rw [← GS.out 2 (by decide)]
            exact HOd.out.set 2 _
    · have hj3 : j = 3 := by omega
      subst hj3
      rw [obC_three] at HO
      have o0 := HO.out.cell 0; have o1 := HO.out.cell 1; have o2 := HO.out.cell 2; have o3 := HO.out.cell 3; have o4 := HO.out.cell 4; have o5 := HO.out.cell 5
      have r0 := HR.out.cell 0; have r1 := HR.out.cell 1; have r2 := HR.out.cell 2; have r3 := HR.out.cell 3; have r4 := HR.out.cell 4; have r5 := HR.out.cell 5
      have f0 := HR.out.free 0; have f1 := HR.out.free 1; have f2 := HR.out.free 2; have f3 := HR.out.free 3; have f4 := HR.out.free 4; have f5 := HR.out.free 5
      go_wp2_with fail
      rw [HAH.out.1, HAH.out.2.1, HAH.out.2.2]
      have hr3 := (Blk.set (Blk.set (Blk.set (Blk.set (Blk.set (Blk.set HR.out 0 (.string (qt (ar 0)))) 1 (.string (qt (ar 1)))) 2 (.string (qt (ar 2)))) 3 (.string (qt (tq 3)))) 4 (.string (qt (tq 4)))) 5 (.string (qt (tq 5))))
      have hb3 := (Below.setCell (p := ⟨w.heap.size + 1, 5, none⟩) (Below.setCell (p := ⟨w.heap.size + 1, 4, none⟩) (Below.setCell (p := ⟨w.heap.size + 1, 3, none⟩) (Below.setCell (p := ⟨w.heap.size + 1, 2, none⟩) (Below.setCell (p := ⟨w.heap.size + 1, 1, none⟩) (Below.setCell (p := ⟨w.heap.size + 1, 0, none⟩) HB.out (by show _ ≤ w.heap.size + 1; omega) (.string (qt (ar 0)))) (by show _ ≤ w.heap.size + 1; omega) (.string (qt (ar 1)))) (by show _ ≤ w.heap.size + 1; omega) (.string (qt (ar 2)))) (by show _ ≤ w.heap.size + 1; omega) (.string (qt (tq 3)))) (by show _ ≤ w.heap.size + 1; omega) (.string (qt (tq 4)))) (by show _ ≤ w.heap.size + 1; omega) (.string (qt (tq 5))))
      generalize ((((((wr.setCell ⟨w.heap.size + 1, 0, none⟩ (.string (qt (ar 0)))).setCell ⟨w.heap.size + 1, 1, none⟩ (.string (qt (ar 1)))).setCell ⟨w.heap.size + 1, 2, none⟩ (.string (qt (ar 2)))).setCell ⟨w.heap.size + 1, 3, none⟩ (.string (qt (tq 3)))).setCell ⟨w.heap.size + 1, 4, none⟩ (.string (qt (tq 4)))).setCell ⟨w.heap.size + 1, 5, none⟩ (.string (qt (tq 5)))) = W3 at hr3 hb3 ⊢
      have s0 := hr3.cell 0; have s1 := hr3.cell 1; have s2 := hr3.cell 2; have s3 := hr3.cell 3; have s4 := hr3.cell 4; have s5 := hr3.cell 5
      exact bodyPost_ret (by simp [results, Tryz.results29, go_sem, s0, s1, s2, s3, s4, s5]; try rfl) rfl ⟨rfl, hb3⟩

end Go.Proofs.YtbpegjgpdgeadaaGreatDoor
