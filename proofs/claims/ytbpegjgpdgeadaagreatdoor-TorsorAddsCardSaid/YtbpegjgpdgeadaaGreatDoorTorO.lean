/- A part of the proof: TorO. Conditions: none. -/
import Derived.Test.YtbpegjgpdgeadaaGreatDoorTorG
namespace Go.Proofs.YtbpegjgpdgeadaaGreatDoor
open Go Go.RowKit Metro
open Go.Lib (nDigits decDigits)

theorem blk_new3 (w : World) (o p q : Obj) (cs : Array Value) (T : Nat) : Blk ((((w.alloc o).alloc p).alloc q).alloc (.cells cs T)) (w.heap.size + 1 + 1 + 1) cs T := by
  have := heap_alloc_new (((w.alloc o).alloc p).alloc q) (.cells cs T)
  rwa [show (((w.alloc o).alloc p).alloc q).heap.size = w.heap.size + 1 + 1 + 1 from by simp] at this
theorem below_four (w : World) (o p q r : Obj) : Below w.heap.size w ((((w.alloc o).alloc p).alloc q).alloc r) := (below_three w o p q).alloc (by simp; omega) _

/-- The error of two torsors. -/
def fe2 (t u : Nat → ByteArray) : Nat := if fe t 6 = 0 then fe u 6 else fe t 6

set_option maxHeartbeats 2000000 in
set_option maxRecDepth 100000 in
theorem addErr_any (t u : Nat → ByteArray) (w : World) (hE : Env w) (hs : ∀ i, i < 6 → (t i).size ≤ 24) (hs2 : ∀ i, i < 6 → (u i).size ≤ 24) (h : fe2 t u ≠ 0) :
    Calls Tryz.prog 40 #[.agg #[.string (t 0), .string (t 1), .string (t 2), .string (t 3), .string (t 4), .string (t 5)], .agg #[.string (u 0), .string (u 1), .string (u 2), .string (u 3), .string (u 4), .string (u 5)]] w fun e w' => e = .returned (.tuple #[.agg #[.string ⟨#[]⟩, .string ⟨#[]⟩, .string ⟨#[]⟩, .string ⟨#[]⟩, .string ⟨#[]⟩, .string ⟨#[]⟩], .int .i64 (fe2 t u : Nat)]) ∧ Below w.heap.size w w' := by
  have CT := Lib.hid (fun w hE => torCheck_any t w hE (fun i hi => Nat.le_trans (hs i hi) (by decide)))
  have CU := Lib.hid (fun w hE => torCheck_any u w hE (fun i hi => Nat.le_trans (hs2 i hi) (by decide)))
  obtain ⟨a, ha⟩ : ∃ a, a = fe t 6 := ⟨_, rfl⟩
  obtain ⟨b, hb⟩ : ∃ a, a = fe u 6 := ⟨_, rfl⟩
  have hf : fe2 t u = if a = 0 then b else a := by rw [ha, hb]; rfl
  obtain ⟨E, hE2⟩ : ∃ a, a = fe2 t u := ⟨_, rfl⟩
  have HEE : Hid (E = if a = 0 then b else a) := Lib.hid (by rw [hE2, hf])
  rw [← hE2] at h ⊢
  rw [← ha] at CT
  rw [← hb] at CU
  have HE := Lib.hid hE; have HN := Lib.hid h
  have HB0 := Lib.hid (below_four w (.cells #[.string (t 0), .string (t 1), .string (t 2), .string (t 3), .string (t 4), .string (t 5)] 25) (.cells #[.string (u 0), .string (u 1), .string (u 2), .string (u 3), .string (u 4), .string (u 5)] 25) (.cells #[.string ⟨#[]⟩, .string ⟨#[]⟩, .string ⟨#[]⟩, .string ⟨#[]⟩, .string ⟨#[]⟩, .string ⟨#[]⟩] 25) (.cells #[.string (t 0), .string (t 1), .string (t 2), .string (t 3), .string (t 4), .string (t 5), .string (u 0), .string (u 1), .string (u 2), .string (u 3), .string (u 4), .string (u 5)] 25))
  have HR0 := Lib.hid ((blk_new2 w (.cells #[.string (t 0), .string (t 1), .string (t 2), .string (t 3), .string (t 4), .string (t 5)] 25) (.cells #[.string (u 0), .string (u 1), .string (u 2), .string (u 3), .string (u 4), .string (u 5)] 25) #[.string ⟨#[]⟩, .string ⟨#[]⟩, .string ⟨#[]⟩, .string ⟨#[]⟩, .string ⟨#[]⟩, .string ⟨#[]⟩] 25).alloc (.cells #[.string (t 0), .string (t 1), .string (t 2), .string (t 3), .string (t 4), .string (t 5), .string (u 0), .string (u 1), .string (u 2), .string (u 3), .string (u 4), .string (u 5)] 25))
  have HL0 := Lib.hid (blk_new3 w (.cells #[.string (t 0), .string (t 1), .string (t 2), .string (t 3), .string (t 4), .string (t 5)] 25) (.cells #[.string (u 0), .string (u 1), .string (u 2), .string (u 3), .string (u 4), .string (u 5)] 25) (.cells #[.string ⟨#[]⟩, .string ⟨#[]⟩, .string ⟨#[]⟩, .string ⟨#[]⟩, .string ⟨#[]⟩, .string ⟨#[]⟩] 25) #[.string (t 0), .string (t 1), .string (t 2), .string (t 3), .string (t 4), .string (t 5), .string (u 0), .string (u 1), .string (u 2), .string (u 3), .string (u 4), .string (u 5)] 25)
  clear hE hs hs2 ha hb hf h hE2
  go_enter Tryz.func40, Tryz.ntmps40
  go_wp2_with fail
  generalize ((((w.alloc (.cells #[.string (t 0), .string (t 1), .string (t 2), .string (t 3), .string (t 4), .string (t 5)] 25)).alloc (.cells #[.string (u 0), .string (u 1), .string (u 2), .string (u 3), .string (u 4), .string (u 5)] 25)).alloc (.cells #[.string ⟨#[]⟩, .string ⟨#[]⟩, .string ⟨#[]⟩, .string ⟨#[]⟩, .string ⟨#[]⟩, .string ⟨#[]⟩] 25)).alloc (.cells #[.string (t 0), .string (t 1), .string (t 2), .string (t 3), .string (t 4), .string (t 5), .string (u 0), .string (u 1), .string (u 2), .string (u 3), .string (u 4), .string (u 5)] 25)) = W0 at HB0 HR0 HL0 ⊢
  obtain ⟨N, hN⟩ : ∃ N : Nat, N = 2 := ⟨_, rfl⟩
  have HNN := Lib.hid hN
  clear hN
  go_loopg [15] N (fun d i wr => (i = .int .i64 0 ∧ d = N ∧ wr = W0) ∨ (i = .int .i64 1 ∧ d = 1 ∧ a = 0 ∧ Below w.heap.size w wr ∧ Blk wr (w.heap.size + 1 + 1) #[.string ⟨#[]⟩, .string ⟨#[]⟩, .string ⟨#[]⟩, .string ⟨#[]⟩, .string ⟨#[]⟩, .string ⟨#[]⟩] 25 ∧ Blk wr (w.heap.size + 1 + 1 + 1) #[.string (t 0), .string (t 1), .string (t 2), .string (t 3), .string (t 4), .string (t 5), .string (u 0), .string (u 1), .string (u 2), .string (u 3), .string (u 4), .string (u 5)] 25))
  case atStart => exact .inl ⟨rfl, rfl, rfl⟩
  case round =>
    rcases hrel with ⟨rfl, rfl, rfl⟩ | ⟨rfl, rfl, rfl, hb, hr, hl⟩
    · have l := HL0.out.cell
      have l0 := l 0; have l1 := l 1; have l2 := l 2; have l3 := l 3; have l4 := l 4; have l5 := l 5
      clear l
      by_cases h0 : a = 0
      · subst h0
        go_wp2_with fail
        refine (CT.out _ (HE.out.below (HB0.out.alloc HB0.out.size _))).mono ?_
        rintro e w1 ⟨rfl, hb⟩
        have HB1 := Lib.hid ((HB0.out.alloc HB0.out.size (.cells #[.string (t 0), .string (t 1), .string (t 2), .string (t 3), .string (t 4), .string (t 5)] 25)).trans (hb.mono (by have := HB0.out.size; simp; omega))); have HR1 := Lib.hid ((HR0.out.alloc (.cells #[.string (t 0), .string (t 1), .string (t 2), .string (t 3), .string (t 4), .string (t 5)] 25)).later hb); have HL1 := Lib.hid ((HL0.out.alloc (.cells #[.string (t 0), .string (t 1), .string (t 2), .string (t 3), .string (t 4), .string (t 5)] 25)).later hb)
        clear hb l0 l1 l2 l3 l4 l5
        go_wp2_with fail
        go_roundg 1
        case measure => have := HNN.out; omega
        case rel => exact .inr ⟨rfl, rfl, by first | rfl | trivial, HB1.out, HR1.out, HL1.out⟩
      · have hne : ((a : Int) == 0) = false := by rw [beq_eq_false_iff_ne]; omega
        have HEa : Hid (E = a) := Lib.hid (by rw [HEE.out, if_neg h0])
        clear h0
        go_wp2_with fail
        refine (CT.out _ (HE.out.below (HB0.out.alloc HB0.out.size _))).mono ?_
        rintro e w1 ⟨rfl, hb⟩
        have HB1 := Lib.hid ((HB0.out.alloc HB0.out.size (.cells #[.string (t 0), .string (t 1), .string (t 2), .string (t 3), .string (t 4), .string (t 5)] 25)).trans (hb.mono (by have := HB0.out.size; simp; omega))); have HR1 := Lib.hid ((HR0.out.alloc (.cells #[.string (t 0), .string (t 1), .string (t 2), .string (t 3), .string (t 4), .string (t 5)] 25)).later hb)
        clear hb l0 l1 l2 l3 l4 l5
        have r0 := HR1.out.cell 0; have r1 := HR1.out.cell 1; have r2 := HR1.out.cell 2; have r3 := HR1.out.cell 3; have r4 := HR1.out.cell 4; have r5 := HR1.out.cell 5
        have f0 := HR1.out.free 0; have f1 := HR1.out.free 1; have f2 := HR1.out.free 2; have f3 := HR1.out.free 3; have f4 := HR1.out.free 4; have f5 := HR1.out.free 5
        go_wp2_with fail
        have hr3 := (Blk.set (Blk.set (Blk.set (Blk.set (Blk.set (Blk.set HR1.out 0 (.string ⟨#[]⟩)) 1 (.string ⟨#[]⟩)) 2 (.string ⟨#[]⟩)) 3 (.string ⟨#[]⟩)) 4 (.string ⟨#[]⟩)) 5 (.string ⟨#[]⟩))
        have hb3 := (Below.setCell (p := ⟨w.heap.size + 1 + 1, 5, none⟩) (Below.setCell (p := ⟨w.heap.size + 1 + 1, 4, none⟩) (Below.setCell (p := ⟨w.heap.size + 1 + 1, 3, none⟩) (Below.setCell (p := ⟨w.heap.size + 1 + 1, 2, none⟩) (Below.setCell (p := ⟨w.heap.size + 1 + 1, 1, none⟩) (Below.setCell (p := ⟨w.heap.size + 1 + 1, 0, none⟩) HB1.out (by show _ ≤ w.heap.size + 1 + 1; omega) (.string ⟨#[]⟩)) (by show _ ≤ w.heap.size + 1 + 1; omega) (.string ⟨#[]⟩)) (by show _ ≤ w.heap.size + 1 + 1; omega) (.string ⟨#[]⟩)) (by show _ ≤ w.heap.size + 1 + 1; omega) (.string ⟨#[]⟩)) (by show _ ≤ w.heap.size + 1 + 1; omega) (.string ⟨#[]⟩)) (by show _ ≤ w.heap.size + 1 + 1; omega) (.string ⟨#[]⟩))
        generalize ((((((w1.setCell ⟨w.heap.size + 1 + 1, 0, none⟩ (.string ⟨#[]⟩)).setCell ⟨w.heap.size + 1 + 1, 1, none⟩ (.string ⟨#[]⟩)).setCell ⟨w.heap.size + 1 + 1, 2, none⟩ (.string ⟨#[]⟩)).setCell ⟨w.heap.size + 1 + 1, 3, none⟩ (.string ⟨#[]⟩)).setCell ⟨w.heap.size + 1 + 1, 4, none⟩ (.string ⟨#[]⟩)).setCell ⟨w.heap.size + 1 + 1, 5, none⟩ (.string ⟨#[]⟩)) = W3 at hr3 hb3 ⊢
        have s0 := hr3.cell 0; have s1 := hr3.cell 1; have s2 := hr3.cell 2; have s3 := hr3.cell 3; have s4 := hr3.cell 4; have s5 := hr3.cell 5
        exact bodyPost_ret (by simp [results, Tryz.results40, go_sem, s0, s1, s2, s3, s4, s5]; try rfl) rfl ⟨by rw [HEa.out], hb3⟩
    · have HB := Lib.hid hb; have HR := Lib.hid hr; have HL := Lib.hid hl
      clear hb hr hl
      have HEa : Hid (E = b) := Lib.hid (by rw [HEE.out, if_pos rfl])
      have hbn : b ≠ 0 := by rw [← HEa.out]; exact HN.out
      have hne : ((b : Int) == 0) = false := by rw [beq_eq_false_iff_ne]; omega
      clear hbn
      have l6 := HL.out.cell 6; have l7 := HL.out.cell 7; have l8 := HL.out.cell 8; have l9 := HL.out.cell 9; have l10 := HL.out.cell 10; have l11 := HL.out.cell 11
      go_wp2_with fail
      refine (CU.out _ (HE.out.below (HB.out.alloc HB.out.size _))).mono ?_
      rintro e w1 ⟨rfl, hb⟩
      have HB1 := Lib.hid ((HB.out.alloc HB.out.size (.cells #[.string (u 0), .string (u 1), .string (u 2), .string (u 3), .string (u 4), .string (u 5)] 25)).trans (hb.mono (by have := HB.out.size; simp; omega))); have HR1 := Lib.hid ((HR.out.alloc (.cells #[.string (u 0), .string (u 1), .string (u 2), .string (u 3), .string (u 4), .string (u 5)] 25)).later hb)
      clear hb l6 l7 l8 l9 l10 l11
      have r0 := HR1.out.cell 0; have r1 := HR1.out.cell 1; have r2 := HR1.out.cell 2; have r3 := HR1.out.cell 3; have r4 := HR1.out.cell 4; have r5 := HR1.out.cell 5
      have f0 := HR1.out.free 0; have f1 := HR1.out.free 1; have f2 := HR1.out.free 2; have f3 := HR1.out.free 3; have f4 := HR1.out.free 4; have f5 := HR1.out.free 5
      go_wp2_with fail
      have hr3 := (Blk.set (Blk.set (Blk.set (Blk.set (Blk.set (Blk.set HR1.out 0 (.string ⟨#[]⟩)) 1 (.string ⟨#[]⟩)) 2 (.string ⟨#[]⟩)) 3 (.string ⟨#[]⟩)) 4 (.string ⟨#[]⟩)) 5 (.string ⟨#[]⟩))
      have hb3 := (Below.setCell (p := ⟨w.heap.size + 1 + 1, 5, none⟩) (Below.setCell (p := ⟨w.heap.size + 1 + 1, 4, none⟩) (Below.setCell (p := ⟨w.heap.size + 1 + 1, 3, none⟩) (Below.setCell (p := ⟨w.heap.size + 1 + 1, 2, none⟩) (Below.setCell (p := ⟨w.heap.size + 1 + 1, 1, none⟩) (Below.setCell (p := ⟨w.heap.size + 1 + 1, 0, none⟩) HB1.out (by show _ ≤ w.heap.size + 1 + 1; omega) (.string ⟨#[]⟩)) (by show _ ≤ w.heap.size + 1 + 1; omega) (.string ⟨#[]⟩)) (by show _ ≤ w.heap.size + 1 + 1; omega) (.string ⟨#[]⟩)) (by show _ ≤ w.heap.size + 1 + 1; omega) (.string ⟨#[]⟩)) (by show _ ≤ w.heap.size + 1 + 1; omega) (.string ⟨#[]⟩)) (by show _ ≤ w.heap.size + 1 + 1; omega) (.string ⟨#[]⟩))
      generalize ((((((w1.setCell ⟨w.heap.size + 1 + 1, 0, none⟩ (.string ⟨#[]⟩)).setCell ⟨w.heap.size + 1 + 1, 1, none⟩ (.string ⟨#[]⟩)).setCell ⟨w.heap.size + 1 + 1, 2, none⟩ (.string ⟨#[]⟩)).setCell ⟨w.heap.size + 1 + 1, 3, none⟩ (.string ⟨#[]⟩)).setCell ⟨w.heap.size + 1 + 1, 4, none⟩ (.string ⟨#[]⟩)).setCell ⟨w.heap.size + 1 + 1, 5, none⟩ (.string ⟨#[]⟩)) = W3 at hr3 hb3 ⊢
      have s0 := hr3.cell 0; have s1 := hr3.cell 1; have s2 := hr3.cell 2; have s3 := hr3.cell 3; have s4 := hr3.cell 4; have s5 := hr3.cell 5
      exact bodyPost_ret (by simp [results, Tryz.results40, go_sem, s0, s1, s2, s3, s4, s5]; try rfl) rfl ⟨by rw [HEa.out], hb3⟩

set_option maxHeartbeats 2000000 in
set_option maxRecDepth 100000 in
theorem refAddErr_any (t u : Nat → ByteArray) (w : World) (hs : ∀ i, i < 6 → (t i).size ≤ 24) (hs2 : ∀ i, i < 6 → (u i).size ≤ 24) (h : fe2 t u ≠ 0) :
    Calls Tryz.prog 41 #[.agg #[.string (t 0), .string (t 1), .string (t 2), .string (t 3), .string (t 4), .string (t 5)], .agg #[.string (u 0), .string (u 1), .string (u 2), .string (u 3), .string (u 4), .string (u 5)]] w fun e w' => e = .returned (.tuple #[.agg #[.string ⟨#[]⟩, .string ⟨#[]⟩, .string ⟨#[]⟩, .string ⟨#[]⟩, .string ⟨#[]⟩, .string ⟨#[]⟩], .int .i64 (fe2 t u : Nat)]) ∧ Below w.heap.size w w' := by
  have CT := Lib.hid (fun w => refTorCheck_any t w (fun i hi => Nat.le_trans (hs i hi) (by decide)))
  have CU := Lib.hid (fun w => refTorCheck_any u w (fun i hi => Nat.le_trans (hs2 i hi) (by decide)))
  obtain ⟨a, ha⟩ : ∃ a, a = fe t 6 := ⟨_, rfl⟩
  obtain ⟨b, hb⟩ : ∃ a, a = fe u 6 := ⟨_, rfl⟩
  have hf : fe2 t u = if a = 0 then b else a := by rw [ha, hb]; rfl
  obtain ⟨E, hE2⟩ : ∃ a, a = fe2 t u := ⟨_, rfl⟩
  have HEE : Hid (E = if a = 0 then b else a) := Lib.hid (by rw [hE2, hf])
  rw [← hE2] at h ⊢
  rw [← ha] at CT
  rw [← hb] at CU
  have HN := Lib.hid h
  have HB0 := Lib.hid (below_three w (.cells #[.string (t 0), .string (t 1), .string (t 2), .string (t 3), .string (t 4), .string (t 5)] 25) (.cells #[.string (u 0), .string (u 1), .string (u 2), .string (u 3), .string (u 4), .string (u 5)] 25) (.cells #[.string ⟨#[]⟩, .string ⟨#[]⟩, .string ⟨#[]⟩, .string ⟨#[]⟩, .string ⟨#[]⟩, .string ⟨#[]⟩] 25))
  have HR0 := Lib.hid (blk_new2 w (.cells #[.string (t 0), .string (t 1), .string (t 2), .string (t 3), .string (t 4), .string (t 5)] 25) (.cells #[.string (u 0), .string (u 1), .string (u 2), .string (u 3), .string (u 4), .string (u 5)] 25) #[.string ⟨#[]⟩, .string ⟨#[]⟩, .string ⟨#[]⟩, .string ⟨#[]⟩, .string ⟨#[]⟩, .string ⟨#[]⟩] 25)
  have HU0 := Lib.hid ((blk_new1 w (.cells #[.string (t 0), .string (t 1), .string (t 2), .string (t 3), .string (t 4), .string (t 5)] 25) #[.string (u 0), .string (u 1), .string (u 2), .string (u 3), .string (u 4), .string (u 5)] 25).alloc (.cells #[.string ⟨#[]⟩, .string ⟨#[]⟩, .string ⟨#[]⟩, .string ⟨#[]⟩, .string ⟨#[]⟩, .string ⟨#[]⟩] 25))
  clear hs hs2 ha hb hf h hE2
  by_cases h0 : a = 0
  · subst h0
    have HEa : Hid (E = b) := Lib.hid (by rw [HEE.out, if_pos rfl])
    have hbn : b ≠ 0 := by rw [← HEa.out]; exact HN.out
    have hne : ((b : Int) == 0) = false := by rw [beq_eq_false_iff_ne]; omega
    clear hbn
    go_enter Tryz.func41, Tryz.ntmps41
    go_wp2_with fail
    refine (CT.out _).mono ?_
    rintro e w0 ⟨rfl, hb⟩
    have HB1 := Lib.hid (HB0.out.trans (hb.mono HB0.out.size)); have HR1 := Lib.hid (HR0.out.later hb); have HU1 := Lib.hid (HU0.out.later hb)
    clear hb
    have u0 := HU1.out.cell 0; have u1 := HU1.out.cell 1; have u2 := HU1.out.cell 2; have u3 := HU1.out.cell 3; have u4 := HU1.out.cell 4; have u5 := HU1.out.cell 5
    go_wp2_with fail
    refine (CU.out _).mono ?_
    rintro e w1 ⟨rfl, hb⟩
    have HB2 := Lib.hid (HB1.out.trans (hb.mono HB1.out.size)); have HR2 := Lib.hid (HR1.out.later hb)
    clear hb u0 u1 u2 u3 u4 u5
    have r0 := HR2.out.cell 0; have r1 := HR2.out.cell 1; have r2 := HR2.out.cell 2; have r3 := HR2.out.cell 3; have r4 := HR2.out.cell 4; have r5 := HR2.out.cell 5
    have f0 := HR2.out.free 0; have f1 := HR2.out.free 1; have f2 := HR2.out.free 2; have f3 := HR2.out.free 3; have f4 := HR2.out.free 4; have f5 := HR2.out.free 5
    go_wp2_with fail
    have hr3 := (Blk.set (Blk.set (Blk.set (Blk.set (Blk.set (Blk.set HR2.out 0 (.string ⟨#[]⟩)) 1 (.string ⟨#[]⟩)) 2 (.string ⟨#[]⟩)) 3 (.string ⟨#[]⟩)) 4 (.string ⟨#[]⟩)) 5 (.string ⟨#[]⟩))
    have hb3 := (Below.setCell (p := ⟨w.heap.size + 1 + 1, 5, none⟩) (Below.setCell (p := ⟨w.heap.size + 1 + 1, 4, none⟩) (Below.setCell (p := ⟨w.heap.size + 1 + 1, 3, none⟩) (Below.setCell (p := ⟨w.heap.size + 1 + 1, 2, none⟩) (Below.setCell (p := ⟨w.heap.size + 1 + 1, 1, none⟩) (Below.setCell (p := ⟨w.heap.size + 1 + 1, 0, none⟩) HB2.out (by show _ ≤ w.heap.size + 1 + 1; omega) (.string ⟨#[]⟩)) (by show _ ≤ w.heap.size + 1 + 1; omega) (.string ⟨#[]⟩)) (by show _ ≤ w.heap.size + 1 + 1; omega) (.string ⟨#[]⟩)) (by show _ ≤ w.heap.size + 1 + 1; omega) (.string ⟨#[]⟩)) (by show _ ≤ w.heap.size + 1 + 1; omega) (.string ⟨#[]⟩)) (by show _ ≤ w.heap.size + 1 + 1; omega) (.string ⟨#[]⟩))
    generalize ((((((w1.setCell ⟨w.heap.size + 1 + 1, 0, none⟩ (.string ⟨#[]⟩)).setCell ⟨w.heap.size + 1 + 1, 1, none⟩ (.string ⟨#[]⟩)).setCell ⟨w.heap.size + 1 + 1, 2, none⟩ (.string ⟨#[]⟩)).setCell ⟨w.heap.size + 1 + 1, 3, none⟩ (.string ⟨#[]⟩)).setCell ⟨w.heap.size + 1 + 1, 4, none⟩ (.string ⟨#[]⟩)).setCell ⟨w.heap.size + 1 + 1, 5, none⟩ (.string ⟨#[]⟩)) = W3 at hr3 hb3 ⊢
    have s0 := hr3.cell 0; have s1 := hr3.cell 1; have s2 := hr3.cell 2; have s3 := hr3.cell 3; have s4 := hr3.cell 4; have s5 := hr3.cell 5
    exact bodyPost_ret (by simp [results, Tryz.results41, go_sem, s0, s1, s2, s3, s4, s5]; try rfl) rfl ⟨by rw [HEa.out], hb3⟩
  · have hne : ((a : Int) == 0) = false := by rw [beq_eq_false_iff_ne]; omega
    have HEa : Hid (E = a) := Lib.hid (by rw [HEE.out, if_neg h0])
    clear h0
    go_enter Tryz.func41, Tryz.ntmps41
    go_wp2_with fail
    refine (CT.out _).mono ?_
    rintro e w1 ⟨rfl, hb⟩
    have HB1 := Lib.hid (HB0.out.trans (hb.mono HB0.out.size)); have HR1 := Lib.hid (HR0.out.later hb)
    clear hb
    have r0 := HR1.out.cell 0; have r1 := HR1.out.cell 1; have r2 := HR1.out.cell 2; have r3 := HR1.out.cell 3; have r4 := HR1.out.cell 4; have r5 := HR1.out.cell 5
    have f0 := HR1.out.free 0; have f1 := HR1.out.free 1; have f2 := HR1.out.free 2; have f3 := HR1.out.free 3; have f4 := HR1.out.free 4; have f5 := HR1.out.free 5
    go_wp2_with fail
    have hr3 := (Blk.set (Blk.set (Blk.set (Blk.set (Blk.set (Blk.set HR1.out 0 (.string ⟨#[]⟩)) 1 (.string ⟨#[]⟩)) 2 (.string ⟨#[]⟩)) 3 (.string ⟨#[]⟩)) 4 (.string ⟨#[]⟩)) 5 (.string ⟨#[]⟩))
    have hb3 := (Below.setCell (p := ⟨w.heap.size + 1 + 1, 5, none⟩) (Below.setCell (p := ⟨w.heap.size + 1 + 1, 4, none⟩) (Below.setCell (p := ⟨w.heap.size + 1 + 1, 3, none⟩) (Below.setCell (p := ⟨w.heap.size + 1 + 1, 2, none⟩) (Below.setCell (p := ⟨w.heap.size + 1 + 1, 1, none⟩) (Below.setCell (p := ⟨w.heap.size + 1 + 1, 0, none⟩) HB1.out (by show _ ≤ w.heap.size + 1 + 1; omega) (.string ⟨#[]⟩)) (by show _ ≤ w.heap.size + 1 + 1; omega) (.string ⟨#[]⟩)) (by show _ ≤ w.heap.size + 1 + 1; omega) (.string ⟨#[]⟩)) (by show _ ≤ w.heap.size + 1 + 1; omega) (.string ⟨#[]⟩)) (by show _ ≤ w.heap.size + 1 + 1; omega) (.string ⟨#[]⟩)) (by show _ ≤ w.heap.size + 1 + 1; omega) (.string ⟨#[]⟩))
    generalize ((((((w1.setCell ⟨w.heap.size + 1 + 1, 0, none⟩ (.string ⟨#[]⟩)).setCell ⟨w.heap.size + 1 + 1, 1, none⟩ (.string ⟨#[]⟩)).setCell ⟨w.heap.size + 1 + 1, 2, none⟩ (.string ⟨#[]⟩)).setCell ⟨w.heap.size + 1 + 1, 3, none⟩ (.string ⟨#[]⟩)).setCell ⟨w.heap.size + 1 + 1, 4, none⟩ (.string ⟨#[]⟩)).setCell ⟨w.heap.size + 1 + 1, 5, none⟩ (.string ⟨#[]⟩)) = W3 at hr3 hb3 ⊢
    have s0 := hr3.cell 0; have s1 := hr3.cell 1; have s2 := hr3.cell 2; have s3 := hr3.cell 3; have s4 := hr3.cell 4; have s5 := hr3.cell 5
    exact bodyPost_ret (by simp [results, Tryz.results41, go_sem, s0, s1, s2, s3, s4, s5]; try rfl) rfl ⟨by rw [HEa.out], hb3⟩
end Go.Proofs.YtbpegjgpdgeadaaGreatDoor
namespace Go.Proofs.YtbpegjgpdgeadaaGreatDoor
open Go Go.RowKit Metro
open Go.Lib (nDigits decDigits)

/-- The first k texts of six. -/
def o6 (s : Nat → ByteArray) (k : Nat) : Array Value := #[.string (oc s k 0), .string (oc s k 1), .string (oc s k 2), .string (oc s k 3), .string (oc s k 4), .string (oc s k 5)]
theorem o6_zero (s : Nat → ByteArray) : o6 s 0 = #[.string ⟨#[]⟩, .string ⟨#[]⟩, .string ⟨#[]⟩, .string ⟨#[]⟩, .string ⟨#[]⟩, .string ⟨#[]⟩] := by simp [o6, oc]
theorem o6_six (s : Nat → ByteArray) : o6 s 6 = #[.string (s 0), .string (s 1), .string (s 2), .string (s 3), .string (s 4), .string (s 5)] := by simp [o6, oc]
theorem o6_set (s : Nat → ByteArray) {k : Nat} (hk : k < 6) : (o6 s k).setIfInBounds k (.string (s k)) = o6 s (k + 1) := by
  have : k = 0 ∨ k = 1 ∨ k = 2 ∨ k = 3 ∨ k = 4 ∨ k = 5 := by omega
  rcases this with rfl | rfl | rfl | rfl | rfl | rfl <;> simp [o6, oc]
theorem o6_size (s : Nat → ByteArray) (k : Nat) : (o6 s k).size = 6 := rfl

set_option maxHeartbeats 1000000 in
set_option maxRecDepth 100000 in
/-- One sum of the function that Add hands on. -/
theorem addF_any (q r : Nat → Rat) (i gx gy : Nat) (w : World) (hE : Env w) (hi : i < 6) (hx : TextsAt w gx (fun i => qt (q i)) 6) (hy : TextsAt w gy (fun i => qt (r i)) 6) (hq : ∀ i, i < 6 → Dig 24 (q i)) (hr : ∀ i, i < 6 → Dig 24 (r i)) :
    Calls Tryz.prog 122 #[.int .i64 (i : Nat), .pointer (some ⟨gx, 0, none⟩), .pointer (some ⟨gy, 0, none⟩)] w fun e w' => e = .returned (.tuple #[.string (qt (q i + r i)), .int .i64 0]) ∧ Below w.heap.size w w' := by
  have C := Lib.hid (fun w hE => qadd_any (q i) (r i) 24 24 w hE (hq i hi) (hr i hi) (by decide))
  have c0 := hx i hi; have c1 := hy i hi
  have h0 : (0 : Int) ≤ (i : Int) := by omega
  have h6 : (i : Int) < 6 := by omega
  have HE := Lib.hid hE
  clear hx hy hq hr hE
  go_enter Tryz.func122, Tryz.ntmps122
  go_wp2_with fail
  go_region_held3 (fun w' => w'.cell? ⟨gx, i, none⟩ = some (.string (qt (q i))) ∧ w'.cell? ⟨gy, i, none⟩ = some (.string (qt (r i))))
    (first | go_keep | exact ⟨c0, c1⟩ | exact HC.out)
    (first | (go_at_call 97; refine (C.out _ (HE.out.drew)).mono ?_; rintro e w1 ⟨rfl, hb⟩; have HB1 := Lib.hid hb; have HC := Lib.hid (⟨(hb.cell (p := ⟨gx, i, none⟩) (World.block_lt_of_cell? w _ c0)).trans c0, (hb.cell (p := ⟨gy, i, none⟩) (World.block_lt_of_cell? w _ c1)).trans c1⟩ : w1.cell? ⟨gx, i, none⟩ = some (.string (qt (q i))) ∧ w1.cell? ⟨gy, i, none⟩ = some (.string (qt (r i)))); clear hb))
  all_goals
    go_wp2_with fail
    go_ret2
    exact ⟨rfl, (Below.refl w.heap.size w).drew.trans HB1.out⟩

set_option maxHeartbeats 2000000 in
set_option maxRecDepth 100000 in
/-- Six texts that a function makes. -/
theorem mappedAdd_any (s : Nat → ByteArray) (gx gy : Nat) (w : World) (hf : ∀ i, i < 6 → ∀ W, Below w.heap.size w W → Calls Tryz.prog 122 #[.int .i64 (i : Nat), .pointer (some ⟨gx, 0, none⟩), .pointer (some ⟨gy, 0, none⟩)] W fun e w' => e = .returned (.tuple #[.string (s i), .int .i64 0]) ∧ Below W.heap.size W w') :
    Calls Tryz.prog 121 #[.func (.func 122) #[] #[.pointer (some ⟨gx, 0, none⟩), .pointer (some ⟨gy, 0, none⟩)]] w fun e w' => e = .returned (.tuple #[.agg #[.string (s 0), .string (s 1), .string (s 2), .string (s 3), .string (s 4), .string (s 5)], .int .i64 0]) ∧ Below w.heap.size w w' := by
  have CF := Lib.hid hf
  have MA := Lib.hid (made_agg (s 0) (s 1) (s 2) (s 3) (s 4) (s 5))
  have HB0 := Lib.hid (below_two w (.cells #[.string ⟨#[]⟩, .string ⟨#[]⟩, .string ⟨#[]⟩, .string ⟨#[]⟩, .string ⟨#[]⟩, .string ⟨#[]⟩] 25) (.cells #[.string ⟨#[]⟩, .string ⟨#[]⟩, .string ⟨#[]⟩, .string ⟨#[]⟩, .string ⟨#[]⟩, .string ⟨#[]⟩] 136))
  have HR0 := Lib.hid ((blk_new w #[.string ⟨#[]⟩, .string ⟨#[]⟩, .string ⟨#[]⟩, .string ⟨#[]⟩, .string ⟨#[]⟩, .string ⟨#[]⟩] 25).alloc (.cells #[.string ⟨#[]⟩, .string ⟨#[]⟩, .string ⟨#[]⟩, .string ⟨#[]⟩, .string ⟨#[]⟩, .string ⟨#[]⟩] 136))
  have HO0 := Lib.hid (blk_new1 w (.cells #[.string ⟨#[]⟩, .string ⟨#[]⟩, .string ⟨#[]⟩, .string ⟨#[]⟩, .string ⟨#[]⟩, .string ⟨#[]⟩] 25) #[.string ⟨#[]⟩, .string ⟨#[]⟩, .string ⟨#[]⟩, .string ⟨#[]⟩, .string ⟨#[]⟩, .string ⟨#[]⟩] 136)
  rw [← o6_zero s] at HB0 HR0 HO0
  have HST := Lib.hid (fun k hk => o6_set s (k := k) hk)
  clear hf
  go_enter Tryz.func121, Tryz.ntmps121
  go_wp2_with fail
  rw [← o6_zero s]
  generalize ((w.alloc (.cells (o6 s 0) 25)).alloc (.cells (o6 s 0) 136)) = W0 at HB0 HR0 HO0 ⊢
  obtain ⟨N, hN⟩ : ∃ N : Nat, N = 6 := ⟨_, rfl⟩
  have HN := Lib.hid hN
  clear hN
  go_loopg [8] N (fun d i wr => ∃ j : Nat, i = .int .i64 j ∧ j ≤ 6 ∧ d = N - j ∧ Below w.heap.size w wr ∧ Blk wr w.heap.size (o6 s 0) 25 ∧ Blk wr (w.heap.size + 1) (o6 s j) 136)
  case atStart => exact ⟨0, rfl, by decide, rfl, HB0.out, HR0.out, HO0.out⟩
  case round =>
    obtain ⟨j, rfl, hj, rfl, hb, hr, ho⟩ := hrel
    have HB := Lib.hid hb; have HR := Lib.hid hr; have HO := Lib.hid ho
    clear hb hr ho
    by_cases hlt : j < 6
    · have hj0 : (0 : Int) ≤ (j : Int) := by omega
      have hj6 : (j : Int) < 6 := by omega
      go_wp2_with fail
      refine (CF.out j hlt _ HB.out).mono ?_
      rintro e w1 ⟨rfl, hb⟩
      have HB1 := Lib.hid (HB.out.trans (hb.mono HB.out.size)); have HR1 := Lib.hid (HR.out.later hb); have HO1 := Lib.hid (HO.out.later hb)
      clear hb
      have c0 := Blk.cg HO1.out (i := j) (by rw [o6_size]; exact hlt)
      have f0 := HO1.out.free j
      go_wp2_with fail
      go_roundg (N - (j + 1))
      case measure => have := HN.out; omega
      case rel =>
        refine ⟨j + 1, by go_num, by omega, rfl, HB1.out.setCell (p := ⟨w.heap.size + 1, j, none⟩) (by show _ ≤ w.heap.size + 1; omega) _, HR1.out.other (by show w.heap.size + 1 ≠ _; omega) _, ?_⟩
        rw [← HST.out j hlt]
        exact HO1.out.set j _
    · have hj6 : j = 6 := by omega
      subst hj6
      rw [o6_six] at HO
      rw [o6_zero] at HR
      have o0 := HO.out.cell 0; have o1 := HO.out.cell 1; have o2 := HO.out.cell 2; have o3 := HO.out.cell 3; have o4 := HO.out.cell 4; have o5 := HO.out.cell 5
      go_wp2_with fail
      refine (MA.out _).mono ?_
      rintro e w1 ⟨rfl, hb⟩
      have HB1 := Lib.hid (HB.out.trans (hb.mono HB.out.size)); have HR1 := Lib.hid (HR.out.later hb)
      clear hb o0 o1 o2 o3 o4 o5
      have r0 := HR1.out.cell 0; have r1 := HR1.out.cell 1; have r2 := HR1.out.cell 2; have r3 := HR1.out.cell 3; have r4 := HR1.out.cell 4; have r5 := HR1.out.cell 5
      have f0 := HR1.out.free 0; have f1 := HR1.out.free 1; have f2 := HR1.out.free 2; have f3 := HR1.out.free 3; have f4 := HR1.out.free 4; have f5 := HR1.out.free 5
      go_wp2_with fail
      have hr3 := (Blk.set (Blk.set (Blk.set (Blk.set (Blk.set (Blk.set HR1.out 0 (.string (s 0))) 1 (.string (s 1))) 2 (.string (s 2))) 3 (.string (s 3))) 4 (.string (s 4))) 5 (.string (s 5)))
      have hb3 := (Below.setCell (p := ⟨w.heap.size, 5, none⟩) (Below.setCell (p := ⟨w.heap.size, 4, none⟩) (Below.setCell (p := ⟨w.heap.size, 3, none⟩) (Below.setCell (p := ⟨w.heap.size, 2, none⟩) (Below.setCell (p := ⟨w.heap.size, 1, none⟩) (Below.setCell (p := ⟨w.heap.size, 0, none⟩) HB1.out (Nat.le_refl _) (.string (s 0))) (Nat.le_refl _) (.string (s 1))) (Nat.le_refl _) (.string (s 2))) (Nat.le_refl _) (.string (s 3))) (Nat.le_refl _) (.string (s 4))) (Nat.le_refl _) (.string (s 5)))
      generalize ((((((w1.setCell ⟨w.heap.size, 0, none⟩ (.string (s 0))).setCell ⟨w.heap.size, 1, none⟩ (.string (s 1))).setCell ⟨w.heap.size, 2, none⟩ (.string (s 2))).setCell ⟨w.heap.size, 3, none⟩ (.string (s 3))).setCell ⟨w.heap.size, 4, none⟩ (.string (s 4))).setCell ⟨w.heap.size, 5, none⟩ (.string (s 5))) = W3 at hr3 hb3 ⊢
      have s0 := hr3.cell 0; have s1 := hr3.cell 1; have s2 := hr3.cell 2; have s3 := hr3.cell 3; have s4 := hr3.cell 4; have s5 := hr3.cell 5
      exact bodyPost_ret (by simp [results, Tryz.results121, go_sem, s0, s1, s2, s3, s4, s5]; try rfl) rfl ⟨rfl, hb3⟩

end Go.Proofs.YtbpegjgpdgeadaaGreatDoor
