/- A part of the proof: WalkC. Conditions: none. -/
import Derived.Test.YtbpegjgpdgeadaaGreatDoorWalkB
import Derived.Test.YtbpegjgpdgeadaaGreatDoorPaperTor
import Derived.Laws.CopyOwn
namespace Go.Proofs.YtbpegjgpdgeadaaGreatDoor
open Go Go.RowKit Metro
open Go.Lib (nDigits decDigits)

theorem builder_below {T e B b : Nat} {p : Value} {bs : List Value} {w w' : World} (h : Lib.BuilderAt T e B b p bs w) (hb : Below w.heap.size w w') : Lib.BuilderAt T e B b p bs w' := by
  have hlt := h.lt
  obtain ⟨h1, v, h2, h3, h4⟩ := h
  refine ⟨h1, v, (hb.block b hlt).trans h2, ?_, h4⟩
  exact h3.kept (row := none) ⟨hb.os, hb.tape, hb.output, hb.size, fun i hi _ => hb.block i hi⟩ (by cases v.ownBlock <;> simp)
theorem isBuilder_below {T e B b : Nat} {bs : List Value} {w w' : World} (h : Lib.IsBuilder T e B b bs w) (hb : Below w.heap.size w w') : Lib.IsBuilder T e B b bs w' := by
  rcases h with h | h
  · exact .inl (builder_below h hb)
  · exact .inr (builder_below h hb)
theorem isBuilder_drew {T e B b : Nat} {bs : List Value} {w : World} (h : Lib.IsBuilder T e B b bs w) (n : Nat) : Lib.IsBuilder T e B b bs (w.drewN n) := isBuilder_below h (below_drewN _ _ _)
theorem isBuilder_new (w : World) : Lib.IsBuilder 291 5 w.heap.size w.heap.size [] (w.alloc (.cells #[.pointer none, .slice none 0 0] 291)) :=
  .inl ⟨Nat.le_refl _, _, heap_alloc_new w _, World.ownsRow_nil _ _ _ _, by simp [Value.ownBlock]⟩

theorem Env.drew {w : World} (h : Env w) : Env w.drew := h.below ⟨rfl, rfl, rfl, Nat.le_refl _, fun _ _ => rfl⟩
theorem isBuilder_drew' {T e B b : Nat} {bs : List Value} {w w' : World} (h : Lib.IsBuilder T e B b bs w) (hb : Below w.drew.heap.size w.drew w') : Lib.IsBuilder T e B b bs w' :=
  isBuilder_below (w := w) h ⟨hb.os, hb.tape, hb.output, hb.size, hb.block⟩
/-- A word behind its zeros. -/
theorem pad_text {v : Int} (h0 : 0 ≤ v) (h1 : v < BB) : ((⟨#[48, 48, 48, 48, 48, 48, 48, 48, 48]⟩ : ByteArray).extract (zt v).size 9 ++ zt v).data.toList = pad9 v.toNat := by
  have e : zt v = zt ((v.toNat : Nat) : Int) := by congr 1; omega
  have hl := decDigits_len9 (w := v.toNat) (by rw [BB_eq] at h1; omega)
  have hp := decDigits_len_pos v.toNat
  rw [e]
  have e2 : (zt ((v.toNat : Nat) : Int)).size = (decDigits v.toNat).length := by rw [zt_size, zl_ofNat]
  have e3 : (zt ((v.toNat : Nat) : Int)).data.toList = decDigits v.toNat := by rw [zt_toList, zl_ofNat]
  unfold pad9
  rw [ByteArray.data_append, Array.toList_append, Lib.extract_data, e3, e2]
  congr 1
  generalize (decDigits v.toNat).length = k at *
  have : k = 1 ∨ k = 2 ∨ k = 3 ∨ k = 4 ∨ k = 5 ∨ k = 6 ∨ k = 7 ∨ k = 8 ∨ k = 9 := by omega
  rcases this with rfl | rfl | rfl | rfl | rfl | rfl | rfl | rfl | rfl <;> rfl

theorem zt_zero' : zt 0 = ⟨#[48]⟩ := by
  unfold zt; rw [zl_zero]
set_option maxHeartbeats 2000000 in
set_option maxRecDepth 100000 in
theorem text_any (b : Nat) (z : Int) (w : World) (hE : Env w) (hx : NumAt 267 w b z) :
    Calls Tryz.prog 245 #[.pointer (some ⟨b, 0, none⟩)] w fun e w' => e = .returned (.string (zt z)) ∧ Below w.heap.size w w' := by
  obtain ⟨l, n, f, v, ht, hn, hw, hz⟩ := hx
  have HT := Lib.hid ht; have HZ := Lib.hid hz; have HE := Lib.hid hE
  clear ht hz hE
  have c1 := hw.cell_n
  have c0 := hw.cell_less
  by_cases h0 : n = 0
  · subst h0
    have hd : (((0 : Nat) : Int) == 0) = true := rfl
    go_enter Tryz.func245, Tryz.ntmps245
    go_wp2
    go_ret
    have hv := HT.out.zero_iff.1 rfl
    have : z = 0 := by rw [← HZ.out, hv]; unfold sv; split <;> rfl
    exact ⟨by rw [this, zt_zero']; rfl, Below.refl _ _⟩
  · have hd : ((n : Int) == 0) = false := by simp; omega
    have hbw := hw.lt
    have hB0 : Lib.IsBuilder 291 5 w.heap.size w.heap.size (Lib.byteCells []) (w.alloc (.cells #[.pointer none, .slice none 0 0] 291)) := isBuilder_new w
    have hb0 : Below w.heap.size w (w.alloc (.cells #[.pointer none, .slice none 0 0] 291)) := (Below.refl _ _).alloc (Nat.le_refl _) _
    have hN0 : (0 : Int) ≤ (n : Int) - 1 := by omega
    have hN1 : ((n : Int) - 1).toNat = n - 1 := by omega
    have hN3 : (n : Int) - 1 < 232 := by omega
    have hN4 : ¬ (n : Int) < 1 := by omega
    have hN : n - 1 < 232 := by omega
    have hwr : IntKind.i64.wrap ((n : Int) - 1) = (n : Int) - 1 := by rw [IntKind.wrap_i64]; omega
    obtain ⟨V, hV⟩ : ∃ V : Int, V = f (n - 1) := ⟨_, rfl⟩
    have hVr : 0 ≤ V ∧ V < BB := by rw [hV]; exact HT.out.inr (n - 1)
    rw [BB_eq] at hVr
    have cw := hw.cell_word hN
    rw [← hV] at cw
    have HV := Lib.hid hV; clear hV
    have HB0 := Lib.hid hB0; have Hb0 := Lib.hid hb0; clear hB0 hb0
    obtain ⟨W0, hW0⟩ : ∃ W0, W0 = (w.alloc (.cells #[.pointer none, .slice none 0 0] 291)) := ⟨_, rfl⟩
    cases l
    all_goals (go_enter Tryz.func245, Tryz.ntmps245)
    · go_wp2_with fail
      obtain ⟨W1, hW1⟩ : ∃ W1, W1 = (w.alloc (.cells #[.pointer none, .slice none 0 0] 291)) := ⟨_, rfl⟩
      rw [← hW1]
      have HP : Hid (([] : List UInt8) ++ zl v = zl z) := Lib.hid (by rw [← HZ.out]; rfl)
      have HB1 : Hid (Lib.IsBuilder 291 5 w.heap.size w.heap.size (Lib.byteCells []) W1) := Lib.hid (by rw [hW1]; exact HB0.out)
      have Hb1 : Hid (Below w.heap.size w W1) := Lib.hid (by rw [hW1]; exact Hb0.out)
      have hPl : ([] : List UInt8).length ≤ 1 := by simp
      clear hW1
      generalize ([] : List UInt8) = pre at HP HB1 hPl
      have hw1 := hw.below Hb1.out hbw
      have d1 : W1.cell? ⟨b, 1, none⟩ = some (.int .i64 (n : Int)) := by rw [hw1.cell_n]
      have dw : W1.cell? ⟨b, 2 + (n - 1), none⟩ = some (.int .i64 V) := by rw [hw1.cell_word hN, HV.out]
      clear c1 cw c0
      have HVz : Hid (zl V = decDigits V.toNat) := Lib.hid (by rw [zl_nonneg hVr.1]; congr 1; omega)
      have HVl := Lib.hid (decDigits_len9 (w := V.toNat) (by omega))
      have HE1 := Lib.hid (HE.out.below Hb1.out).drew
      have HS1 := Lib.hid Hb1.out.size
      go_region_held3 (fun w' => w'.cell? ⟨b, 1, none⟩ = some (.int .i64 (n : Int)) ∧ w'.cell? ⟨b, 2 + (n - 1), none⟩ = some (.int .i64 V))
        (first | go_keep | exact ⟨e1, ew⟩ | exact ⟨g1, gw⟩)
        (first | (go_at_call 214; refine (itoa_any V _ (by omega) (by omega) HE1.out).mono ?_; rintro e W2 ⟨rfl, hb2⟩; have Hb2 := Lib.hid (Hb1.out.drew.trans (hb2.mono (by have := HS1.out; simpa using this))); have HB2 := Lib.hid (isBuilder_drew' HB1.out hb2); have hw2 := hw.below Hb2.out hbw; have e1 : W2.cell? ⟨b, 1, none⟩ = some (.int .i64 (n : Int)) := (by rw [hw2.cell_n]); have ew : W2.cell? ⟨b, 2 + (n - 1), none⟩ = some (.int .i64 V) := (by rw [hw2.cell_word hN, HV.out]); clear hb2) | (go_at_call 267; refine (writeString_any w.heap.size w.heap.size pre (zt V) _ HB2.out (by rw [zt_size, HVz.out]; have := HVl.out; omega) Hb2.out.size).mono ?_; rintro e W3 ⟨rfl, hB3, hb3⟩; have Hb3 := Lib.hid (Hb2.out.trans hb3); have HB3 := Lib.hid hB3; have hw3 := hw.below Hb3.out hbw; have g1 : W3.cell? ⟨b, 1, none⟩ = some (.int .i64 (n : Int)) := (by rw [hw3.cell_n]); have gw : W3.cell? ⟨b, 2 + (n - 1), none⟩ = some (.int .i64 V) := (by rw [hw3.cell_word hN, HV.out]); clear hb3 hB3))
      have hd1 : (0 : Int) ≤ ((n : Int) - 1) := hN0
      clear hw1 hw3 hw2 e1 ew g1 gw d1 dw
      have HN := Lib.hid hN; have HN1 := Lib.hid hN1; clear hN1
      have hw3 := hw.below Hb3.out hbw
      have g1 : W3.cell? ⟨b, 1, none⟩ = some (.int .i64 (n : Int)) := by rw [hw3.cell_n]
      have HW3 := Lib.hid hw3; clear hw3
      go_wp2_with fail
      go_loopg [4, 5] (n - 1) (fun d i s wr => i = .int .i64 ((d : Int) - 1) ∧ d ≤ n - 1 ∧ Lib.IsBuilder 291 5 w.heap.size w.heap.size (Lib.byteCells (pre ++ (decDigits V.toNat ++ pads f (n - 1) (n - 1 - d)))) wr ∧ Below w.heap.size w wr)
      case atStart =>
        refine ⟨by congr 1; omega, Nat.le_refl _, .inr ?_, Hb3.out⟩
        rw [Nat.sub_self, pads_zero, List.append_nil, ← HVz.out, ← zt_toList]
        exact HB3.out
      case round =>
        obtain ⟨rfl, hk, hB, hb⟩ := hrel
        have HB := Lib.hid hB; have HBl := Lib.hid hb; clear hB hb
        by_cases hg : gk = 0
        · subst hg
          have HZ0 := Lib.hid hN
          go_wp2_with fail
          refine (Tryz.Builder_String_any w.heap.size w.heap.size _ _ HB.out HBl.out.size).mono ?_
          rintro e w5 ⟨rfl, hb5⟩
          go_wp2_with fail
          go_ret
          refine ⟨?_, HBl.out.trans hb5⟩
          have ht := text_words HT.out (by omega)
          have h1 := HT.out.nonneg
          have h3 : zl v = decDigits v.natAbs := zl_nonneg h1
          rw [← HV.out] at ht
          try rw [Nat.sub_zero]
          rw [ht, ← h3, HP.out]
          rfl
        · have hi : 0 ≤ (gk : Int) - 1 := by omega
          have hi2 : ((gk : Int) - 1).toNat = gk - 1 := by omega
          have hi3 : (gk : Int) - 1 < 232 := by omega
          have hwr := hw.below HBl.out hbw
          have c2 := hwr.cell_word (i := gk - 1) (by omega)
          obtain ⟨U, hU⟩ : ∃ U, U = f (gk - 1) := ⟨_, rfl⟩
          have hUr : 0 ≤ U ∧ U < 1000000000 := by rw [hU, ← BB_eq]; exact HT.out.inr (gk - 1)
          rw [← hU] at c2
          have HU := Lib.hid hU; clear hU
          have HWr := Lib.hid hwr; clear hwr
          have HE5 := Lib.hid (HE.out.below HBl.out)
          go_wp2_with fail
          refine (itoa_any U _ (by omega) (by omega) HE5.out).mono ?_
          rintro e W6 ⟨rfl, hb6⟩
          have hzs : (zt U).size ≤ 9 := by
            rw [zt_size, zl_nonneg hUr.1]; exact decDigits_len9 (by omega)
          have hP := pad_text hUr.1 (by rw [BB_eq]; exact hUr.2)
          have HPd := Lib.hid hP; clear hP
          have HB6 := Lib.hid (isBuilder_below HB.out (hb6))
          have hl1 := pads_length HT.out.inr (n - 1) (n - 1 - gk)
          have hszp : ((⟨#[48, 48, 48, 48, 48, 48, 48, 48, 48]⟩ : ByteArray).extract (zt U).size 9 ++ zt U).size ≤ 18 := by
            rw [ByteArray.size_append, ByteArray.size_extract]
            have : (⟨#[48, 48, 48, 48, 48, 48, 48, 48, 48]⟩ : ByteArray).size = 9 := rfl
            omega
          have hlen : (pre ++ (decDigits V.toNat ++ pads f (n - 1) (n - 1 - gk))).length + ((⟨#[48, 48, 48, 48, 48, 48, 48, 48, 48]⟩ : ByteArray).extract (zt U).size 9 ++ zt U).size ≤ 100000 := by
            have := HVl.out
            rw [List.length_append, List.length_append, hl1]
            omega
          have HL := Lib.hid hlen
          clear hl1 hszp hlen
          go_wp2_with fail
          refine (writeString_any w.heap.size w.heap.size _ _ _ HB6.out HL.out (by have := hb6.size; have := HBl.out.size; omega)).mono ?_
          rintro e W7 ⟨rfl, hB7, hb7⟩
          rw [HPd.out] at hB7
          have HB7 := Lib.hid hB7
          have Hb7 := Lib.hid ((HBl.out.trans (hb6.mono HBl.out.size)).trans hb7)
          clear hb6 hb7 hB7
          go_wp2_with fail
          go_roundg (gk - 1)
          case measure => omega
          case rel =>
            refine ⟨by congr 1; omega, by omega, .inr ?_, Hb7.out⟩
            have e1 : n - 1 - (gk - 1) = (n - 1 - gk) + 1 := by omega
            have e2 : n - 1 - 1 - (n - 1 - gk) = gk - 1 := by omega
            have h7 := HB7.out
            rw [e1, pads_succ, e2, ← HU.out]
            simpa [List.append_assoc] using h7
    · go_wp2_with fail
      refine (writeByte_any w.heap.size w.heap.size [] 45 _ HB0.out (by simp) (by simp)).mono ?_
      rintro e W1 ⟨rfl, hB1, hb1⟩
      have HP : Hid (([] ++ [45] : List UInt8) ++ zl v = zl z) := Lib.hid (by
        rw [← HZ.out]
        have h1 := HT.out.nonneg
        have h2 : v ≠ 0 := fun e => h0 (HT.out.zero_iff.2 e)
        unfold sv
        have h3 : zl v = decDigits v.natAbs := zl_nonneg h1
        have h4 : zl (-v) = 45 :: decDigits (-v).natAbs := zl_neg (by omega)
        rw [if_pos rfl, h3, h4]
        simp)
      have HB1 := Lib.hid (Or.inr hB1 : Lib.IsBuilder 291 5 w.heap.size w.heap.size _ W1)
      have Hb1 := Lib.hid (Hb0.out.trans (hb1.mono (by simp)))
      have hPl : ([] ++ [45] : List UInt8).length ≤ 1 := by simp
      clear hb1 hB1
      generalize ([] ++ [45] : List UInt8) = pre at HP HB1 hPl
      go_wp2_with fail
      have hw1 := hw.below Hb1.out hbw
      have d1 : W1.cell? ⟨b, 1, none⟩ = some (.int .i64 (n : Int)) := by rw [hw1.cell_n]
      have dw : W1.cell? ⟨b, 2 + (n - 1), none⟩ = some (.int .i64 V) := by rw [hw1.cell_word hN, HV.out]
      clear c1 cw c0
      have HVz : Hid (zl V = decDigits V.toNat) := Lib.hid (by rw [zl_nonneg hVr.1]; congr 1; omega)
      have HVl := Lib.hid (decDigits_len9 (w := V.toNat) (by omega))
      have HE1 := Lib.hid (HE.out.below Hb1.out).drew
      have HS1 := Lib.hid Hb1.out.size
      go_region_held3 (fun w' => w'.cell? ⟨b, 1, none⟩ = some (.int .i64 (n : Int)) ∧ w'.cell? ⟨b, 2 + (n - 1), none⟩ = some (.int .i64 V))
        (first | go_keep | exact ⟨e1, ew⟩ | exact ⟨g1, gw⟩)
        (first | (go_at_call 214; refine (itoa_any V _ (by omega) (by omega) HE1.out).mono ?_; rintro e W2 ⟨rfl, hb2⟩; have Hb2 := Lib.hid (Hb1.out.drew.trans (hb2.mono (by have := HS1.out; simpa using this))); have HB2 := Lib.hid (isBuilder_drew' HB1.out hb2); have hw2 := hw.below Hb2.out hbw; have e1 : W2.cell? ⟨b, 1, none⟩ = some (.int .i64 (n : Int)) := (by rw [hw2.cell_n]); have ew : W2.cell? ⟨b, 2 + (n - 1), none⟩ = some (.int .i64 V) := (by rw [hw2.cell_word hN, HV.out]); clear hb2) | (go_at_call 267; refine (writeString_any w.heap.size w.heap.size pre (zt V) _ HB2.out (by rw [zt_size, HVz.out]; have := HVl.out; omega) Hb2.out.size).mono ?_; rintro e W3 ⟨rfl, hB3, hb3⟩; have Hb3 := Lib.hid (Hb2.out.trans hb3); have HB3 := Lib.hid hB3; have hw3 := hw.below Hb3.out hbw; have g1 : W3.cell? ⟨b, 1, none⟩ = some (.int .i64 (n : Int)) := (by rw [hw3.cell_n]); have gw : W3.cell? ⟨b, 2 + (n - 1), none⟩ = some (.int .i64 V) := (by rw [hw3.cell_word hN, HV.out]); clear hb3 hB3))
      have hd1 : (0 : Int) ≤ ((n : Int) - 1) := hN0
      clear hw1 hw3 hw2 e1 ew g1 gw d1 dw
      have HN := Lib.hid hN; have HN1 := Lib.hid hN1; clear hN1
      have hw3 := hw.below Hb3.out hbw
      have g1 : W3.cell? ⟨b, 1, none⟩ = some (.int .i64 (n : Int)) := by rw [hw3.cell_n]
      have HW3 := Lib.hid hw3; clear hw3
      go_wp2_with fail
      go_loopg [4, 5] (n - 1) (fun d i s wr => i = .int .i64 ((d : Int) - 1) ∧ d ≤ n - 1 ∧ Lib.IsBuilder 291 5 w.heap.size w.heap.size (Lib.byteCells (pre ++ (decDigits V.toNat ++ pads f (n - 1) (n - 1 - d)))) wr ∧ Below w.heap.size w wr)
      case atStart =>
        refine ⟨by congr 1; omega, Nat.le_refl _, .inr ?_, Hb3.out⟩
        rw [Nat.sub_self, pads_zero, List.append_nil, ← HVz.out, ← zt_toList]
        exact HB3.out
      case round =>
        obtain ⟨rfl, hk, hB, hb⟩ := hrel
        have HB := Lib.hid hB; have HBl := Lib.hid hb; clear hB hb
        by_cases hg : gk = 0
        · subst hg
          have HZ0 := Lib.hid hN
          go_wp2_with fail
          refine (Tryz.Builder_String_any w.heap.size w.heap.size _ _ HB.out HBl.out.size).mono ?_
          rintro e w5 ⟨rfl, hb5⟩
          go_wp2_with fail
          go_ret
          refine ⟨?_, HBl.out.trans hb5⟩
          have ht := text_words HT.out (by omega)
          have h1 := HT.out.nonneg
          have h3 : zl v = decDigits v.natAbs := zl_nonneg h1
          rw [← HV.out] at ht
          try rw [Nat.sub_zero]
          rw [ht, ← h3, HP.out]
          rfl
        · have hi : 0 ≤ (gk : Int) - 1 := by omega
          have hi2 : ((gk : Int) - 1).toNat = gk - 1 := by omega
          have hi3 : (gk : Int) - 1 < 232 := by omega
          have hwr := hw.below HBl.out hbw
          have c2 := hwr.cell_word (i := gk - 1) (by omega)
          obtain ⟨U, hU⟩ : ∃ U, U = f (gk - 1) := ⟨_, rfl⟩
          have hUr : 0 ≤ U ∧ U < 1000000000 := by rw [hU, ← BB_eq]; exact HT.out.inr (gk - 1)
          rw [← hU] at c2
          have HU := Lib.hid hU; clear hU
          have HWr := Lib.hid hwr; clear hwr
          have HE5 := Lib.hid (HE.out.below HBl.out)
          go_wp2_with fail
          refine (itoa_any U _ (by omega) (by omega) HE5.out).mono ?_
          rintro e W6 ⟨rfl, hb6⟩
          have hzs : (zt U).size ≤ 9 := by
            rw [zt_size, zl_nonneg hUr.1]; exact decDigits_len9 (by omega)
          have hP := pad_text hUr.1 (by rw [BB_eq]; exact hUr.2)
          have HPd := Lib.hid hP; clear hP
          have HB6 := Lib.hid (isBuilder_below HB.out (hb6))
          have hl1 := pads_length HT.out.inr (n - 1) (n - 1 - gk)
          have hszp : ((⟨#[48, 48, 48, 48, 48, 48, 48, 48, 48]⟩ : ByteArray).extract (zt U).size 9 ++ zt U).size ≤ 18 := by
            rw [ByteArray.size_append, ByteArray.size_extract]
            have : (⟨#[48, 48, 48, 48, 48, 48, 48, 48, 48]⟩ : ByteArray).size = 9 := rfl
            omega
          have hlen : (pre ++ (decDigits V.toNat ++ pads f (n - 1) (n - 1 - gk))).length + ((⟨#[48, 48, 48, 48, 48, 48, 48, 48, 48]⟩ : ByteArray).extract (zt U).size 9 ++ zt U).size ≤ 100000 := by
            have := HVl.out
            rw [List.length_append, List.length_append, hl1]
            omega
          have HL := Lib.hid hlen
          clear hl1 hszp hlen
          go_wp2_with fail
          refine (writeString_any w.heap.size w.heap.size _ _ _ HB6.out HL.out (by have := hb6.size; have := HBl.out.size; omega)).mono ?_
          rintro e W7 ⟨rfl, hB7, hb7⟩
          rw [HPd.out] at hB7
          have HB7 := Lib.hid hB7
          have Hb7 := Lib.hid ((HBl.out.trans (hb6.mono HBl.out.size)).trans hb7)
          clear hb6 hb7 hB7
          go_wp2_with fail
          go_roundg (gk - 1)
          case measure => omega
          case rel =>
            refine ⟨by congr 1; omega, by omega, .inr ?_, Hb7.out⟩
            have e1 : n - 1 - (gk - 1) = (n - 1 - gk) + 1 := by omega
            have e2 : n - 1 - 1 - (n - 1 - gk) = gk - 1 := by omega
            have h7 := HB7.out
            rw [e1, pads_succ, e2, ← HU.out]
            simpa [List.append_assoc] using h7
end Go.Proofs.YtbpegjgpdgeadaaGreatDoor
namespace Go.Proofs.YtbpegjgpdgeadaaGreatDoor
open Go Go.RowKit Metro
open Go.Lib (nDigits decDigits)

theorem atoi_zl (z : Int) : Go.Lib.atoi (zl z) = some z := by
  by_cases h : z < 0
  · rw [zl_neg h]
    have h1 := decNat_dval (decDigits_ne_nil z.natAbs) (allDig_decDigits _)
    rw [dval_decDigits] at h1
    simp [Go.Lib.atoi, h1]; omega
  · rw [zl_nonneg (by omega), atoi_dval (decDigits_ne_nil _) (allDig_decDigits _), dval_decDigits]
    congr 1; omega

theorem atoiZ_any (z : Int) (w : World) (hl : (zt z).size ≤ 18) :
    Calls Tryz.prog 250 #[.string (zt z)] w fun e w' => e = .returned (.tuple #[.int .i64 z, .nilIface]) ∧ Below w.heap.size w w' := by
  refine (Tryz.strconv_Atoi (zt z) z hl (by rw [zt_toList]; exact atoi_zl z) w).mono ?_
  rintro e w' ⟨rfl, t, rfl⟩
  exact ⟨rfl, Joins.below_bytesWorld _ _ _ _ (Nat.le_refl _)⟩

set_option maxHeartbeats 1000000 in
theorem of_any (n : Int) (w : World) (h0 : -9223372036854775808 ≤ n) (h1 : n ≤ 9223372036854775807) (hE : Env w) :
    Calls Tryz.prog 175 #[.int .i64 n] w fun e w' => e = .returned (.string (zt n)) ∧ Below w.heap.size w w' := by
  have HE := Lib.hid hE; clear hE
  go_enter Tryz.func175, Tryz.ntmps175
  go_wp2_with fail
  refine (itoa_any n _ h0 h1 HE.out).mono ?_
  rintro e w' ⟨rfl, hb⟩
  go_wp2_with fail
  go_ret
  exact ⟨rfl, hb⟩

set_option maxHeartbeats 1000000 in
theorem result_any (n : Int) (w : World) (h0 : -9223372036854775808 ≤ n) (h1 : n ≤ 9223372036854775807) (hE : Env w) :
    Calls Tryz.prog 233 #[.int .i64 n] w fun e w' => e = .returned (.tuple #[.string (zt n), .int .i64 0]) ∧ Below w.heap.size w w' := by
  have HE := Lib.hid hE; clear hE
  go_enter Tryz.func233, Tryz.ntmps233
  go_wp2_with fail
  refine (of_any n _ h0 h1 HE.out).mono ?_
  rintro e w' ⟨rfl, hb⟩
  go_wp2_with fail
  go_ret2
  exact ⟨rfl, hb⟩

set_option maxHeartbeats 1000000 in
theorem limited_any (b : Nat) (z : Int) (w : World) (hE : Env w) (hx : NumAt 267 w b z) (hz : nDigits z.natAbs ≤ 1024) :
    Calls Tryz.prog 236 #[.pointer (some ⟨b, 0, none⟩)] w fun e w' => e = .returned (.tuple #[.string (zt z), .int .i64 0]) ∧ Below w.heap.size w w' := by
  have HE := Lib.hid hE; have HX := Lib.hid hx; have HZ := Lib.hid hz; clear hE hx hz
  have hs : (zt z).size ≤ 140737488351232 := by rw [zt_size, zl_length]; have := HZ.out; split <;> omega
  go_enter Tryz.func236, Tryz.ntmps236
  go_wp2_with fail
  refine (text_any b z _ HE.out HX.out).mono ?_
  rintro e w1 ⟨rfl, hb1⟩
  have Hb1 := Lib.hid hb1; clear hb1
  go_wp2_with fail
  refine (check_any (zt z) _ hs).mono ?_
  rintro e w2 ⟨he, hb2⟩
  rw [zt_toList, chkL_small HZ.out] at he
  subst he
  have Hb2 := Lib.hid (Hb1.out.trans (hb2.mono Hb1.out.size)); clear hb2
  go_wp2_with fail
  go_ret2
  exact ⟨rfl, Hb2.out⟩

set_option maxHeartbeats 1000000 in
theorem neg_any (z : Int) (w : World) (hz : nDigits z.natAbs ≤ 1024) :
    Calls Tryz.prog 180 #[.string (zt z)] w fun e w' => e = .returned (.tuple #[.string (zt (-z)), .int .i64 0]) ∧ Below w.heap.size w w' := by
  have HZ := Lib.hid hz; clear hz
  have hs : (zt z).size ≤ 100000 := by rw [zt_size, zl_length]; have := HZ.out; split <;> omega
  go_enter Tryz.func180, Tryz.ntmps180
  go_wp2_with fail
  refine (check_any (zt z) _ (by omega)).mono ?_
  rintro e w2 ⟨he, hb2⟩
  rw [zt_toList, chkL_small HZ.out] at he
  subst he
  have Hb2 := Lib.hid hb2; clear hb2
  go_wp2_with fail
  refine (opposite_any z _ hs).mono ?_
  rintro e w3 ⟨rfl, rfl⟩
  go_wp2_with fail
  go_ret2
  exact ⟨rfl, Hb2.out⟩

/-- Both texts are short. -/
def SmallAt (a b : Int) (e : Ending) : Prop := ((zt a).size ≤ 9 ∧ (zt b).size ≤ 9 ∧ e = .returned (.tuple #[.int .i64 a, .int .i64 b, .bool true])) ∨ e = .returned (.tuple #[.int .i64 0, .int .i64 0, .bool false])

set_option maxHeartbeats 1000000 in
theorem small_any (a b : Int) (w : World) :
    Calls Tryz.prog 232 #[.string (zt a), .string (zt b)] w fun e w' => SmallAt a b e ∧ Below w.heap.size w w' := by
  by_cases h1 : (zt a).size ≤ 9
  · have hd1 : decide (((zt a).size : Int) > 9) = false := by simp; omega
    by_cases h2 : (zt b).size ≤ 9
    · have hd2 : decide (((zt b).size : Int) > 9) = false := by simp; omega
      go_enter Tryz.func232, Tryz.ntmps232
      go_wp2_with fail
      refine (atoiZ_any a _ (by omega)).mono ?_
      rintro e w1 ⟨rfl, hb1⟩
      have Hb1 := Lib.hid hb1; clear hb1
      go_wp2_with fail
      refine (atoiZ_any b _ (by omega)).mono ?_
      rintro e w2 ⟨rfl, hb2⟩
      have Hb2 := Lib.hid (Hb1.out.trans (hb2.mono Hb1.out.size)); clear hb2
      go_wp2_with fail
      go_ret3
      exact ⟨.inl ⟨h1, h2, rfl⟩, Hb2.out⟩
    · have hd2 : decide (((zt b).size : Int) > 9) = true := by simp; omega
      go_enter Tryz.func232, Tryz.ntmps232
      go_wp2_with fail
      go_ret3
      exact ⟨.inr rfl, Below.refl _ _⟩
  · have hd1 : decide (((zt a).size : Int) > 9) = true := by simp; omega
    go_enter Tryz.func232, Tryz.ntmps232
    go_wp2_with fail
    go_ret3
    exact ⟨.inr rfl, Below.refl _ _⟩

theorem nDigits_pow {n k m : Nat} (h : nDigits n ≤ k) (hk : 0 < k) (hm : k ≤ 9 * m) : (n : Int) < BB ^ m := by
  have h1 := (Metro.nDigits_le (k := k) hk).1 h
  have h2 : n < 10 ^ (9 * m) := Nat.lt_of_lt_of_le h1 (Nat.pow_le_pow_right (by decide) hm)
  have h3 : (BB : Int) ^ m = ((10 ^ (9 * m) : Nat) : Int) := by
    rw [BB_eq, show (1000000000 : Int) = ((10 ^ 9 : Nat) : Int) from rfl, Nat.pow_mul]
    norm_cast
  rw [h3]
  exact_mod_cast h2
theorem nDigits_lt (z : Int) (h : nDigits z.natAbs ≤ 1024) : (z.natAbs : Int) < BB ^ 114 := nDigits_pow h (by decide) (by decide)
theorem _root_.Metro.NumAt.abs {T : Nat} {w : World} {b : Nat} {z : Int} (h : NumAt T w b z) : ∃ l n f, Trim f n (z.natAbs : Int) ∧ n ≤ 232 ∧ WideAt T w b l n f ∧ sv l (z.natAbs : Int) = z := by
  obtain ⟨l, n, f, v, h1, h2, h3, h4⟩ := h
  have hv := h1.nonneg
  have : (z.natAbs : Int) = v := by rw [← h4]; unfold sv; split <;> omega
  exact ⟨l, n, f, by rw [this]; exact h1, h2, h3, by rw [this]; exact h4⟩
theorem _root_.Metro.NumAt.below {T B : Nat} {w w' : World} {b : Nat} {z : Int} (h : NumAt T w b z) (hb : Below B w w') (hB : b < B) : NumAt T w' b z := by
  obtain ⟨l, m, f, v, h1, h2, h3, h4⟩ := h
  exact ⟨l, m, f, v, h1, h2, h3.below hb hB, h4⟩
theorem _root_.Metro.NumAt.drewN {T : Nat} {w : World} {b : Nat} {z : Int} (h : NumAt T w b z) (n : Nat) : NumAt T (w.drewN n) b z := h
theorem _root_.Metro.NumAt.lt {T : Nat} {w : World} {b : Nat} {z : Int} (h : NumAt T w b z) : b < w.heap.size := by
  obtain ⟨l, m, f, v, h1, h2, h3, h4⟩ := h
  exact h3.lt
theorem numAt_zero (w : World) (l : Bool) : NumAt 267 (w.alloc (.cells (wideCells l 0 fun _ => 0) 267)) w.heap.size 0 :=
  ⟨l, 0, _, 0, ⟨⟨fun _ => ⟨Int.le_refl _, BB_pos⟩, fun _ _ => rfl, by rw [bs_zero]⟩, .inl rfl⟩, by decide, wideAt_new _ _ _ _ _, by cases l <;> rfl⟩

theorem plus_num (b1 b2 : Nat) (z1 z2 : Int) (w : World) (hb : b1 ≠ b2) (h1 : NumAt 267 w b1 z1) (h2 : NumAt 267 w b2 z2) (hlim : (z1.natAbs : Int) + z2.natAbs < BB ^ 232) :
    Calls Tryz.prog 253 #[.pointer (some ⟨b1, 0, none⟩), .pointer (some ⟨b2, 0, none⟩)] w fun e w' => e = .returned (.tuple #[]) ∧ NumAt 267 w' b1 (z1 + z2) ∧ w.grownBy w' (some b1) := by
  obtain ⟨l1, n1, f1, a1, a2, a3, a4⟩ := h1.abs
  obtain ⟨l2, n2, f2, c1, c2, c3, c4⟩ := h2.abs
  refine (plus_any b1 b2 n1 n2 l1 l2 f1 f2 _ _ w hb a2 c2 a3 c3 a1 c1 hlim).mono ?_
  rintro e w' ⟨rfl, h, g⟩
  rw [a4, c4] at h
  exact ⟨rfl, h, g⟩
end Go.Proofs.YtbpegjgpdgeadaaGreatDoor
namespace Go.Proofs.YtbpegjgpdgeadaaGreatDoor
open Go Go.RowKit Metro
open Go.Lib (nDigits decDigits)

set_option maxHeartbeats 2000000 in
set_option maxRecDepth 100000 in
theorem times_any (b1 b2 : Nat) (z1 z2 : Int) (w : World) (h1 : NumAt 267 w b1 z1) (h2 : NumAt 267 w b2 z2) (hz1 : (z1.natAbs : Int) < BB ^ 114) (hz2 : (z2.natAbs : Int) < BB ^ 114) :
    Calls Tryz.prog 235 #[.pointer (some ⟨b1, 0, none⟩), .pointer (some ⟨b2, 0, none⟩)] w fun e w' => ∃ b, e = .returned (.pointer (some ⟨b, 0, none⟩)) ∧ w.heap.size ≤ b ∧ NumAt 267 w' b (z1 * z2) ∧ Below w.heap.size w w' := by
  obtain ⟨l1, n1, f1, a1, a2, a3, a4⟩ := h1.abs
  obtain ⟨l2, n2, f2, c1, c2, c3, c4⟩ := h2.abs
  have hn1 : n1 ≤ 114 := a1.n_le hz1
  have hn2 : n2 ≤ 114 := c1.n_le hz2
  obtain ⟨v1, hv1⟩ : ∃ v1, v1 = (z1.natAbs : Int) := ⟨_, rfl⟩
  obtain ⟨v2, hv2⟩ : ∃ v2, v2 = (z2.natAbs : Int) := ⟨_, rfl⟩
  rw [← hv1] at a1 a4 hz1
  rw [← hv2] at c1 c4 hz2
  have A1 := Lib.hid a1; have C1 := Lib.hid c1; have A4 := Lib.hid a4; have C4 := Lib.hid c4; have Z1 := Lib.hid hz1; have Z2 := Lib.hid hz2
  clear a1 c1 a4 c4 hz1 hz2 h1 h2 a2 c2 hv1 hv2
  have k1 := a3.cell_less
  have k2 := c3.cell_less
  have k3 := c3.cell_n
  have hlt1 := a3.lt
  have hlt2 := c3.lt
  obtain ⟨L, hL⟩ : ∃ L, L = (l1 != l2) := ⟨_, rfl⟩
  have HL := Lib.hid hL; clear hL
  go_enter Tryz.func235, Tryz.ntmps235
  go_wp2_with fail
  go_region
  go_wp2_with fail
  have e0 : (Tryz.zeroCells267.setIfInBounds 0 (Value.bool (!(l1 == l2)))) = wideCells (!(l1 == l2)) 0 fun _ => 0 := by rw [zero267, wideCells_setLess]
  rw [e0]
  clear e0
  have hW : WideAt 267 ((w.alloc (.cells (wideCells (!(l1 == l2)) 0 fun _ => 0) 267)).drew) w.heap.size (!(l1 == l2)) 0 fun _ => 0 := (wideAt_new _ _ _ _ _).drew
  have hB0 : Below w.heap.size w ((w.alloc (.cells (wideCells (!(l1 == l2)) 0 fun _ => 0) 267)).drew) := ((Below.refl _ _).alloc (Nat.le_refl _) _).drew
  have hs0 : w.heap.size < ((w.alloc (.cells (wideCells (!(l1 == l2)) 0 fun _ => 0) 267)).drew).heap.size := by simp
  generalize ((w.alloc (.cells (wideCells (!(l1 == l2)) 0 fun _ => 0) 267)).drew) = W0 at hW hB0 hs0 ⊢
  go_loopg [6, 22] n2 (fun d s i wr => ∃ (k n : Nat) (f : Nat → Int), i = .int .i64 k ∧ k ≤ n2 ∧ d = n2 - k ∧ Trim f n (v1 * bs f2 k) ∧ n ≤ 232 ∧ WideAt 267 wr w.heap.size (!(l1 == l2)) n f ∧ Below w.heap.size w wr ∧ w.heap.size < wr.heap.size)
  case atStart => exact ⟨0, 0, _, rfl, Nat.zero_le _, rfl, by rw [bs_zero, Int.mul_zero]; exact ⟨⟨fun _ => ⟨Int.le_refl _, BB_pos⟩, fun _ _ => rfl, by rw [bs_zero]⟩, .inl rfl⟩, by decide, hW, hB0, hs0⟩
  case round =>
    obtain ⟨k, n, f, rfl, hk, rfl, ht, hn, hw, hb, hs⟩ := hrel
    have HT := Lib.hid ht; have HB := Lib.hid hb; clear ht hb
    by_cases hlt : k < n2
    · have hwx := a3.below HB.out hlt1
      have hwy := c3.below HB.out hlt2
      have cw := hwy.cell_word (i := k) (by omega)
      have hr := C1.out.inr k
      rw [BB_eq] at hr
      have hk0 : (0 : Int) ≤ (k : Int) := Int.natCast_nonneg _
      have hk3 : (k : Int) < 232 := by omega
      obtain ⟨V, hV⟩ : ∃ V, V = f2 k := ⟨_, rfl⟩
      rw [← hV] at cw hr
      have HV := Lib.hid hV; clear hV
      go_wp2_with fail
      have hlo : 0 ≤ v1 * bs f2 (k + 1) := Int.mul_nonneg A1.out.nonneg (bs_nonneg C1.out.inr _)
      have hhi : v1 * bs f2 (k + 1) < BB ^ 232 := by
        have h1 := bs_lt C1.out.inr (k + 1)
        have h2 : BB ^ (k + 1) ≤ BB ^ 114 := pow_mono (by omega)
        have h3 := bs_nonneg C1.out.inr (k + 1)
        have h4 := A1.out.nonneg
        have h5 : v1 * bs f2 (k + 1) ≤ BB ^ 114 * bs f2 (k + 1) := Int.mul_le_mul_of_nonneg_right (Int.le_of_lt Z1.out) h3
        have h6 : BB ^ 114 * bs f2 (k + 1) < BB ^ 114 * BB ^ 114 := Int.mul_lt_mul_of_pos_left (by omega) (BB_pow_pos _)
        have h7 : BB ^ 114 * BB ^ 114 ≤ BB ^ 232 := by rw [← Int.pow_add]; exact pow_mono (by decide)
        omega
      refine (carry_at w.heap.size b1 n n1 k _ rfl (!(l1 == l2)) l1 f f1 (v1 * bs f2 k) v1 V (v1 * bs f2 (k + 1)) _ (by omega) hn (by omega) (by omega) (by omega) hw hwx HT.out.toSpells A1.out.toSpells (by rw [bs_succ, ← HV.out, Int.mul_add, Int.mul_comm v1 (V * BB ^ k)]) hlo hhi).mono ?_
      rintro e w' ⟨rfl, m, f', h1, h2, h3⟩
      have H1 := Lib.hid h1
      have HB' := Lib.hid (HB.out.grown h3 (Nat.le_of_lt hs) (fun k hk => by have := Option.some.inj hk; omega))
      have hs' : w.heap.size < w'.heap.size := Nat.lt_of_lt_of_le hs h3.size
      clear h1 h3
      go_wp2_with fail
      go_roundg (n2 - (k + 1))
      case measure => omega
      case rel => exact ⟨k + 1, m, f', by go_num, by omega, rfl, H1.out, H1.out.n_le hhi, h2, HB'.out, hs'⟩
    · go_wp2_with fail
      go_ret
      have hkk : k = n2 := by omega
      subst hkk
      have ht := HT.out
      rw [C1.out.val] at ht
      refine ⟨w.heap.size, rfl, Nat.le_refl _, ⟨_, _, _, _, ht, hn, hw, ?_⟩, HB.out⟩
      have h1 := A4.out
      have h2 := C4.out
      rw [← h1, ← h2]
      cases l1 <;> cases l2 <;> simp [sv, Int.neg_mul, Int.mul_neg]

def sum2 (a b : Int) : Nat → Int | 0 => 0 | 1 => a | _ => a + b

set_option maxHeartbeats 2000000 in
set_option maxRecDepth 100000 in
theorem sum_anyN (N : Nat) (hN : N = 2) (a b : Int) (w : World) (hE : Env w) (T : Nat) (ha : nDigits a.natAbs ≤ 1024) (hb : nDigits b.natAbs ≤ 1024) (hs : nDigits (a + b).natAbs ≤ 1024) :
    Calls Tryz.prog 238 #[.slice (some ⟨w.heap.size, 0, none⟩) N N] (w.alloc (.cells #[.string (zt a), .string (zt b)] T)) fun e w' => e = .returned (.tuple #[.string (zt (a + b)), .int .i64 0]) ∧ Below w.heap.size w w' := by
  have hNle : N ≤ 2 := by omega
  have HN := Lib.hid hN; clear hN
  have hE' : Env (w.alloc (.cells #[.string (zt a), .string (zt b)] T)) := hE.below ((Below.refl _ _).alloc (Nat.le_refl _) _)
  have hc := pair_cells w T (zt a) (zt b)
  have hB0 : Below w.heap.size w (w.alloc (.cells #[.string (zt a), .string (zt b)] T)) := (Below.refl _ _).alloc (Nat.le_refl _) _
  have hsz : (w.alloc (.cells #[.string (zt a), .string (zt b)] T)).heap.size = w.heap.size + 1 := by simp
  obtain ⟨g, hg⟩ : ∃ g, g = w.heap.size := ⟨_, rfl⟩
  rw [← hg] at hc hB0 hsz ⊢
  generalize (w.alloc (.cells #[.string (zt a), .string (zt b)] T)) = W at hE' hc hB0 hsz ⊢
  have HC := Lib.hid hc; have HE := Lib.hid hE'; have HB0 := Lib.hid hB0; have HA := Lib.hid ha; have HBb := Lib.hid hb; have HS := Lib.hid hs; have HSZ := Lib.hid hsz; have HG := Lib.hid hg
  clear hc hE' hB0 ha hb hs hsz hE hg
  go_enter Tryz.func238, Tryz.ntmps238
  go_wp2_with fail
  have hW : NumAt 267 (W.alloc (.cells Tryz.zeroCells267 267)) W.heap.size 0 := by rw [zero267]; exact numAt_zero _ _
  have hB1 : Below W.heap.size W (W.alloc (.cells Tryz.zeroCells267 267)) := (Below.refl _ _).alloc (Nat.le_refl _) _
  have hs0 : W.heap.size < (W.alloc (.cells Tryz.zeroCells267 267)).heap.size := by simp
  generalize (W.alloc (.cells Tryz.zeroCells267 267)) = W0 at hW hB1 hs0 ⊢
  go_loopg [6, 11] N (fun d s i wr => ∃ (k : Nat), i = .int .i64 k ∧ k ≤ N ∧ d = N - k ∧ NumAt 267 wr W.heap.size (sum2 a b k) ∧ Below W.heap.size W wr ∧ W.heap.size < wr.heap.size)
  case atStart => exact ⟨0, rfl, Nat.zero_le _, rfl, hW, hB1, hs0⟩
  case round =>
    obtain ⟨k, rfl, hk, rfl, hx, hb, hs⟩ := hrel
    have HX := Lib.hid hx; have HB := Lib.hid hb; clear hx hb hW hB1
    by_cases hlt : k < N
    · obtain ⟨y, hy, hyc, hyn, hyl⟩ : ∃ y, sum2 a b (k + 1) = sum2 a b k + y ∧ W.cell? ⟨g, k, none⟩ = some (.string (zt y)) ∧ nDigits y.natAbs ≤ 1024 ∧ ((sum2 a b k).natAbs : Int) + y.natAbs < BB ^ 232 := by
        have hN := HN.out
        have hc := HC.out k (by omega)
        have h1 := nDigits_lt a HA.out
        have h2 := nDigits_lt b HBb.out
        have h3 : BB ^ 115 ≤ BB ^ 232 := pow_mono (by decide)
        have h4 : BB ^ 115 = BB ^ 114 * BB := Int.pow_succ _ _
        rw [BB_eq] at h1 h2 h3 h4 ⊢
        rcases (by omega : k = 0 ∨ k = 1) with rfl | rfl
        · exact ⟨a, by simp [sum2], hc, HA.out, by simp [sum2]; omega⟩
        · exact ⟨b, rfl, hc, HBb.out, by simp only [sum2]; omega⟩
      have hyw : wr.cell? ⟨g, k, none⟩ = some (.string (zt y)) := (HB.out.cell (p := ⟨g, k, none⟩) (World.block_lt_of_cell? W _ hyc)).trans hyc
      have HY := Lib.hid hy; have HYN := Lib.hid hyn; have HYL := Lib.hid hyl
      clear hy hyc hyn hyl
      go_wp2_with fail
      refine (read_any y _ (by have := HYN.out; omega)).mono ?_
      rintro e w1 ⟨c, rfl, hc1, hc2, hc3⟩
      have HX1 := Lib.hid (HX.out.below hc3 hs)
      have HC3 := Lib.hid (HB.out.trans (hc3.mono HB.out.size)); have HC2 := Lib.hid hc2
      have hs1 : wr.heap.size ≤ w1.heap.size := hc3.size
      clear hc3 hc2
      go_wp2_with fail
      refine (plus_num W.heap.size c (sum2 a b k) y _ (by omega) HX1.out HC2.out HYL.out).mono ?_
      rintro e w2 ⟨rfl, hx2, hg2⟩
      have HX2 := Lib.hid hx2
      have HB2 := Lib.hid (HC3.out.grown hg2 (by omega) (fun k hk => by have := Option.some.inj hk; omega))
      have hs2 : W.heap.size < w2.heap.size := Nat.lt_of_lt_of_le (by omega) hg2.size
      clear hx2 hg2
      go_wp2_with fail
      go_roundg (N - (k + 1))
      case measure => omega
      case rel => exact ⟨k + 1, by go_num, by omega, rfl, by rw [HY.out]; exact HX2.out, HB2.out, hs2⟩
    · have hk2 : k = 2 := by have := HN.out; omega
      subst hk2
      have HX' : Hid (NumAt 267 wr W.heap.size (a + b)) := HX
      have HE2 := Lib.hid (HE.out.below HB.out)
      clear HX
      have hlt' : ¬ 2 < N := by have := HN.out; omega
      go_wp2_with fail
      refine (limited_any W.heap.size (a + b) _ HE2.out HX'.out HS.out).mono ?_
      rintro e w3 ⟨rfl, hb3⟩
      have HB3 := Lib.hid (HB0.out.trans ((HB.out.trans (hb3.mono HB.out.size)).mono (by rw [HSZ.out]; omega)))
      go_wp2_with fail
      go_ret2
      exact ⟨rfl, HB3.out⟩

theorem sum_any (a b : Int) (w : World) (hE : Env w) (T : Nat) (ha : nDigits a.natAbs ≤ 1024) (hb : nDigits b.natAbs ≤ 1024) (hs : nDigits (a + b).natAbs ≤ 1024) :
    Calls Tryz.prog 238 #[.slice (some ⟨w.heap.size, 0, none⟩) 2 2] (w.alloc (.cells #[.string (zt a), .string (zt b)] T)) fun e w' => e = .returned (.tuple #[.string (zt (a + b)), .int .i64 0]) ∧ Below w.heap.size w w' :=
  sum_anyN 2 rfl a b w hE T ha hb hs

set_option maxHeartbeats 2000000 in
set_option maxRecDepth 100000 in
theorem add_any (a b : Int) (w : World) (hE : Env w) (ha : nDigits a.natAbs ≤ 1024) (hb : nDigits b.natAbs ≤ 1024) (hs : nDigits (a + b).natAbs ≤ 1024) :
    Calls Tryz.prog 213 #[.string (zt a), .string (zt b)] w fun e w' => e = .returned (.tuple #[.string (zt (a + b)), .int .i64 0]) ∧ Below w.heap.size w w' := by
  have HE := Lib.hid hE; have HA := Lib.hid ha; have HBb := Lib.hid hb; have HS := Lib.hid hs
  clear hE ha hb hs
  go_enter Tryz.func213, Tryz.ntmps213
  go_wp2_with fail
  refine (all2_any a b _ w HA.out HBb.out).mono ?_
  rintro e w1 ⟨rfl, hb1⟩
  have HB1 := Lib.hid hb1; clear hb1
  go_wp2_with fail
  refine (small_any a b _).mono ?_
  rintro e w2 ⟨he, hb2⟩
  have HB2 := Lib.hid (HB1.out.trans (hb2.mono HB1.out.size)); clear hb2
  have HE2 := Lib.hid (HE.out.below HB2.out)
  rcases he with ⟨h1, h2, rfl⟩ | rfl
  · have hA := nDigits_pow (n := a.natAbs) (k := 9) (m := 1) (by rw [zt_size, zl_length] at h1; omega) (by decide) (by decide)
    have hB := nDigits_pow (n := b.natAbs) (k := 9) (m := 1) (by rw [zt_size, zl_length] at h2; omega) (by decide) (by decide)
    rw [Int.pow_one, BB_eq] at hA hB
    go_wp2_with fail
    refine (result_any (a + b) _ (by omega) (by omega) HE2.out).mono ?_
    rintro e w3 ⟨rfl, hb3⟩
    have HB3 := Lib.hid (HB2.out.trans (hb3.mono HB2.out.size)); clear hb3
    go_wp2_with fail
    go_ret2
    exact ⟨rfl, HB3.out⟩
  · go_wp2_with fail
    refine (sum_any a b _ HE2.out _ HA.out HBb.out HS.out).mono ?_
    rintro e w3 ⟨rfl, hb3⟩
    have HB3 := Lib.hid (HB2.out.trans (hb3.mono HB2.out.size)); clear hb3
    go_wp2_with fail
    go_ret2
    exact ⟨rfl, HB3.out⟩

set_option maxHeartbeats 2000000 in
set_option maxRecDepth 100000 in
theorem sub_any (a b : Int) (w : World) (hE : Env w) (ha : nDigits a.natAbs ≤ 1024) (hb : nDigits b.natAbs ≤ 1024) (hs : nDigits (a - b).natAbs ≤ 1024) :
    Calls Tryz.prog 237 #[.string (zt a), .string (zt b)] w fun e w' => e = .returned (.tuple #[.string (zt (a - b)), .int .i64 0]) ∧ Below w.heap.size w w' := by
  have HE := Lib.hid hE; have HA := Lib.hid ha; have HBb := Lib.hid hb; have HS := Lib.hid hs
  have hz : (zt b).size ≤ 100000 := by rw [zt_size, zl_length]; split <;> omega
  clear hE ha hb hs
  go_enter Tryz.func237, Tryz.ntmps237
  go_wp2_with fail
  refine (all2_any a b _ w HA.out HBb.out).mono ?_
  rintro e w1 ⟨rfl, hb1⟩
  have HB1 := Lib.hid hb1; clear hb1
  go_wp2_with fail
  refine (opposite_any b _ hz).mono ?_
  rintro e w2 ⟨rfl, rfl⟩
  have HE2 := Lib.hid (HE.out.below HB1.out)
  go_wp2_with fail
  refine (add_any a (-b) _ HE2.out HA.out (by rw [Int.natAbs_neg]; exact HBb.out) (by rw [← Int.sub_eq_add_neg]; exact HS.out)).mono ?_
  rintro e w3 ⟨rfl, hb3⟩
  have HB3 := Lib.hid (HB1.out.trans (hb3.mono HB1.out.size)); clear hb3
  go_wp2_with fail
  go_ret2
  exact ⟨by rw [Int.sub_eq_add_neg]; rfl, HB3.out⟩

set_option maxHeartbeats 2000000 in
set_option maxRecDepth 100000 in
theorem mul_any (a b : Int) (w : World) (hE : Env w) (ha : nDigits a.natAbs ≤ 1024) (hb : nDigits b.natAbs ≤ 1024) (hs : nDigits (a * b).natAbs ≤ 1024) :
    Calls Tryz.prog 208 #[.string (zt a), .string (zt b)] w fun e w' => e = .returned (.tuple #[.string (zt (a * b)), .int .i64 0]) ∧ Below w.heap.size w w' := by
  have HE := Lib.hid hE; have HA := Lib.hid ha; have HBb := Lib.hid hb; have HS := Lib.hid hs
  clear hE ha hb hs
  go_enter Tryz.func208, Tryz.ntmps208
  go_wp2_with fail
  refine (all2_any a b _ w HA.out HBb.out).mono ?_
  rintro e w1 ⟨rfl, hb1⟩
  have HB1 := Lib.hid hb1; clear hb1
  go_wp2_with fail
  refine (small_any a b _).mono ?_
  rintro e w2 ⟨he, hb2⟩
  have HB2 := Lib.hid (HB1.out.trans (hb2.mono HB1.out.size)); clear hb2
  have HE2 := Lib.hid (HE.out.below HB2.out)
  rcases he with ⟨h1, h2, rfl⟩ | rfl
  · have hA := nDigits_pow (n := a.natAbs) (k := 9) (m := 1) (by rw [zt_size, zl_length] at h1; omega) (by decide) (by decide)
    have hB := nDigits_pow (n := b.natAbs) (k := 9) (m := 1) (by rw [zt_size, zl_length] at h2; omega) (by decide) (by decide)
    rw [Int.pow_one, BB_eq] at hA hB
    have hm : ((a * b).natAbs : Int) ≤ 1000000000 * 1000000000 := by
      rw [Int.natAbs_mul, Int.natCast_mul]
      exact Int.mul_le_mul (by omega) (by omega) (by omega) (by omega)
    have hm1 : -9223372036854775808 ≤ a * b := by omega
    have hm2 : a * b ≤ 9223372036854775807 := by omega
    go_wp2_with fail
    refine (result_any (a * b) _ hm1 hm2 HE2.out).mono ?_
    rintro e w3 ⟨rfl, hb3⟩
    have HB3 := Lib.hid (HB2.out.trans (hb3.mono HB2.out.size)); clear hb3
    go_wp2_with fail
    go_ret2
    exact ⟨rfl, HB3.out⟩
  · go_wp2_with fail
    refine (read_any a _ (by have := HA.out; omega)).mono ?_
    rintro e w3 ⟨c1, rfl, hc1, hc2, hc3⟩
    have HC2 := Lib.hid hc2
    have hs3 := hc2.lt
    have HB3 := Lib.hid (HB2.out.trans (hc3.mono HB2.out.size)); clear hc3 hc2
    go_wp2_with fail
    refine (read_any b _ (by have := HBb.out; omega)).mono ?_
    rintro e w4 ⟨d1, rfl, hd1, hd2, hd3⟩
    have HD2 := Lib.hid hd2
    have HC4 := Lib.hid (HC2.out.below hd3 hs3)
    have HB4 := Lib.hid (HB3.out.trans (hd3.mono HB3.out.size)); clear hd3 hd2
    go_wp2_with fail
    refine (times_any c1 d1 a b _ HC4.out HD2.out (nDigits_lt a HA.out) (nDigits_lt b HBb.out)).mono ?_
    rintro e w5 ⟨e1, rfl, he1, he2, he3⟩
    have HE5 := Lib.hid he2
    have HB5 := Lib.hid (HB4.out.trans (he3.mono HB4.out.size)); clear he3 he2
    have HEE := Lib.hid (HE.out.below HB5.out)
    go_wp2_with fail
    refine (limited_any e1 (a * b) _ HEE.out HE5.out HS.out).mono ?_
    rintro e w6 ⟨rfl, hb6⟩
    have HB6 := Lib.hid (HB5.out.trans (hb6.mono HB5.out.size)); clear hb6
    go_wp2_with fail
    go_ret2
    exact ⟨rfl, HB6.out⟩
end Go.Proofs.YtbpegjgpdgeadaaGreatDoor
namespace Go.Proofs.YtbpegjgpdgeadaaGreatDoor
open Go Go.RowKit Metro
open Go.Lib (nDigits decDigits)

/-- The word at a place, 0 where there is none. -/
def topAt (n : Nat) (f : Nat → Int) (i : Int) : Int := if 0 ≤ i ∧ i < n then f i.toNat else 0

set_option maxHeartbeats 1000000 in
set_option maxRecDepth 100000 in
theorem top_any (b n : Nat) (l : Bool) (f : Nat → Int) (i : Int) (w : World) (hn : n ≤ 232) (h : WideAt 267 w b l n f) :
    Calls Tryz.prog 281 #[.pointer (some ⟨b, 0, none⟩), .int .i64 i] w fun e w' => e = .returned (.int .i64 (topAt n f i)) ∧ w' = w := by
  have c1 := h.cell_n
  by_cases h1 : i < 0
  · have e : topAt n f i = 0 := if_neg (by omega)
    have HE := Lib.hid e; clear e
    go_enter Tryz.func281, Tryz.ntmps281
    go_wp2
    go_ret
    exact ⟨by rw [HE.out]; rfl, rfl⟩
  · by_cases h2 : (n : Int) ≤ i
    · have e : topAt n f i = 0 := if_neg (by omega)
      have HE := Lib.hid e; clear e
      go_enter Tryz.func281, Tryz.ntmps281
      go_wp2
      go_ret
      exact ⟨by rw [HE.out]; rfl, rfl⟩
    · obtain ⟨k, rfl⟩ : ∃ k : Nat, i = k := ⟨i.toNat, by omega⟩
      have e : topAt n f k = f k := if_pos ⟨by omega, by omega⟩
      have HE := Lib.hid e; clear e
      have c2 := h.cell_word (i := k) (by omega)
      have h4 : (k : Int) < 232 := by omega
      have h5 : k < n := by omega
      have h6 : ¬ n ≤ k := by omega
      clear h1 h2
      go_enter Tryz.func281, Tryz.ntmps281
      go_wp2
      go_ret
      exact ⟨by rw [HE.out]; rfl, rfl⟩

set_option maxHeartbeats 2000000 in
set_option maxRecDepth 100000 in
theorem estimate_any (b1 b2 n m : Nat) (l1 l2 : Bool) (f g : Nat → Int) (u v : Int) (w : World) (hn : n ≤ m + 1) (hm : m ≤ 230) (hm0 : 0 < m) (h1 : WideAt 267 w b1 l1 n f) (h2 : WideAt 267 w b2 l2 m g) (hf : Spells f n u) (hg : Trim g m v) (huv : v ≤ u) :
    Calls Tryz.prog 265 #[.pointer (some ⟨b1, 0, none⟩), .pointer (some ⟨b2, 0, none⟩)] w fun e w' => ∃ k nq, e = .returned (.int .i64 k) ∧ 1 ≤ k ∧ k ≤ 999999999 ∧ k * v ≤ u ∧ w' = w.drewN nq := by
  have ht1 : topAt n f m = f m := by
    unfold topAt; split
    · rfl
    · rw [hf.zero m (by omega)]
  have hm1 : ((m : Int) - 1).toNat = m - 1 := by omega
  have ht2 : topAt n f ((m : Int) - 1) = f (m - 1) := by
    unfold topAt; split
    · rw [hm1]
    · rw [hf.zero (m - 1) (by omega)]
  have ht3 : topAt m g ((m : Int) - 1) = g (m - 1) := by
    unfold topAt; rw [if_pos (by omega), hm1]
  have r1 := hf.inr m
  have r2 := hf.inr (m - 1)
  have r3 := hg.inr (m - 1)
  have hb : ∃ b : Int, b = if 1 < m then g (m - 1) + 1 else g (m - 1) := ⟨_, rfl⟩
  obtain ⟨bb, hb⟩ := hb
  have hest := estimate_ok hf hg hm0 hn huv (a := f m * BB + f (m - 1)) rfl hb rfl
  rw [BB_eq] at r1 r2 r3 hest
  obtain ⟨A, hA⟩ : ∃ A, A = f m := ⟨_, rfl⟩
  obtain ⟨B, hB⟩ : ∃ B, B = f (m - 1) := ⟨_, rfl⟩
  obtain ⟨C, hC⟩ : ∃ C, C = g (m - 1) := ⟨_, rfl⟩
  rw [← hA] at ht1 r1 hest
  rw [← hB] at ht2 r2 hest
  rw [← hC] at ht3 r3 hb
  have c1 : ∀ k, Calls Tryz.prog 281 #[.pointer (some ⟨b1, 0, none⟩), .int .i64 m] (w.drewN k) fun e w' => e = .returned (.int .i64 A) ∧ w' = w.drewN k := fun k => by
    have := top_any b1 n l1 f m (w.drewN k) (by omega) (h1.drewN k)
    rwa [ht1] at this
  have c2 : ∀ k, Calls Tryz.prog 281 #[.pointer (some ⟨b1, 0, none⟩), .int .i64 ((m : Int) - 1)] (w.drewN k) fun e w' => e = .returned (.int .i64 B) ∧ w' = w.drewN k := fun k => by
    have := top_any b1 n l1 f ((m : Int) - 1) (w.drewN k) (by omega) (h1.drewN k)
    rwa [ht2] at this
  have c3 : ∀ k, Calls Tryz.prog 281 #[.pointer (some ⟨b2, 0, none⟩), .int .i64 ((m : Int) - 1)] (w.drewN k) fun e w' => e = .returned (.int .i64 C) ∧ w' = w.drewN k := fun k => by
    have := top_any b2 m l2 g ((m : Int) - 1) (w.drewN k) (by omega) (h2.drewN k)
    rwa [ht3] at this
  have C1 := Lib.hid c1; have C2 := Lib.hid c2; have C3 := Lib.hid c3
  have k2 := h2.cell_n
  obtain ⟨hb0, ha0, hk1, hk2⟩ := hest
  have HK1 := Lib.hid hk1
  have HK2 := Lib.hid hk2
  have HB := Lib.hid hb
  clear c1 c2 c3 ht1 ht2 ht3 hA hB hC hf hg h1 h2 huv hk1 hk2 hb hm1
  have hw1 : IntKind.i64.wrap ((m : Int) - 1) = (m : Int) - 1 := by rw [IntKind.wrap_i64]; omega
  have hw2 : IntKind.i64.wrap (A * 1000000000) = A * 1000000000 := by rw [IntKind.wrap_i64]; omega
  have hw3 : IntKind.i64.wrap (A * 1000000000 + B) = A * 1000000000 + B := by rw [IntKind.wrap_i64]; omega
  by_cases h1m : 1 < m
  · have e := HB.out
    rw [if_pos h1m] at e
    subst e
    clear HB
    by_cases hk0 : 0 < (A * 1000000000 + B) / (C + 1)
    · have H1 := HK1.out; have H2 := HK2.out
      rw [if_pos hk0] at H1 H2
      have HK1 := Lib.hid H1; have HK2 := Lib.hid H2
      clear H1 H2
      go_enter Tryz.func265, Tryz.ntmps265
      go_wp2_with fail
      go_quiet (first
        | (go_at_call 281; with_reducible exact Calls.quiet_of_same (C1.out _))
        | (go_at_call 281; with_reducible exact Calls.quiet_of_same (C2.out _))
        | (go_at_call 281; with_reducible exact Calls.quiet_of_same (C3.out _)))
      go_wp2_with fail
      go_ret
      exact ⟨_, _, rfl, HK2.out, by omega, HK1.out, rfl⟩
    · have H1 := HK1.out; have H2 := HK2.out
      rw [if_neg hk0] at H1 H2
      have HK1 := Lib.hid H1; have HK2 := Lib.hid H2
      clear H1 H2
      go_enter Tryz.func265, Tryz.ntmps265
      go_wp2_with fail
      go_quiet (first
        | (go_at_call 281; with_reducible exact Calls.quiet_of_same (C1.out _))
        | (go_at_call 281; with_reducible exact Calls.quiet_of_same (C2.out _))
        | (go_at_call 281; with_reducible exact Calls.quiet_of_same (C3.out _)))
      go_wp2_with fail
      go_ret
      exact ⟨_, _, rfl, HK2.out, by omega, HK1.out, rfl⟩
  · have e := HB.out
    rw [if_neg h1m] at e
    subst e
    clear HB
    by_cases hk0 : 0 < (A * 1000000000 + B) / bb
    · have H1 := HK1.out; have H2 := HK2.out
      rw [if_pos hk0] at H1 H2
      have HK1 := Lib.hid H1; have HK2 := Lib.hid H2
      clear H1 H2
      go_enter Tryz.func265, Tryz.ntmps265
      go_wp2_with fail
      go_quiet (first
        | (go_at_call 281; with_reducible exact Calls.quiet_of_same (C1.out _))
        | (go_at_call 281; with_reducible exact Calls.quiet_of_same (C2.out _))
        | (go_at_call 281; with_reducible exact Calls.quiet_of_same (C3.out _)))
      go_wp2_with fail
      go_ret
      exact ⟨_, _, rfl, HK2.out, by omega, HK1.out, rfl⟩
    · have H1 := HK1.out; have H2 := HK2.out
      rw [if_neg hk0] at H1 H2
      have HK1 := Lib.hid H1; have HK2 := Lib.hid H2
      clear H1 H2
      go_enter Tryz.func265, Tryz.ntmps265
      go_wp2_with fail
      go_quiet (first
        | (go_at_call 281; with_reducible exact Calls.quiet_of_same (C1.out _))
        | (go_at_call 281; with_reducible exact Calls.quiet_of_same (C2.out _))
        | (go_at_call 281; with_reducible exact Calls.quiet_of_same (C3.out _)))
      go_wp2_with fail
      go_ret
      exact ⟨_, _, rfl, HK2.out, by omega, HK1.out, rfl⟩
end Go.Proofs.YtbpegjgpdgeadaaGreatDoor
namespace Go.Proofs.YtbpegjgpdgeadaaGreatDoor
open Go Go.RowKit Metro
open Go.Lib (nDigits decDigits)

theorem one3 : (Tryz.prog.info? 3).map (·.size) = some 1 := by kernel_rfl

theorem addr_add (R j : Nat) : (⟨R, 2, none⟩ : Addr).add j = ⟨R, 2 + j, none⟩ := by
  unfold Addr.add; split <;> simp_all
/-- The words of rest one place higher. -/
def shifted (f : Nat → Int) : Nat → Int | 0 => f 0 | j + 1 => f j

theorem upd_shifted (f : Nat → Int) (v : Int) : upd (shifted f) 0 v = push f v := by
  funext j
  cases j with
  | zero => rw [upd_same]; rfl
  | succ j => rw [upd_other _ _ (by omega)]; rfl

theorem splice_words (l : Bool) (n : Nat) (f : Nat → Int) (hz : ∀ j, n ≤ j → f j = 0) (hn : n < 232) :
    (splice (wideCells l n f).toList 3 ((List.range n).map fun i => Value.int .i64 (f i))).toArray = wideCells l n (shifted f) := by
  apply Array.ext'
  unfold splice wideCells
  apply List.ext_getElem
  · simp; omega
  · intro j h1 h2
    match j with
    | 0 => simp
    | 1 => simp
    | 2 => simp [shifted]
    | j + 3 =>
      have hj : j < 231 := by simp at h2; omega
      by_cases hjn : j < n
      · simp [hjn, shifted]
      · have e : 3 + n + (j - n) = j + 3 := by omega
        simp [List.getElem_append, hjn, shifted, e, hz j (by omega), hz (j + 1) (by omega)]

set_option maxHeartbeats 4000000 in
set_option maxRecDepth 100000 in
theorem divided_any (b1 b2 nx ny : Nat) (lx ly : Bool) (fx fy : Nat → Int) (vx vy : Int) (w : World) (hnx : nx ≤ 232) (hny : ny ≤ 200) (hx : WideAt 267 w b1 lx nx fx) (hy : WideAt 267 w b2 ly ny fy) (hsx : Trim fx nx vx) (hsy : Trim fy ny vy) (hv : 0 < vy) :
    Calls Tryz.prog 244 #[.pointer (some ⟨b1, 0, none⟩), .pointer (some ⟨b2, 0, none⟩)] w fun e w' => ∃ bq br, e = .returned (.tuple #[.pointer (some ⟨bq, 0, none⟩), .pointer (some ⟨br, 0, none⟩)]) ∧ w.heap.size ≤ bq ∧ bq < br ∧
      (∃ n f, Trim f n (vx / vy) ∧ n ≤ 232 ∧ WideAt 267 w' bq false n f) ∧ (∃ n f, Trim f n (vx % vy) ∧ n ≤ 232 ∧ WideAt 267 w' br false n f) ∧ Below w.heap.size w w' := by
  have HX := Lib.hid hsx; have HY := Lib.hid hsy; have HV := Lib.hid hv
  have hlx := hx.lt
  have hly := hy.lt
  have c1 := hx.cell_n
  have hny0 : 0 < ny := by
    rcases Nat.eq_zero_or_pos ny with h | h
    · have := hsy.zero_iff.1 h; omega
    · exact h
  clear hsx hsy hv
  go_enter Tryz.func244, Tryz.ntmps244
  go_wp2_with fail
  have hQ : WideAt 267 ((w.alloc (.cells Tryz.zeroCells267 267)).alloc (.cells Tryz.zeroCells267 267)) w.heap.size false 0 fun _ => 0 := by
    rw [zero267]; exact (wideAt_new _ _ _ _ _).alloc _
  have hRr : WideAt 267 ((w.alloc (.cells Tryz.zeroCells267 267)).alloc (.cells Tryz.zeroCells267 267)) (w.heap.size + 1) false 0 fun _ => 0 := by
    rw [zero267]
    have := wideAt_new 267 (w.alloc (.cells (wideCells false 0 fun _ => 0) 267)) false 0 fun _ => 0
    have e : (w.alloc (.cells (wideCells false 0 fun _ => 0) 267)).heap.size = w.heap.size + 1 := by simp
    rw [e] at this
    exact this
  have hB0 : Below w.heap.size w ((w.alloc (.cells Tryz.zeroCells267 267)).alloc (.cells Tryz.zeroCells267 267)) := ((Below.refl _ _).alloc (Nat.le_refl _) _).alloc (by simp) _
  have hs0 : w.heap.size + 1 < ((w.alloc (.cells Tryz.zeroCells267 267)).alloc (.cells Tryz.zeroCells267 267)).heap.size := by simp
  obtain ⟨R, hR⟩ : ∃ R, R = w.heap.size + 1 := ⟨_, rfl⟩
  obtain ⟨S, hS⟩ : ∃ S, S = w.heap.size := ⟨_, rfl⟩
  have hRS : S < R := by omega
  have hRb2 : R ≠ b2 := by omega
  rw [← hR] at hRr hs0 ⊢
  rw [← hS] at hQ hB0 ⊢
  generalize ((w.alloc (.cells Tryz.zeroCells267 267)).alloc (.cells Tryz.zeroCells267 267)) = W0 at hQ hRr hB0 hs0 ⊢
  have HQ := Lib.hid hQ; have HR := Lib.hid hRr; have HB0 := Lib.hid hB0; have HSe := Lib.hid hS; have HRe := Lib.hid hR
  clear hQ hRr hB0 hS hR
  go_loopg [8, 9, 10] nx (fun d i dg k wr => ∃ (nq nr : Nat) (fq fr : Nat → Int) (vr : Int), i = .int .i64 ((d : Int) - 1) ∧ d ≤ nx ∧ Dived fx fq nx d vx vy vr ∧ (nq ≤ nx ∧ ∀ j, nq ≤ j → fq j = 0) ∧ WideAt 267 wr S false nq fq ∧ Trim fr nr vr ∧ WideAt 267 wr R false nr fr ∧ Below S w wr ∧ R < wr.heap.size)
  case atStart => exact ⟨0, 0, _, _, 0, rfl, Nat.le_refl _, Dived.start HX.out.val HV.out, ⟨Nat.zero_le _, fun _ _ => rfl⟩, HQ.out, ⟨⟨fun _ => ⟨Int.le_refl _, BB_pos⟩, fun _ _ => rfl, by rw [bs_zero]⟩, .inl rfl⟩, HR.out, HB0.out, hs0⟩
  case round =>
    obtain ⟨nq, nr, fq, fr, vr, rfl, hd, hdiv, ⟨hnq, hzq⟩, hwq, htr, hwr, hb, hs⟩ := hrel
    have HD := Lib.hid hdiv; have HZq := Lib.hid hzq; have HTr := Lib.hid htr; have HB := Lib.hid hb
    clear hdiv hzq htr hb
    by_cases hg : gk = 0
    · subst hg
      have hd := HD.out.done
      have hqs : Spells fq nq (vx / vy) := by
        have e : bs fq nq = bs fq nx := (bs_more HZq.out hnq).symm
        exact ⟨HD.out.inr, HZq.out, by rw [e]; exact hd.1⟩
      have HQs := Lib.hid hqs; have Hd := Lib.hid hd.2; clear hqs hd
      have hRw : WideAt 267 wr R false nr fr := hwr
      go_wp2_with fail
      refine (trimmed_any S nq false fq (vx / vy) _ (by omega) hwq HQs.out).mono ?_
      rintro e w2 ⟨m, rfl, ht, hw2, hg2⟩
      have hR2 := hwr.grown hg2 (by omega)
      have HB2 := Lib.hid (HB.out.grown hg2 (by omega) (fun k hk => by have := Option.some.inj hk; omega))
      have HT2 := Lib.hid ht
      clear hg2 ht
      go_wp2_with fail
      go_ret2
      have hvr := HTr.out
      rw [Hd.out] at hvr
      have hSe := HSe.out
      refine ⟨S, R, rfl, by omega, hRS, ⟨m, fq, HT2.out, ?_, hw2⟩, ⟨nr, fr, hvr, ?_, hR2⟩, by rw [← hSe]; exact HB2.out⟩
      · have h1 := HX.out.lt
        have h2 : vx / vy ≤ vx := Int.ediv_le_self _ HX.out.nonneg
        exact HT2.out.n_le (Int.lt_of_lt_of_le (Int.lt_of_le_of_lt h2 h1) (pow_mono hnx))
      · have h1 := HY.out.lt
        have h2 : vx % vy < vy := Int.emod_lt_of_pos _ HV.out
        exact hvr.n_le (Int.lt_of_lt_of_le (Int.lt_trans h2 h1) (pow_mono (by omega)))
    · obtain ⟨g, rfl⟩ : ∃ g, gk = g + 1 := ⟨gk - 1, by omega⟩
      have e1 : (((g + 1 : Nat) : Int) - 1) = (g : Int) := by omega
      rw [e1]
      clear e1
      have hi : 0 ≤ (g : Int) := Int.natCast_nonneg _
      have hi3 : (g : Int) < 232 := by omega
      have hnr : nr ≤ ny := HTr.out.n_le (Int.lt_trans HD.out.hi HY.out.lt)
      have cn := hwr.cell_n
      have hnr0 : (0 : Int) ≤ (nr : Int) := Int.natCast_nonneg _
      have hnr1 : (nr : Int) ≤ 232 := by omega
      have hcur : wr.heap[R]? = some (.cells (wideCells false nr fr).toList.toArray 267 (0, 0)) := by rw [Array.toArray_toList]; exact hwr
      obtain ⟨cs, hcs⟩ : ∃ cs, cs = (List.range nr).map fun i => Value.int .i64 (fr i) := ⟨_, rfl⟩
      obtain ⟨cur, hcu⟩ : ∃ cur, cur = (wideCells false nr fr).toList := ⟨_, rfl⟩
      rw [← hcu] at hcur
      have hcl : cs.length = nr := by rw [hcs]; simp
      have hcul : cur.length = 234 := by rw [hcu]; simp [wideCells_size]
      have hsrc : ∀ j v, cs[j]? = some v → wr.cell? ((⟨R, 2, none⟩ : Addr).add j) = some v := by
        intro j v hj
        rw [hcs] at hj
        have hjn : j < nr := by
          rcases Nat.lt_or_ge j nr with h | h
          · exact h
          · simp [h] at hj
        simp [hjn] at hj
        subst hj
        rw [addr_add]
        exact hwr.cell_word (i := j) (by omega)
      have hone : ∀ v ∈ cs, v.oneCell' = true := by
        intro v hv
        rw [hcs] at hv
        simp only [List.mem_map] at hv
        obtain ⟨i, _, rfl⟩ := hv
        rfl
      have HCS := Lib.hid hcs; have HCU := Lib.hid hcu; have HCL := Lib.hid hcl; have HCUL := Lib.hid hcul; have HSRC := Lib.hid hsrc; have HONE := Lib.hid hone; have HCUR := Lib.hid hcur
      clear hcs hcu hcl hcul hsrc hone hcur
      go_wp2_with fail
      go_region_law (refine step_copy_splice rfl (.tmp 27) (.tmp 35) 67 67 rfl 3 Tryz.underlying67 one3 _ _ _ _ _ _ rfl rfl R 3 cur 267 HCUR.out cs (HCL.out.trans (Nat.min_eq_left (by omega)).symm) (fun _ => ⟨rfl, _, rfl, HSRC.out⟩) (by rw [HCL.out, HCUL.out]; omega) HONE.out R wr ((Below.refl R wr).drew) (Nat.le_refl _) ?_; intro w4 hg4 hb4)
      have hwr4 : WideAt 267 w4 R false nr (shifted fr) := by
        have h := hg4.out
        rw [HCS.out, HCU.out, splice_words false nr fr HTr.out.zero (by omega)] at h
        exact h
      have hq4 := hwq.below hb4 hRS
      have HB4 := Lib.hid (HB.out.trans (hb4.mono (by omega)))
      have hs4 : R < w4.heap.size := Nat.lt_of_lt_of_le hs hb4.size
      have hSe := HSe.out
      have hx4 := hx.below HB4.out (by omega)
      have hy4 := hy.below HB4.out (by omega)
      have HSe := Lib.hid hSe
      clear hb4 hg4 HCS HCU HCL HCUL HSRC HONE HCUR hSe cn hwq hwr
      have kx := hx4.cell_word (i := g) (by omega)
      obtain ⟨X, hX⟩ : ∃ X, X = fx (g) := ⟨_, rfl⟩
      have hXr := HX.out.inr (g)
      rw [BB_eq] at hXr
      rw [← hX] at kx hXr
      have HXe := Lib.hid hX; clear hX
      have f2 := hwr4.free 2
      have f3 := hwr4.cell_word (i := 0) (by omega)
      have f1 := hwr4.free 1
      have cn := hwr4.cell_n
      go_wp2_with fail
      go_region
      go_wp2_with fail
      have hw5 : WideAt 267 ((w4.setCell ⟨R, 2, none⟩ (.int .i64 X)).setCell ⟨R, 1, none⟩ (.int .i64 ((nr : Int) + 1))).drew R false (nr + 1) (push fr X) := by
        rw [show ((nr : Int) + 1) = ((nr + 1 : Nat) : Int) from by omega]
        have h := (hwr4.setWord 0 X).setN (nr + 1)
        rw [upd_shifted] at h
        exact h.drew
      have hb5 : Below R w4 ((w4.setCell ⟨R, 2, none⟩ (.int .i64 X)).setCell ⟨R, 1, none⟩ (.int .i64 ((nr : Int) + 1))).drew := (((Below.refl R w4).setCell (p := ⟨R, 2, none⟩) (Nat.le_refl _) _).setCell (p := ⟨R, 1, none⟩) (Nat.le_refl _) _).drew
      generalize ((w4.setCell ⟨R, 2, none⟩ (.int .i64 X)).setCell ⟨R, 1, none⟩ (.int .i64 ((nr : Int) + 1))).drew = w5 at hw5 hb5 ⊢
      have hsp : Spells (push fr X) (nr + 1) (X + BB * vr) := HTr.out.toSpells.push hXr.1 (by rw [BB_eq]; exact hXr.2)
      have HSP := Lib.hid hsp; clear hsp
      have HB5 := Lib.hid hb5; clear hb5
      clear hwr4 kx f2 f3 f1 cn
      refine (trimmed_any R (nr + 1) false (push fr X) (X + BB * vr) _ (by omega) hw5 HSP.out).mono ?_
      rintro e w6 ⟨m6, rfl, ht6, hw6, hg6⟩
      have HB6 := Lib.hid (HB5.out.grown hg6 (by have := HB5.out.size; omega) (fun k hk => by have := Option.some.inj hk; omega))
      have HT6 := Lib.hid ht6
      have hs6 : R < w6.heap.size := Nat.lt_of_lt_of_le hs4 HB6.out.size
      have hq6 := hq4.below HB6.out hRS
      clear hg6 ht6 hw5
      go_wp2_with fail
      go_loopg [9, 10] (X + BB * vr).toNat (fun d dg k wr => ∃ (D V : Int) (n : Nat) (f : Nat → Int), dg = .int .i64 D ∧ 0 ≤ D ∧ X + BB * vr = D * vy + V ∧ d = V.toNat ∧ Trim f n V ∧ WideAt 267 wr R false n f ∧ Below R w6 wr)
      case atStart => exact ⟨0, X + BB * vr, m6, _, rfl, Int.le_refl _, by omega, rfl, HT6.out, hw6, Below.refl _ _⟩
      case round =>
        obtain ⟨D, V, n, f, rfl, hD, hval, rfl, ht, hwrI, hb7⟩ := hrel
        have HT7 := Lib.hid ht; have HVAL := Lib.hid hval; have HB7 := Lib.hid hb7
        have hs7 : R < wr.heap.size := Nat.lt_of_lt_of_le hs6 hb7.size
        have HBw := Lib.hid (HB4.out.trans ((HB6.out.trans (hb7.mono (by omega))).mono (by omega)))
        have hq7 := hq6.below hb7 hRS
        have hSe := HSe.out
        have hy7 := hy.below HBw.out (by omega)
        have HSe := Lib.hid hSe
        have hDB : D < 1000000000 := by rw [← BB_eq]; exact HD.out.digit HX.out.inr (by rw [← HXe.out]; exact HVAL.out) HT7.out.nonneg
        have hn : n ≤ ny + 1 := by
          have h1 := HT7.out.nonneg
          have h2 := HY.out.lt
          have h3 := HD.out.hi
          have h4 : V ≤ X + BB * vr := by rw [HVAL.out]; have := Int.mul_nonneg hD (Int.le_of_lt HV.out); omega
          refine HT7.out.n_le (Int.lt_of_le_of_lt h4 ?_)
          rw [Int.pow_succ, BB_eq] at *
          omega
        clear ht hval hb7 hSe
        go_wp2_with fail
        refine (beyond_any R b2 n ny false ly f fy V vy _ (by omega) (by omega) hwrI hy7 HT7.out HY.out).mono ?_
        rintro e w8 ⟨r, nq8, rfl, hr, rfl⟩
        by_cases hge : vy ≤ V
        · have hr0 : 0 ≤ r := hr.2 hge
          clear hr
          have HGE := Lib.hid hge; clear hge
          go_wp2_with fail
          refine (estimate_any R b2 n ny false ly f fy V vy _ hn (by omega) hny0 (hwrI.drewN _) (hy7.drewN _) HT7.out.toSpells HY.out HGE.out).mono ?_
          rintro e w9 ⟨k, nq9, rfl, hk1, hk2, hk3, rfl⟩
          have HK3 := Lib.hid hk3; clear hk3
          go_wp2_with fail
          refine (carry_at R b2 n ny 0 0 rfl false ly f fy V vy (-k) (V - k * vy) _ hRb2 (by omega) (by omega) (by omega) (by omega) (hwrI.drewN _) (hy7.drewN _) HT7.out.toSpells HY.out.toSpells (by rw [Int.pow_zero, Int.mul_one, Int.neg_mul]; omega) (by have := HK3.out; omega) ?_).mono ?_
          · have h1 := HT7.out.lt
            have h2 := HV.out
            have h3 : 0 ≤ k * vy := Int.mul_nonneg (by omega) (Int.le_of_lt h2)
            have h4 : BB ^ n ≤ BB ^ 232 := pow_mono (by omega)
            omega
          rintro e w10 ⟨rfl, m', f', ht', hw', hg'⟩
          have HT' := Lib.hid ht'
          have HB' := Lib.hid ((HB7.out.trans (below_drewN R wr _)).grown hg' (by simp; omega) (fun k hk => by have := Option.some.inj hk; omega))
          have hk4 : 1 ≤ k * vy := by
            have h2 := HV.out
            have h3 : 1 * 1 ≤ k * vy := Int.mul_le_mul hk1 (by omega) (by omega) (by omega)
            omega
          have hDk : D + k < 1000000000 := by
            rw [← BB_eq]
            refine HD.out.digit HX.out.inr (r := V - k * vy) ?_ (by have := HK3.out; omega)
            rw [← HXe.out, HVAL.out, Int.add_mul]; omega
          have hK3 := HK3.out
          have hvx : X + BB * vr = (D + k) * vy + (V - k * vy) := by rw [HVAL.out, Int.add_mul]; omega
          have HVX := Lib.hid hvx
          clear ht' hg' hvx
          go_wp2_with fail
          go_roundg (V - k * vy).toNat
          case measure => omega
          case rel => exact ⟨D + k, V - k * vy, m', f', by go_num, by omega, HVX.out, rfl, HT'.out, hw', HB'.out⟩
        · have hr0 : r < 0 := by omega
          clear hr
          have HGE := Lib.hid hge; clear hge
          have f2 := hq7.free (2 + g)
          have f1 := hq7.free 1
          have cg := hq7.cell_word (i := g) (by omega)
          have cn := hq7.cell_n
          go_wp2_with fail
          go_roundg g
          case measure => omega
          case rel =>
            have e1 : (max (nq : Int) ((g : Int) + 1)) = ((max nq (g + 1) : Nat) : Int) := by omega
            rw [e1]
            refine ⟨max nq (g + 1), n, upd fq g D, f, V, rfl, by omega, HD.out.step HX.out.inr (by omega) hD (by rw [← HXe.out]; exact HVAL.out) HT7.out.nonneg HGE.out, ⟨by omega, fun j hj => ?_⟩, ((hq7.drewN _).setWord g D).setN _, HT7.out, ((hwrI.drewN _).other (by show S ≠ R; omega) _).other (by show S ≠ R; omega) _, ?_, ?_⟩
            · rw [upd_other _ _ (by omega)]; exact HZq.out j (by omega)
            · exact ((HBw.out.trans (below_drewN S wr _)).setCell (p := ⟨S, 2 + g, none⟩) (Nat.le_refl _) _).setCell (p := ⟨S, 1, none⟩) (Nat.le_refl _) _
            · simp [World.setCell]; exact hs7
end Go.Proofs.YtbpegjgpdgeadaaGreatDoor
