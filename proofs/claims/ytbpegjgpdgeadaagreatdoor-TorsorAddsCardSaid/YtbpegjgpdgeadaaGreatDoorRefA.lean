/- A part of the proof: RefA. Conditions: none. -/
import Derived.Test.YtbpegjgpdgeadaaGreatDoorWalkD
import Derived.Laws.IdiomStrings
import Derived.Lib.BufferWrite
import Derived.Test.YtbpegjgpdgeadaaGreatDoorPaperTor
namespace Go.Proofs.YtbpegjgpdgeadaaGreatDoor
open Go Go.RowKit Metro
open Go.Lib (nDigits decDigits)

theorem ba_ext {a b : ByteArray} (h : a.data.toList = b.data.toList) : a = b := by
  apply ByteArray.ext; apply Array.ext'; exact h

theorem head_byte {D : ByteArray} (hp : 0 < D.size) (c : UInt8) : D.data.toList.head? = some c ↔ (((D[0]'hp).toNat : Int) = c.toNat) := by
  have h1 : D.data.toList.head? = some (D[0]'hp) := by
    rw [List.head?_eq_getElem?]
    simp [ByteArray.getElem_eq_getElem_data]
  rw [h1, Option.some.injEq]
  constructor
  · intro h; rw [h]
  · intro h
    apply UInt8.toNat_inj.1
    omega

set_option maxHeartbeats 1000000 in
set_option maxRecDepth 100000 in
theorem size_any (s : ByteArray) (w : World) :
    Calls Tryz.prog 183 #[.string s] w fun e w' => e = .returned (.string ⟨(bare s.data.toList).toArray⟩) ∧ w' = w := by
  by_cases h0 : s.toList = []
  · have hs : s = ⟨#[]⟩ := ba_ext (by rw [← Lib.toList_data, h0])
    have hb : (⟨(bare s.data.toList).toArray⟩ : ByteArray) = s := by rw [hs]; rfl
    have HB := Lib.hid hb
    clear hb hs
    go_enter Tryz.func183, Tryz.ntmps183
    go_wp2_with fail
    go_ret
    exact ⟨by rw [HB.out]; rfl, rfl⟩
  · have hp : 0 < s.size := by
      rw [Lib.size_eq, ← Lib.toList_data]; exact List.length_pos_iff.2 h0
    have hh := head_byte hp 45
    have h0' : s.toList.isEmpty = false := by simpa using h0
    clear h0
    by_cases h1 : ((s[0]'hp).toNat : Int) = 45
    · have hb : (⟨(bare s.data.toList).toArray⟩ : ByteArray) = s.extract 1 s.size := by
        apply ba_ext
        rw [Lib.extract_data]
        show bare s.data.toList = _
        unfold bare
        rw [if_pos (hh.2 h1)]
        have : (s.data.toList.drop 1).length = s.size - 1 := by rw [List.length_drop, ← Lib.size_eq]
        rw [List.take_of_length_le (by omega), List.drop_one]
      have HB := Lib.hid hb
      clear hb hh
      go_enter Tryz.func183, Tryz.ntmps183
      go_wp2_with fail
      go_ret
      exact ⟨by rw [HB.out]; rfl, rfl⟩
    · have hb : (⟨(bare s.data.toList).toArray⟩ : ByteArray) = s := by
        apply ba_ext
        show bare s.data.toList = _
        unfold bare
        rw [if_neg (fun h => h1 (hh.1 h))]
      have HB := Lib.hid hb
      have h1' : (((s[0]'hp).toNat : Int) == 45) = false := by simpa using h1
      clear hb hh
      go_enter Tryz.func183, Tryz.ntmps183
      go_wp2_with fail
      go_ret
      exact ⟨by rw [HB.out]; rfl, rfl⟩

theorem sizeZ_any (z : Int) (w : World) : Calls Tryz.prog 183 #[.string (zt z)] w fun e w' => e = .returned (.string (zt (z.natAbs : Int))) ∧ w' = w := by
  refine (size_any (zt z) w).mono ?_
  rintro e w' ⟨rfl, rfl⟩
  rw [zt_toList, zt_bare]
  exact ⟨rfl, rfl⟩

set_option maxHeartbeats 1000000 in
theorem below_any (z : Int) (w : World) : Calls Tryz.prog 185 #[.string (zt z)] w fun e w' => e = .returned (.bool (decide (z < 0))) ∧ w' = w := by
  have hp := zt_pos z
  have hm : ((((zt z)[0]'(zt_pos z)).toNat : Int) == 45) = decide (z < 0) := by
    rw [Bool.eq_iff_iff, beq_iff_eq, decide_eq_true_iff]; exact zt_minus z
  obtain ⟨L, hL⟩ : ∃ L, L = decide (z < 0) := ⟨_, rfl⟩
  rw [← hL] at hm
  have HL := Lib.hid hL; clear hL
  go_enter Tryz.func185, Tryz.ntmps185
  go_wp2_with fail
  go_ret
  exact ⟨by rw [← HL.out]; rfl, rfl⟩
end Go.Proofs.YtbpegjgpdgeadaaGreatDoor
namespace Go.Proofs.YtbpegjgpdgeadaaGreatDoor
open Go Go.RowKit Metro
open Go.Lib (nDigits decDigits)

theorem zt_of_lean0 {S : ByteArray} {v : Nat} (h : Lean0 S.data.toList) (hv : dval S.data.toList = v) : S = zt (v : Int) := by
  apply ba_ext
  rw [zt_toList, zl_ofNat, ← hv, decDigits_dval _ h]

set_option maxHeartbeats 1000000 in
set_option maxRecDepth 100000 in
/-- bare: digits without zeros in front. -/
theorem bareD_any (s : ByteArray) (w : World) (hd : AllDig s.data.toList) (hp : 0 < s.size) :
    Calls Tryz.prog 224 #[.string s] w fun e w' => e = .returned (.string (zt (dval s.data.toList : Nat))) ∧ w' = w := by
  have HD := Lib.hid hd
  obtain ⟨v, hv⟩ : ∃ v, v = dval s.data.toList := ⟨_, rfl⟩
  rw [← hv]
  have HV := Lib.hid hv
  clear hd hv
  go_enter Tryz.func224, Tryz.ntmps224
  go_wp2_with fail
  go_loopg [0] s.size (fun d x wr => ∃ S : ByteArray, x = .string S ∧ d = S.size ∧ AllDig S.data.toList ∧ 0 < S.size ∧ dval S.data.toList = v ∧ wr = w)
  case atStart => exact ⟨s, rfl, rfl, HD.out, hp, HV.out.symm, rfl⟩
  case round =>
    obtain ⟨S, rfl, rfl, hd, hpS, hv, rfl⟩ := hrel
    have hh := head_byte hpS 48
    have HDD := Lib.hid hd; have HVV := Lib.hid hv; have HH := Lib.hid hh
    clear hd hv hh
    by_cases h1 : (1 : Int) < S.size
    · have d1 : decide ((S.size : Int) > 1) = true := by simpa using h1
      by_cases h2 : ((S[0]'hpS).toNat : Int) = 48
      · have d2 : (((S[0]'hpS).toNat : Int) == 48) = true := by simpa using h2
        have h3 : 1 ≤ S.size := hpS
        go_wp2_with fail
        go_roundg (S.size - 1)
        case measure => omega
        case rel =>
          have e : (S.extract 1 S.size).data.toList = S.data.toList.tail := by
            rw [Lib.extract_data, ← List.drop_one]
            exact List.take_of_length_le (by rw [List.length_drop, ← Lib.size_eq]; omega)
          have hcons : S.data.toList = 48 :: S.data.toList.tail := by
            have := HH.out.2 h2
            cases hS : S.data.toList with
            | nil => rw [hS] at this; cases this
            | cons c l => rw [hS] at this; simp at this; rw [this]; rfl
          refine ⟨_, rfl, by rw [ByteArray.size_extract]; omega, ?_, by rw [ByteArray.size_extract]; omega, ?_, rfl⟩
          · rw [e]; exact fun x hx => HDD.out x (List.mem_of_mem_tail hx)
          · rw [e, ← HVV.out]
            conv => rhs; rw [hcons, dval_cons]
            simp [dv]
      · have d2 : (((S[0]'hpS).toNat : Int) == 48) = false := by simpa using h2
        go_wp2_with fail
        go_ret
        refine ⟨?_, rfl⟩
        rw [← zt_of_lean0 (S := S) (v := v) ⟨fun e => by rw [Lib.size_eq, e] at hpS; exact absurd hpS (by decide), HDD.out, fun h => absurd (HH.out.1 h) h2⟩ HVV.out]
        rfl
    · have d1 : decide ((S.size : Int) > 1) = false := by simpa using h1
      go_wp2_with fail
      go_ret
      refine ⟨?_, rfl⟩
      rw [← zt_of_lean0 (S := S) (v := v) ⟨fun e => by rw [Lib.size_eq, e] at hpS; exact absurd hpS (by decide), HDD.out, fun _ => by rw [← Lib.size_eq]; omega⟩ HVV.out]
      rfl

theorem bytesLess_compare : ∀ a b : List UInt8, Op.bytesLess a b = decide (Go.Lib.compareBytes a b < 0) := by
  intro a
  induction a with
  | nil => intro b; cases b <;> simp [Op.bytesLess, Go.Lib.compareBytes]
  | cons x a ih =>
    intro b
    cases b with
    | nil => simp [Op.bytesLess, Go.Lib.compareBytes]
    | cons y b =>
      rw [Op.bytesLess, Go.Lib.compareBytes, ih]
      by_cases h1 : x < y
      · simp [h1]
      · by_cases h2 : y < x
        · have hne : ¬ x = y := by rintro rfl; exact h1 h2
          simp [h1, h2, hne]
        · have he : x = y := UInt8.le_antisymm (UInt8.not_lt.1 h2) (UInt8.not_lt.1 h1)
          simp [he]

theorem zt_less {n m : Nat} (h : nDigits n = nDigits m) : Op.bytesLess (zt (n : Int)).toList (zt (m : Int)).toList = decide (n < m) := by
  rw [bytesLess_compare, Lib.toList_data, Lib.toList_data, compare_zt h, Bool.eq_iff_iff, decide_eq_true_iff, decide_eq_true_iff, Int.sign_neg_iff]
  omega

set_option maxHeartbeats 1000000 in
set_option maxRecDepth 100000 in
theorem less_any (n m : Nat) (w : World) :
    Calls Tryz.prog 192 #[.string (zt (n : Int)), .string (zt (m : Int))] w fun e w' => e = .returned (.bool (decide (n < m))) ∧ w' = w := by
  have h1 := zt_nat_size n
  have h2 := zt_nat_size m
  rcases Nat.lt_trichotomy (nDigits n) (nDigits m) with h | h | h
  · have hs : decide (n < m) = true := by simpa using lt_of_shorter h
    have HS := Lib.hid hs; clear hs
    have t2 : (zt (n : Int)).size < (zt (m : Int)).size := by omega
    have t3 : ¬ (zt (m : Int)).size ≤ (zt (n : Int)).size := by omega
    clear h1 h2
    go_enter Tryz.func192, Tryz.ntmps192
    go_wp2_with fail
    go_ret
    exact ⟨by rw [HS.out]; rfl, rfl⟩
  · have t2 : ¬ (zt (n : Int)).size < (zt (m : Int)).size := by omega
    have t3 : ((zt (n : Int)).size : Int) = (zt (m : Int)).size := by omega
    have t4 : (zt (m : Int)).size ≤ (zt (n : Int)).size := by omega
    have hl := zt_less h
    obtain ⟨L, hL⟩ : ∃ L, L = decide (n < m) := ⟨_, rfl⟩
    rw [← hL] at hl
    have HL := Lib.hid hL
    clear h1 h2 hL h
    go_enter Tryz.func192, Tryz.ntmps192
    go_wp2_with fail
    go_ret
    exact ⟨by rw [← HL.out]; rfl, rfl⟩
  · have hs : decide (n < m) = false := by have := lt_of_shorter h; simp; omega
    have HS := Lib.hid hs; clear hs
    have t2 : ¬ (zt (n : Int)).size < (zt (m : Int)).size := by omega
    have t3 : ¬ ((zt (n : Int)).size : Int) = (zt (m : Int)).size := by omega
    have t4 : (zt (m : Int)).size ≤ (zt (n : Int)).size := by omega
    clear h1 h2
    go_enter Tryz.func192, Tryz.ntmps192
    go_wp2_with fail
    go_ret
    exact ⟨by rw [HS.out]; rfl, rfl⟩
end Go.Proofs.YtbpegjgpdgeadaaGreatDoor
namespace Go.Proofs.YtbpegjgpdgeadaaGreatDoor
open Go Go.RowKit Metro
open Go.Lib (nDigits decDigits)

/-- The value of chkL by its first faults. -/
theorem chkL_parts {s D : ByteArray} (hD : D.data.toList = bare s.data.toList) :
    (D.size = 0 → chkL s.data.toList = 3) ∧
    (∀ hp : 0 < D.size, ((D[0]'hp).toNat : Int) = 48 → (1 < D.size ∨ 1 < s.size) → chkL s.data.toList = 3) ∧
    (∀ i (hi : i < D.size), isDig (D[i]'hi) = false → chkL s.data.toList = 3) ∧
    (∀ hp : 0 < D.size, (((D[0]'hp).toNat : Int) = 48 → D.size = 1 ∧ s.size = 1) → (∀ i (hi : i < D.size), isDig (D[i]'hi) = true) → chkL s.data.toList = if 1024 < D.size then 11 else 0) := by
  have hnil : bare s.data.toList = [] ↔ D.size = 0 := by
    rw [← hD, Lib.size_eq]; exact List.length_eq_zero_iff.symm
  have hget : ∀ i (hi : i < D.size), (bare s.data.toList)[i]? = some (D[i]'hi) := by
    intro i hi
    rw [← hD]
    simp [ByteArray.getElem_eq_getElem_data, hi]
  have h48 : ∀ hp : 0 < D.size, (bare s.data.toList).head? = some 48 ↔ ((D[0]'hp).toNat : Int) = 48 := fun hp => by
    rw [← hD]; exact head_byte hp 48
  have hone : (bare s.data.toList).head? = some 48 → (s.data.toList = [48] ↔ D.size = 1 ∧ s.size = 1) := by
    intro hh
    constructor
    · intro e
      rw [Lib.size_eq, hD, Lib.size_eq, e]; exact ⟨rfl, rfl⟩
    · rintro ⟨e1, e2⟩
      rw [Lib.size_eq] at e2
      obtain ⟨c, hc⟩ := List.length_eq_one_iff.1 e2
      rw [hc] at hh ⊢
      unfold bare at hh
      split at hh
      · cases hh
      · simpa using hh
  have hany : (∀ i (hi : i < D.size), isDig (D[i]'hi) = true) → (bare s.data.toList).any (fun c => !isDig c) = false := by
    intro h
    rw [List.any_eq_false]
    intro c hc
    obtain ⟨i, hi, rfl⟩ := List.mem_iff_getElem.1 hc
    have hi' : i < D.size := by rw [Lib.size_eq, hD]; exact hi
    have := hget i hi'
    rw [List.getElem?_eq_getElem hi, Option.some.injEq] at this
    rw [this]
    simp [h i hi']
  refine ⟨fun h => ?_, fun hp h1 h2 => ?_, fun i hi h => ?_, fun hp h1 h2 => ?_⟩
  · unfold chkL; rw [if_pos (.inl (hnil.2 h))]
  · unfold chkL
    split
    · rfl
    · rw [if_pos ⟨(h48 hp).2 h1, fun e => by have := (hone ((h48 hp).2 h1)).1 e; omega⟩]
  · unfold chkL
    have hx : (bare s.data.toList).any (fun c => !isDig c) = true := by
      rw [List.any_eq_true]
      exact ⟨D[i]'hi, List.mem_of_getElem? (hget i hi), by simp [h]⟩
    rw [if_pos (.inr hx)]
  · unfold chkL
    rw [if_neg (not_or.2 ⟨fun e => by have := hnil.1 e; omega, by rw [hany h2]; exact Bool.false_ne_true⟩), if_neg ?_, ← hD, Lib.size_eq]
    rintro ⟨k1, k2⟩
    exact k2 ((hone k1).2 (h1 ((h48 hp).1 k1)))

set_option maxHeartbeats 2000000 in
set_option maxRecDepth 100000 in
theorem refCheck_any (s : ByteArray) (w : World) (hs : s.size ≤ 140737488351232) :
    Calls Tryz.prog 111 #[.string s] w fun e w' => e = .returned (.int .i64 (chkL s.data.toList : Int)) ∧ w' = w := by
  obtain ⟨D, hD⟩ : ∃ D : ByteArray, D = ⟨(bare s.data.toList).toArray⟩ := ⟨_, rfl⟩
  have hDl : D.data.toList = bare s.data.toList := by rw [hD]
  have hDs : D.size ≤ 140737488351232 := by
    rw [Lib.size_eq, hDl]; unfold bare; rw [Lib.size_eq] at hs
    split
    · rw [List.length_tail]; omega
    · exact hs
  have hc := size_any s w
  rw [← hD] at hc
  have hsz : D.size ≤ s.size := by
    rw [Lib.size_eq, hDl, Lib.size_eq]; unfold bare; split
    · rw [List.length_tail]; omega
    · omega
  have HSZ := Lib.hid hsz
  have HC := Lib.hid hc
  have HP := Lib.hid (chkL_parts hDl)
  clear hD hDl hc hsz
  by_cases h0 : D.size = 0
  · have h0' : D.toList = [] := by rw [Lib.toList_data]; exact List.eq_nil_of_length_eq_zero (by rw [← Lib.size_eq]; exact h0)
    have HQ := Lib.hid (HP.out.1 h0)
    clear h0
    go_enter Tryz.func111, Tryz.ntmps111
    go_wp2_with fail
    refine HC.out.mono ?_
    rintro e w1 ⟨rfl, rfl⟩
    go_wp2_with fail
    go_ret
    exact ⟨by rw [HQ.out]; rfl, rfl⟩
  · have hp : 0 < D.size := by omega
    have h0' : D.toList.isEmpty = false := by
      have : ¬ D.toList = [] := by rw [Lib.toList_data]; intro e; rw [Lib.size_eq, e] at hp; exact absurd hp (by decide)
      simpa using this
    clear h0
    by_cases h1 : ((D[0]'hp).toNat : Int) = 48
    · have b1 : (((D[0]'hp).toNat : Int) == 48) = true := by simpa using h1
      by_cases h2 : 1 < D.size
      · have HQ := Lib.hid (HP.out.2.1 hp h1 (.inl h2))
        go_enter Tryz.func111, Tryz.ntmps111
        go_wp2_with fail
        refine HC.out.mono ?_
        rintro e w1 ⟨rfl, rfl⟩
        go_wp2_with fail
        go_ret
        exact ⟨by rw [HQ.out]; rfl, rfl⟩
      · by_cases h3 : 1 < s.size
        · have HQ := Lib.hid (HP.out.2.1 hp h1 (.inr h3))
          have h4 : D.size ≤ 1 := by omega
          go_enter Tryz.func111, Tryz.ntmps111
          go_wp2_with fail
          refine HC.out.mono ?_
          rintro e w1 ⟨rfl, rfl⟩
          go_wp2_with fail
          go_ret
          exact ⟨by rw [HQ.out]; rfl, rfl⟩
        · have h4 : D.size ≤ 1 := by omega
          have h5 : s.size ≤ 1 := by omega
          have hsz : 1 ≤ s.size := by have := HSZ.out; omega
          have HF := Lib.hid (HP.out.2.2.2 hp (fun _ => ⟨by omega, by omega⟩))
          have HG := Lib.hid (HP.out.2.2.1)
          go_enter Tryz.func111, Tryz.ntmps111
          go_wp2_with fail
          refine HC.out.mono ?_
          rintro e w1 ⟨rfl, rfl⟩
          go_wp2_with fail
          go_loopg [4] D.size (fun d x wr => ∃ k : Nat, x = .int .i64 k ∧ k ≤ D.size ∧ d = D.size - k ∧ (∀ i (hi : i < D.size), i < k → isDig (D[i]'hi) = true) ∧ wr = w1)
          case atStart => exact ⟨0, rfl, Nat.zero_le _, rfl, fun i _ h => absurd h (Nat.not_lt_zero _), rfl⟩
          case round =>
            obtain ⟨k, rfl, hk, rfl, hall, rfl⟩ := hrel
            have HALL := Lib.hid hall; clear hall
            by_cases hlt : k < D.size
            · by_cases hdg : isDig (D[k]'hlt) = true
              · have hr := isDig_iff.1 hdg
                have r1 : ¬ ((D[k]'hlt).toNat : Int) < 48 := by omega
                have r2 : ¬ 57 < ((D[k]'hlt).toNat : Int) := by omega
                have HDG := Lib.hid hdg
                clear hdg hr
                go_wp2_with fail
                go_roundg (D.size - (k + 1))
                case measure => omega
                case rel =>
                  refine ⟨k + 1, by go_num, by omega, rfl, fun i hi h => ?_, rfl⟩
                  by_cases e : i = k
                  · subst e; exact HDG.out
                  · exact HALL.out i hi (by omega)
              · have HQ := Lib.hid (HG.out k hlt (by simpa using hdg))
                have hr : ¬ (48 ≤ (D[k]'hlt).toNat ∧ (D[k]'hlt).toNat ≤ 57) := fun h => hdg (isDig_iff.2 h)
                clear hdg
                by_cases r1 : ((D[k]'hlt).toNat : Int) < 48
                · clear hr
                  go_wp2_with fail
                  go_ret
                  exact ⟨by rw [HQ.out]; rfl, rfl⟩
                · have r2 : 57 < ((D[k]'hlt).toNat : Int) := by omega
                  clear hr
                  go_wp2_with fail
                  go_ret
                  exact ⟨by rw [HQ.out]; rfl, rfl⟩
            · have hq := HF.out (fun i hi => HALL.out i hi (by omega))
              by_cases h4 : 1024 < D.size
              · omega
              · rw [if_neg h4] at hq
                have HQ := Lib.hid hq; clear hq
                go_wp2_with fail
                go_ret
                exact ⟨by rw [HQ.out]; rfl, rfl⟩
    · have b1 : (((D[0]'hp).toNat : Int) == 48) = false := by simpa using h1
      have HF := Lib.hid (HP.out.2.2.2 hp (fun e => absurd e h1))
      have HG := Lib.hid (HP.out.2.2.1)
      go_enter Tryz.func111, Tryz.ntmps111
      go_wp2_with fail
      refine HC.out.mono ?_
      rintro e w1 ⟨rfl, rfl⟩
      go_wp2_with fail
      go_loopg [4] D.size (fun d x wr => ∃ k : Nat, x = .int .i64 k ∧ k ≤ D.size ∧ d = D.size - k ∧ (∀ i (hi : i < D.size), i < k → isDig (D[i]'hi) = true) ∧ wr = w1)
      case atStart => exact ⟨0, rfl, Nat.zero_le _, rfl, fun i _ h => absurd h (Nat.not_lt_zero _), rfl⟩
      case round =>
        obtain ⟨k, rfl, hk, rfl, hall, rfl⟩ := hrel
        have HALL := Lib.hid hall; clear hall
        by_cases hlt : k < D.size
        · by_cases hdg : isDig (D[k]'hlt) = true
          · have hr := isDig_iff.1 hdg
            have r1 : ¬ ((D[k]'hlt).toNat : Int) < 48 := by omega
            have r2 : ¬ 57 < ((D[k]'hlt).toNat : Int) := by omega
            have HDG := Lib.hid hdg
            clear hdg hr
            go_wp2_with fail
            go_roundg (D.size - (k + 1))
            case measure => omega
            case rel =>
              refine ⟨k + 1, by go_num, by omega, rfl, fun i hi h => ?_, rfl⟩
              by_cases e : i = k
              · subst e; exact HDG.out
              · exact HALL.out i hi (by omega)
          · have HQ := Lib.hid (HG.out k hlt (by simpa using hdg))
            have hr : ¬ (48 ≤ (D[k]'hlt).toNat ∧ (D[k]'hlt).toNat ≤ 57) := fun h => hdg (isDig_iff.2 h)
            clear hdg
            by_cases r1 : ((D[k]'hlt).toNat : Int) < 48
            · clear hr
              go_wp2_with fail
              go_ret
              exact ⟨by rw [HQ.out]; rfl, rfl⟩
            · have r2 : 57 < ((D[k]'hlt).toNat : Int) := by omega
              clear hr
              go_wp2_with fail
              go_ret
              exact ⟨by rw [HQ.out]; rfl, rfl⟩
        · have hq := HF.out (fun i hi => HALL.out i hi (by omega))
          by_cases h4 : 1024 < D.size
          · rw [if_pos h4] at hq
            have HQ := Lib.hid hq; clear hq
            go_wp2_with fail
            go_ret
            exact ⟨by rw [HQ.out]; rfl, rfl⟩
          · rw [if_neg h4] at hq
            have HQ := Lib.hid hq; clear hq
            go_wp2_with fail
            go_ret
            exact ⟨by rw [HQ.out]; rfl, rfl⟩
end Go.Proofs.YtbpegjgpdgeadaaGreatDoor
namespace Go.Proofs.YtbpegjgpdgeadaaGreatDoor
open Go Go.RowKit Metro
open Go.Lib (nDigits decDigits)

/-- The bytes l lie in block g. -/
def RowAt (w : World) (g : Nat) (l : List UInt8) : Prop := w.heap[g]? = some (.cells (Lib.byteCells l).toArray 5 (0, 0))
theorem RowAt.lt {w : World} {g : Nat} {l : List UInt8} (h : RowAt w g l) : g < w.heap.size := (Array.getElem?_eq_some_iff.1 h).1
theorem RowAt.cell {w : World} {g : Nat} {l : List UInt8} (h : RowAt w g l) {i : Nat} (hi : i < l.length) : w.cell? ⟨g, i, none⟩ = some (.int .u8 (l[i].toNat : Int)) := by
  rw [Lib.cell_of_heap h]
  simp [Lib.byteCells, hi]
theorem RowAt.free {w : World} {g : Nat} {l : List UInt8} (h : RowAt w g l) (i : Nat) : w.frozen? ⟨g, i, none⟩ = false := Lib.frozen_of_heap h i
theorem RowAt.set {w : World} {g : Nat} {l : List UInt8} (h : RowAt w g l) (i : Nat) (c : UInt8) : RowAt (w.setCell ⟨g, i, none⟩ (.int .u8 (c.toNat : Int))) g (l.set i c) := by
  unfold RowAt World.setCell
  simp only [Array.getElem?_modify, if_true]
  rw [show w.heap[g]? = _ from h]
  simp [Lib.byteCells, List.map_set]
theorem RowAt.below {B : Nat} {w w' : World} {g : Nat} {l : List UInt8} (h : RowAt w g l) (hb : Below B w w') (hB : g < B) : RowAt w' g l := by
  unfold RowAt; rw [hb.block g hB]; exact h
theorem RowAt.string {w : World} {g : Nat} {l : List UInt8} (h : RowAt w g l) (n : Nat) (hn : n = l.length) (cap : Nat) : (convert 220 9 (.slice (some ⟨g, 0, none⟩) n cap)).run Tryz.prog w = .ok (.string ⟨l.toArray⟩) w := by
  subst hn
  refine run_convert_bytes_back w 220 9 5 ⟨g, 0, none⟩ cap l Tryz.underlying220 Tryz.underlying5 Tryz.underlying9 fun j hj => ?_
  have : (⟨g, 0, none⟩ : Addr).add j = ⟨g, j, none⟩ := by unfold Addr.add; split <;> simp_all
  rw [this]
  exact h.cell hj
theorem RowAt.splice {w : World} {g : Nat} {l : List UInt8} (h : RowAt w g l) (o : Nat) (s : List UInt8) :
    RowAt (w.setRow g ((Lib.byteCells l).toArray.toList.take o ++ Lib.byteCells s ++ (Lib.byteCells l).toArray.toList.drop (o + s.length)).toArray) g (l.take o ++ s ++ l.drop (o + s.length)) := by
  have := setRow_heap w g (Lib.byteCells l).toArray ((Lib.byteCells l).toArray.toList.take o ++ Lib.byteCells s ++ (Lib.byteCells l).toArray.toList.drop (o + s.length)).toArray 5 (0, 0) h
  unfold RowAt
  rw [this]
  simp [Lib.byteCells, List.map_take, List.map_drop]
theorem rowAt_made {w' : World} {base g n : Nat} (h : w'.ownsRow base 5 1 (.slice (some ⟨g, 0, none⟩) n n) n (madeCells #[Value.int .u8 0] n).toList) : RowAt w' g (List.replicate n 0) := by
  rcases h.2 with ⟨hv, _⟩ | ⟨g', cap, cur, hv, _, hg, _, _, hs, ht⟩
  · cases hv
  · cases hv
    unfold RowAt
    rw [hg]
    congr 2
    apply Array.ext'
    have e : cur.toList = cur.toList.take (n * 1) := by rw [List.take_of_length_le]; simp [hs]
    rw [e, ht]
    simp [Lib.byteCells, madeCells, Nat.mod_one, List.map_const']

set_option maxHeartbeats 2000000 in
set_option maxRecDepth 100000 in
/-- wide: zeros in front. -/
theorem wide_any (s : ByteArray) (n : Nat) (w : World) (hs : s.size ≤ n) (hn : n ≤ 100000) (hp : 0 < s.size) :
    Calls Tryz.prog 222 #[.string s, .int .i64 n] w fun e w' => e = .returned (.string ⟨(List.replicate (n - s.size) 48 ++ s.data.toList).toArray⟩) ∧ Below w.heap.size w w' := by
  obtain ⟨i0, hi, hz0, hz1, hz2⟩ := info_parts info5
  go_enter Tryz.func222, Tryz.ntmps222
  go_wp2_with (at_make; refine wpList_make_full _ rfl _ _ 220 rfl w.heap.size 5 i0 (.int .u8 0) 1 Tryz.underlying220 hi hz0 hz1 _ _ _ _ n rfl rfl rfl rfl ?b2 ?b3 (Nat.le_refl _) ?_)
  case b2 => rw [hz2]; omega
  case b3 => unfold maxLen; omega
  intro w1 hown hgr
  have hrow := rowAt_made hown
  have HR1 := Lib.hid hrow
  have HB1 := Lib.hid (Below.grown (Below.refl w.heap.size w) hgr (Nat.le_refl _) (fun k hk => by cases hk))
  clear hrow hown hgr
  go_wp2_with fail
  go_loopg [6] n (fun d i wr => ∃ k : Nat, i = .int .i64 k ∧ k ≤ n ∧ d = n - k ∧ RowAt wr w.heap.size (List.replicate k 48 ++ List.replicate (n - k) 0) ∧ Below w.heap.size w wr)
  case atStart => exact ⟨0, rfl, Nat.zero_le _, rfl, HR1.out, HB1.out⟩
  case round =>
    obtain ⟨k, rfl, hk, rfl, hr, hb⟩ := hrel
    by_cases hlt : k < n
    · have c1 := hr.cell (i := k) (by simp; omega)
      have f1 := hr.free k
      have HR := Lib.hid hr; have HB := Lib.hid hb
      clear hr hb
      go_wp2_with fail
      go_roundg (n - (k + 1))
      case measure => omega
      case rel =>
        refine ⟨k + 1, by go_num, by omega, rfl, ?_, HB.out.setCell (p := ⟨w.heap.size, k, none⟩) (Nat.le_refl _) _⟩
        have h := HR.out.set k 48
        have e : (List.replicate k (48 : UInt8) ++ List.replicate (n - k) 0).set k 48 = List.replicate (k + 1) 48 ++ List.replicate (n - (k + 1)) 0 := by
          rw [List.set_append_right _ _ (by simp), List.length_replicate, Nat.sub_self, show n - k = (n - (k + 1)) + 1 from by omega, List.replicate_succ, List.set_cons_zero, List.replicate_succ' (n := k)]
          simp
        rw [e] at h
        exact h
    · have hkn : k = n := by omega
      subst hkn
      have hrow : RowAt wr w.heap.size (List.replicate k 48) := by simpa using hr
      have HB := Lib.hid hb
      clear hr hb
      have hle : s.size ≤ k := hs
      have hne : ¬ s = ByteArray.empty := by rintro rfl; exact absurd hp (by decide)
      obtain ⟨j, rfl⟩ : ∃ j, k = j + s.size := ⟨k - s.size, by omega⟩
      have ej : j + s.size - s.size = j := by omega
      have hcp := Lib.run_copy_row_string wr 220 9 3 5 w.heap.size j s.size s.size s _ 5 Tryz.underlying220 (by rw [hi]; simp [hz1]) hrow (Nat.le_refl _) (by simp [Lib.byteCells])
      have hsp := hrow.splice j s.data.toList
      rw [← Lib.size_eq] at hsp
      generalize hW5 : wr.setRow w.heap.size _ = W5 at hcp
      have HB5 : Hid (Below w.heap.size w W5) := Lib.hid (by rw [← hW5]; exact below_setRow HB.out (Nat.le_refl _) _)
      rw [hW5] at hsp
      have hT : List.take j (List.replicate (j + s.size) (48 : UInt8)) ++ s.data.toList ++ List.drop (j + s.size) (List.replicate (j + s.size) 48) = List.replicate (j + s.size - s.size) 48 ++ s.data.toList := by
        simp [List.take_replicate]
      rw [hT] at hsp
      have hcv := hsp.string (j + s.size) (by rw [List.length_append, List.length_replicate, ← Lib.size_eq]; omega) (j + s.size)
      obtain ⟨R, hR⟩ : ∃ R : ByteArray, R = ⟨(List.replicate (j + s.size - s.size) 48 ++ s.data.toList).toArray⟩ := ⟨_, rfl⟩
      rw [← hR] at hcv
      have HRr := Lib.hid hR
      clear hW5 hsp hrow HR1 hT hR
      go_wp2_with fail
      go_ret
      exact ⟨by rw [← HRr.out]; rfl, HB5.out⟩
end Go.Proofs.YtbpegjgpdgeadaaGreatDoor
namespace Go.Proofs.YtbpegjgpdgeadaaGreatDoor
open Go Go.RowKit Metro
open Go.Lib (nDigits decDigits)

/-- The number in a column. -/
def colN (x y : Nat) (c : Int) (add : Bool) : Int := if add then (x : Int) + y + c else (x : Int) - y - c

theorem u8_sub48 {x : Nat} (h : x < 10) : IntKind.u8.wrap (48 + (x : Int) - 48) = x := by rw [IntKind.wrap_u8]; omega

/-- A digit and what is carried. -/
def ColR (N : Int) (e : Ending) : Prop := e = if 9 < N then .returned (.tuple #[.int .u8 (48 + N - 10), .int .i64 1]) else if N < 0 then .returned (.tuple #[.int .u8 (48 + N + 10), .int .i64 1]) else .returned (.tuple #[.int .u8 (48 + N), .int .i64 0])

set_option maxHeartbeats 1000000 in
set_option maxRecDepth 100000 in
theorem column_any (x y : Nat) (c : Int) (add : Bool) (w : World) (hx : x < 10) (hy : y < 10) (hc0 : 0 ≤ c) (hc1 : c ≤ 1) :
    Calls Tryz.prog 223 #[.int .u8 (48 + (x : Int)), .int .u8 (48 + (y : Int)), .int .i64 c, .bool add] w fun e w' => ColR (colN x y c add) e ∧ w' = w := by
  have u1 := u8_sub48 hx
  have u2 := u8_sub48 hy
  cases add with
  | true =>
    have hN : colN x y c true = (x : Int) + y + c := rfl
    rw [hN]
    clear hN
    by_cases h9 : 9 < (x : Int) + y + c
    · go_enter Tryz.func223, Tryz.ntmps223
      go_wp2_with fail
      go_ret2
      exact ⟨by unfold ColR; rw [if_pos h9]; rfl, rfl⟩
    · have h0 : ¬ (x : Int) + y + c < 0 := by omega
      go_enter Tryz.func223, Tryz.ntmps223
      go_wp2_with fail
      go_ret2
      exact ⟨by unfold ColR; rw [if_neg (by omega), if_neg (by omega)]; rfl, rfl⟩
  | false =>
    have hN : colN x y c false = (x : Int) - y - c := rfl
    rw [hN]
    clear hN
    have h9 : ¬ 9 < (x : Int) - y - c := by omega
    by_cases h0 : (x : Int) - y - c < 0
    · go_enter Tryz.func223, Tryz.ntmps223
      go_wp2_with fail
      go_ret2
      exact ⟨by unfold ColR; rw [if_neg (by omega), if_pos h0]; rfl, rfl⟩
    · go_enter Tryz.func223, Tryz.ntmps223
      go_wp2_with fail
      go_ret2
      exact ⟨by unfold ColR; rw [if_neg (by omega), if_neg (by omega)]; rfl, rfl⟩
end Go.Proofs.YtbpegjgpdgeadaaGreatDoor
namespace Go.Proofs.YtbpegjgpdgeadaaGreatDoor
open Go Go.RowKit Metro
open Go.Lib (nDigits decDigits)

/-- The text with zeros in front. -/
def padT (s : ByteArray) (n : Nat) : ByteArray := ⟨(List.replicate (n - s.size) 48 ++ s.data.toList).toArray⟩
theorem padT_list (s : ByteArray) (n : Nat) : (padT s n).data.toList = List.replicate (n - s.size) 48 ++ s.data.toList := by simp [padT]
theorem padT_size {s : ByteArray} {n : Nat} (h : s.size ≤ n) : (padT s n).size = n := by
  rw [Lib.size_eq, padT_list, List.length_append, List.length_replicate, ← Lib.size_eq]; omega
theorem padT_dig {s : ByteArray} {n : Nat} (h : AllDig s.data.toList) : AllDig (padT s n).data.toList := by
  rw [padT_list]; exact (allDig_replicate _).append h
theorem padT_val (s : ByteArray) (n : Nat) : dval (padT s n).data.toList = dval s.data.toList := by rw [padT_list, dval_zeros]

set_option maxHeartbeats 4000000 in
set_option maxRecDepth 100000 in
theorem paper_any (a b : Nat) (add : Bool) (w : World) (ha : (zt (a : Int)).size ≤ 10000) (hb : (zt (b : Int)).size ≤ 10000) (hab : add = false → b ≤ a) :
    Calls Tryz.prog 191 #[.string (zt (a : Int)), .string (zt (b : Int)), .bool add] w fun e w' => e = .returned (.string (zt (if add then (a + b : Nat) else (a - b : Nat) : Nat))) ∧ Below w.heap.size w w' := by
  obtain ⟨i0, hi, hz0, hz1, hz2⟩ := info_parts info5
  obtain ⟨V, hV⟩ : ∃ V : Nat, V = if add then (a + b : Nat) else (a - b : Nat) := ⟨_, rfl⟩
  rw [← hV]
  have HV := Lib.hid hV
  clear hV
  have hp1 := zt_pos a
  have hp2 := zt_pos b
  obtain ⟨n, hn⟩ : ∃ n : Nat, n = max (zt (a : Int)).size (zt (b : Int)).size + 1 := ⟨_, rfl⟩
  have hn' : max ((zt (a : Int)).size : Int) (zt (b : Int)).size + 1 = n := by omega
  have W1 : Hid (∀ w : World, Calls Tryz.prog 222 #[.string (zt (a : Int)), .int .i64 n] w fun e w' => e = .returned (.string (padT (zt (a : Int)) n)) ∧ Below w.heap.size w w') := Lib.hid (fun w => wide_any (zt (a : Int)) n w (by omega) (by omega) hp1)
  have W2 : Hid (∀ w : World, Calls Tryz.prog 222 #[.string (zt (b : Int)), .int .i64 n] w fun e w' => e = .returned (.string (padT (zt (b : Int)) n)) ∧ Below w.heap.size w w') := Lib.hid (fun w => wide_any (zt (b : Int)) n w (by omega) (by omega) hp2)
  have hna : n ≤ 10001 := by omega
  have hnp : 0 < n := by omega
  have HN := Lib.hid hn
  clear hn
  go_enter Tryz.func191, Tryz.ntmps191
  go_wp2_with fail
  refine (W1.out _).mono ?_
  rintro e w1 ⟨rfl, hb1⟩
  have HB1 := Lib.hid hb1; clear hb1
  go_wp2_with fail
  refine (W2.out _).mono ?_
  rintro e w2 ⟨rfl, hb2⟩
  have HB2 := Lib.hid (HB1.out.trans (hb2.mono HB1.out.size)); clear hb2
  obtain ⟨A, hA⟩ : ∃ A, A = padT (zt (a : Int)) n := ⟨_, rfl⟩
  obtain ⟨B, hB⟩ : ∃ B, B = padT (zt (b : Int)) n := ⟨_, rfl⟩
  rw [← hA, ← hB]
  have sA : A.size = n := by rw [hA]; exact padT_size (by have := HN.out; omega)
  have sB : B.size = n := by rw [hB]; exact padT_size (by have := HN.out; omega)
  have dA : AllDig A.data.toList := by rw [hA]; exact padT_dig (by rw [zt_toList, zl_ofNat]; exact allDig_decDigits _)
  have dB : AllDig B.data.toList := by rw [hB]; exact padT_dig (by rw [zt_toList, zl_ofNat]; exact allDig_decDigits _)
  have vA : dval A.data.toList = a := by rw [hA, padT_val, zt_toList, zl_ofNat, dval_decDigits]
  have vB : dval B.data.toList = b := by rw [hB, padT_val, zt_toList, zl_ofNat, dval_decDigits]
  have lA : A.data.toList.length = n := by rw [← Lib.size_eq, sA]
  have lB : B.data.toList.length = n := by rw [← Lib.size_eq, sB]
  have hlt : a < 10 ^ (n - 1) ∧ b < 10 ^ (n - 1) := by
    have h1 := dval_lt (allDig_decDigits a)
    have h2 := dval_lt (allDig_decDigits b)
    rw [dval_decDigits] at h1 h2
    have e1 : (zt (a : Int)).size = (decDigits a).length := by rw [zt_size, zl_ofNat]
    have e2 : (zt (b : Int)).size = (decDigits b).length := by rw [zt_size, zl_ofNat]
    have := HN.out
    exact ⟨Nat.lt_of_lt_of_le h1 (Nat.pow_le_pow_right (by decide) (by omega)), Nat.lt_of_lt_of_le h2 (Nat.pow_le_pow_right (by decide) (by omega))⟩
  have SA := Lib.hid sA; have SB := Lib.hid sB; have DA := Lib.hid dA; have DB := Lib.hid dB; have VA := Lib.hid vA; have VB := Lib.hid vB; have LA := Lib.hid lA; have LB := Lib.hid lB; have HLT := Lib.hid hlt
  clear hA hB sA sB dA dB vA vB lA lB hlt hn' hp1 hp2 ha hb
  go_wp2_with (at_make; refine wpList_make_full _ rfl _ _ 220 rfl w2.heap.size 5 i0 (.int .u8 0) 1 Tryz.underlying220 hi hz0 hz1 _ _ _ _ n rfl rfl rfl rfl ?b2 ?b3 (Nat.le_refl _) ?_)
  case b2 => rw [hz2]; omega
  case b3 => unfold maxLen; omega
  intro w3 hown hgr
  have hrow := rowAt_made hown
  have HR1 := Lib.hid hrow
  have HB3 := Lib.hid (HB2.out.trans ((Below.grown (Below.refl w2.heap.size w2) hgr (Nat.le_refl _) (fun k hk => by cases hk)).mono HB2.out.size))
  have hg0 : w.heap.size ≤ w2.heap.size := HB2.out.size
  clear hrow hown hgr hi hz0 hz1 hz2
  go_wp2_with fail
  obtain ⟨G, hG⟩ : ∃ G, G = w2.heap.size := ⟨_, rfl⟩
  rw [← hG] at HR1 hg0 ⊢
  obtain ⟨sg, hsg⟩ : ∃ sg : Int, sg = if add then 1 else -1 := ⟨_, rfl⟩
  have HSG := Lib.hid hsg
  clear hG hsg
  go_loopg [9, 10] n (fun d c i wr => ∃ (C : Int) (l : List UInt8), i = .int .i64 ((d : Int) - 1) ∧ d ≤ n ∧ c = .int .i64 C ∧ Papered A.data.toList B.data.toList l sg d C ∧ RowAt wr G l ∧ Below w.heap.size w wr)
  case atStart => exact ⟨0, _, rfl, Nat.le_refl _, rfl, by have := Papered.start (A := A.data.toList) (B := B.data.toList) (l := List.replicate n 0) (by rw [LA.out, LB.out]) (by rw [LA.out]; simp) sg; rwa [LA.out] at this, HR1.out, HB3.out⟩
  case round =>
    obtain ⟨C, l, rfl, hd, rfl, hpp, hr, hb⟩ := hrel
    by_cases hg : gk = 0
    · subst hg
      have hll : l.length = n := by rw [hpp.ll, LA.out]
      have hval : dval l = V := by
        refine hpp.done V ?_ (by rw [HSG.out]; cases add <;> simp) ?_
        · rw [VA.out, VB.out, HSG.out, HV.out]
          cases add with
          | true => simp
          | false => have := hab rfl; simp; omega
        · rw [LA.out]
          have h := HLT.out
          have e : (10 : Nat) ^ n = 10 ^ (n - 1) * 10 := by rw [← Nat.pow_succ]; congr 1; omega
          rw [e, HV.out]
          split <;> omega
      have hcv := hr.string n hll.symm n
      obtain ⟨R, hR⟩ : ∃ R : ByteArray, R = ⟨l.toArray⟩ := ⟨_, rfl⟩
      rw [← hR] at hcv
      have hRl : R.data.toList = l := by rw [hR]
      have hbare := bareD_any R wr (by rw [hRl]; simpa using hpp.dig) (by rw [Lib.size_eq, hRl]; omega)
      rw [hRl, hval] at hbare
      have HBa := Lib.hid hbare
      have HB := Lib.hid hb
      clear hpp hr hb hval hR hRl hbare hll
      go_wp2_with fail
      refine HBa.out.mono ?_
      rintro e w5 ⟨rfl, rfl⟩
      go_wp2_with fail
      go_ret
      exact ⟨rfl, HB.out⟩
    · obtain ⟨g, rfl⟩ : ∃ g, gk = g + 1 := ⟨gk - 1, by omega⟩
      have e1 : (((g + 1 : Nat) : Int) - 1) = (g : Int) := by omega
      rw [e1]
      clear e1
      have hi0 : 0 ≤ (g : Int) := Int.natCast_nonneg _
      have hiA : g < A.size := by rw [SA.out]; omega
      have hiB : g < B.size := by rw [SB.out]; omega
      have hin : (g : Int) < n := by omega
      have hll : l.length = n := by rw [hpp.ll, LA.out]
      have hcell := hr.cell (i := g) (by omega)
      have hfree := hr.free g
      obtain ⟨old, hold⟩ : ∃ old : Int, old = ((l[g]'(by omega)).toNat : Int) := ⟨_, rfl⟩
      rw [← hold] at hcell
      clear hold
      have gA : A.data.toList[g]'(by rw [LA.out]; omega) = A[g]'hiA := by simp [ByteArray.getElem_eq_getElem_data]
      have gB : B.data.toList[g]'(by rw [LB.out]; omega) = B[g]'hiB := by simp [ByteArray.getElem_eq_getElem_data]
      have qA := isDig_iff.1 (DA.out _ (List.getElem_mem (by rw [LA.out]; omega : g < A.data.toList.length)))
      have qB := isDig_iff.1 (DB.out _ (List.getElem_mem (by rw [LB.out]; omega : g < B.data.toList.length)))
      rw [gA] at qA
      rw [gB] at qB
      have xA : ((A[g]'hiA).toNat : Int) = 48 + (dv (A[g]'hiA) : Int) := by unfold dv; omega
      have xB : ((B[g]'hiB).toNat : Int) = 48 + (dv (B[g]'hiB) : Int) := by unfold dv; omega
      have hxl : dv (A[g]'hiA) < 10 := by unfold dv; omega
      have hyl : dv (B[g]'hiB) < 10 := by unfold dv; omega
      have k0 := hpp.c0
      have k1 := hpp.c1
      obtain ⟨r, c', hr0, hr1, hc0, hc1, hN, hcol⟩ : ∃ r c' : Int, 0 ≤ r ∧ r < 10 ∧ 0 ≤ c' ∧ c' ≤ 1 ∧ (dv (A[g]'hiA) : Int) + sg * (dv (B[g]'hiB) + C) = r + sg * 10 * c' ∧
          ∀ w : World, Calls Tryz.prog 223 #[.int .u8 ((A[g]'hiA).toNat : Int), .int .u8 ((B[g]'hiB).toNat : Int), .int .i64 C, .bool add] w fun e w' => e = .returned (.tuple #[.int .u8 ((UInt8.ofNat (48 + r.toNat)).toNat : Int), .int .i64 c']) ∧ w' = w := by
        have hu : ∀ r : Int, 0 ≤ r → r < 10 → ((UInt8.ofNat (48 + r.toNat)).toNat : Int) = 48 + r := by
          intro r h0 h1; simp; omega
        have key := fun w => column_any (dv (A[g]'hiA)) (dv (B[g]'hiB)) C add w hxl hyl k0 k1
        rw [← xA, ← xB] at key
        generalize dv (A[g]'hiA) = x at *
        generalize dv (B[g]'hiB) = y at *
        have hNs : colN x y C add = x + sg * (y + C) := by
          rw [HSG.out]; cases add <;> simp [colN] <;> omega
        rw [hNs] at key
        have hbound : -10 ≤ (x : Int) + sg * (y + C) ∧ (x : Int) + sg * (y + C) < 20 ∧ (add = true → 0 ≤ (x : Int) + sg * (y + C)) ∧ (add = false → (x : Int) + sg * (y + C) ≤ 9) := by
          rw [HSG.out]; cases add <;> simp <;> omega
        have hsg1 : (add = true → sg = 1) ∧ (add = false → sg = -1) := by rw [HSG.out]; cases add <;> simp
        generalize (x : Int) + sg * (y + C) = N at *
        by_cases h9 : 9 < N
        · have hadd : add = true := by cases add with | true => rfl | false => have := hbound.2.2.2 rfl; omega
          refine ⟨N - 10, 1, by omega, by omega, by decide, by decide, by rw [hsg1.1 hadd]; omega, fun w => (key w).mono ?_⟩
          rintro e w' ⟨he, rfl⟩
          unfold ColR at he
          rw [if_pos h9] at he
          exact ⟨by rw [he, hu _ (by omega) (by omega), show 48 + N - 10 = 48 + (N - 10) from by omega], rfl⟩
        · by_cases h0 : N < 0
          · have hadd : add = false := by cases add with | false => rfl | true => have := hbound.2.2.1 rfl; omega
            refine ⟨N + 10, 1, by omega, by omega, by decide, by decide, by rw [hsg1.2 hadd]; omega, fun w => (key w).mono ?_⟩
            rintro e w' ⟨he, rfl⟩
            unfold ColR at he
            rw [if_neg h9, if_pos h0] at he
            exact ⟨by rw [he, hu _ (by omega) (by omega), show 48 + N + 10 = 48 + (N + 10) from by omega], rfl⟩
          · refine ⟨N, 0, by omega, by omega, by decide, by decide, by simp, fun w => (key w).mono ?_⟩
            rintro e w' ⟨he, rfl⟩
            unfold ColR at he
            rw [if_neg h9, if_neg h0] at he
            exact ⟨by rw [he, hu _ (by omega) (by omega)], rfl⟩
      have hst := hpp.step (i := g) (c' := c') (r := r) (by rw [LA.out]; omega) hr0 hr1 hc0 hc1 (by rw [gA, gB]; exact hN)
      obtain ⟨D, hD⟩ : ∃ D : UInt8, D = UInt8.ofNat (48 + r.toNat) := ⟨_, rfl⟩
      rw [← hD] at hst hcol
      have HST := Lib.hid hst; have HR := Lib.hid hr; have HB := Lib.hid hb; have COL := Lib.hid hcol
      clear hD hst hr hb hcol hN xA xB hpp gA gB qA qB hxl hyl hll
      go_wp2_with fail
      go_region_held3 (fun w' => w'.frozen? ⟨G, g, none⟩ = false)
        (first | go_keep | exact hfree)
        (first | (go_at_call 223; refine (COL.out _).mono ?_; rintro e w5 ⟨rfl, rfl⟩))
      all_goals
        go_wp2_with fail
        go_roundg g
        case measure => omega
        case rel => exact ⟨c', _, rfl, by omega, rfl, HST.out, (HR.out.set g D), (HB.out.drew).setCell (p := ⟨G, g, none⟩) hg0 _⟩
end Go.Proofs.YtbpegjgpdgeadaaGreatDoor
namespace Go.Proofs.YtbpegjgpdgeadaaGreatDoor
open Go Go.RowKit Metro
open Go.Lib (nDigits decDigits)

theorem zt_is48 {n : Nat} (h : n = 0) : ((zt (n : Int)).toList == [48]) = true := zt_is0 (by omega)
theorem zt_no48 {n : Nat} (h : n ≠ 0) : ((zt (n : Int)).toList == [48]) = false := zt_not0 (by omega)

set_option maxHeartbeats 1000000 in
set_option maxRecDepth 100000 in
theorem signed_any (n : Nat) (m : Bool) (w : World) (hs : (zt (n : Int)).size ≤ 100000) :
    Calls Tryz.prog 186 #[.string (zt (n : Int)), .bool m] w fun e w' => e = .returned (.string (zt (if m then -(n : Int) else n))) ∧ w' = w := by
  obtain ⟨V, hV⟩ : ∃ V : Int, V = if m then -(n : Int) else n := ⟨_, rfl⟩
  rw [← hV]
  cases m with
  | false =>
    have hv : V = n := by rw [hV]; rfl
    have HV := Lib.hid hv
    clear hv hV
    go_enter Tryz.func186, Tryz.ntmps186
    go_wp2_with fail
    go_ret
    exact ⟨by rw [HV.out]; rfl, rfl⟩
  | true =>
    have hv : V = -(n : Int) := by rw [hV]; rfl
    by_cases h0 : n = 0
    · have e := zt_is48 h0
      have HV : Hid (V = n) := Lib.hid (by rw [hv, h0]; rfl)
      clear hv hV h0
      go_enter Tryz.func186, Tryz.ntmps186
      go_wp2_with fail
      go_ret
      exact ⟨by rw [HV.out]; rfl, rfl⟩
    · have e := zt_no48 h0
      have hz : (⟨#[45]⟩ : ByteArray) ++ zt (n : Int) = zt V := by rw [hv]; exact zt_opp_pos (by omega)
      have HZ := Lib.hid hz
      clear hv hV hz
      go_enter Tryz.func186, Tryz.ntmps186
      go_wp2_with fail
      go_ret
      exact ⟨by rw [← HZ.out]; rfl, rfl⟩

set_option maxHeartbeats 1000000 in
set_option maxRecDepth 100000 in
theorem turned_any (z : Int) (w : World) (hs : (zt z).size ≤ 100000) :
    Calls Tryz.prog 189 #[.string (zt z)] w fun e w' => e = .returned (.string (zt (-z))) ∧ w' = w := by
  have hs2 : (zt (z.natAbs : Int)).size ≤ 100000 := by
    rw [zt_size, zl_length] at *
    simp only [Int.natAbs_natCast]
    split at hs <;> split <;> omega
  have hV : (if (!decide (z < 0)) then -(z.natAbs : Int) else z.natAbs) = -z := by
    by_cases h : z < 0 <;> simp [h] <;> omega
  have HV := Lib.hid hV
  have HS := Lib.hid hs2
  clear hV hs2 hs
  obtain ⟨L, hL⟩ : ∃ L, L = decide (z < 0) := ⟨_, rfl⟩
  have HL := Lib.hid hL
  clear hL
  go_enter Tryz.func189, Tryz.ntmps189
  go_wp2_with fail
  refine (sizeZ_any z _).mono ?_
  rintro e w1 ⟨rfl, rfl⟩
  go_wp2_with fail
  refine (below_any z _).mono ?_
  rintro e w2 ⟨rfl, rfl⟩
  rw [← HL.out]
  go_wp2_with fail
  refine (signed_any z.natAbs (!L) _ HS.out).mono ?_
  rintro e w3 ⟨rfl, rfl⟩
  rw [HL.out, HV.out]
  go_wp2_with fail
  go_ret
  exact ⟨rfl, rfl⟩
end Go.Proofs.YtbpegjgpdgeadaaGreatDoor
namespace Go.Proofs.YtbpegjgpdgeadaaGreatDoor
open Go Go.RowKit Metro
open Go.Lib (nDigits decDigits)

theorem dval_take_succ (l : List UInt8) (k : Nat) (h : k < l.length) : dval (l.take (k + 1)) = 10 * dval (l.take k) + dv l[k] := by
  rw [List.take_succ_eq_append_getElem h, dval_append, dval_cons, dval_nil]
  simp; omega

set_option maxHeartbeats 2000000 in
set_option maxRecDepth 100000 in
theorem number_any (z : Int) (w : World) (hs : (zt (z.natAbs : Int)).size ≤ 18) :
    Calls Tryz.prog 219 #[.string (zt z)] w fun e w' => e = .returned (.int .i64 z) ∧ w' = w := by
  obtain ⟨S, hS⟩ : ∃ S, S = zt (z.natAbs : Int) := ⟨_, rfl⟩
  have hd : AllDig S.data.toList := by rw [hS, zt_toList, zl_ofNat]; exact allDig_decDigits _
  have hv : dval S.data.toList = z.natAbs := by rw [hS, zt_toList, zl_ofNat, dval_decDigits]
  have hc := sizeZ_any z w
  have hl : S.data.toList.length = S.size := by rw [← Lib.size_eq]
  rw [← hS] at hs hc
  have hpow : ∀ k, k ≤ S.size → dval (S.data.toList.take k) < 10 ^ 18 := fun k hk => by
    have h1 := dval_lt (l := S.data.toList.take k) (fun x hx => hd x (List.mem_of_mem_take hx))
    have h2 : (S.data.toList.take k).length ≤ 18 := by rw [List.length_take]; omega
    exact Nat.lt_of_lt_of_le h1 (Nat.pow_le_pow_right (by decide) h2)
  have HD := Lib.hid hd; have HV := Lib.hid hv; have HC := Lib.hid hc; have HL := Lib.hid hl; have HP := Lib.hid hpow
  clear hd hv hc hS hl hpow
  have hbel := below_any z
  have HBe := Lib.hid hbel
  clear hbel
  go_enter Tryz.func219, Tryz.ntmps219
  go_wp2_with fail
  refine HC.out.mono ?_
  rintro e w1 ⟨rfl, rfl⟩
  go_wp2_with fail
  go_loopg [3, 5] S.size (fun d n i wr => ∃ (k : Nat) (N : Nat), i = .int .i64 k ∧ n = .int .i64 N ∧ k ≤ S.size ∧ d = S.size - k ∧ N = dval (S.data.toList.take k) ∧ wr = w1)
  case atStart => exact ⟨0, 0, rfl, rfl, Nat.zero_le _, rfl, rfl, rfl⟩
  case round =>
    obtain ⟨k, N, rfl, rfl, hk, rfl, hN, rfl⟩ := hrel
    have HN := Lib.hid hN
    have hNb : N < 1000000000000000000 := by rw [hN]; exact HP.out k hk
    clear hN
    by_cases hlt : k < S.size
    · have hg : S.data.toList[k]'(by rw [HL.out]; exact hlt) = S[k]'hlt := by simp [ByteArray.getElem_eq_getElem_data]
      have hq := isDig_iff.1 (HD.out _ (List.getElem_mem (by rw [HL.out]; exact hlt : k < S.data.toList.length)))
      have hst := dval_take_succ S.data.toList k (by rw [HL.out]; exact hlt)
      rw [hg] at hq hst
      rw [← HN.out] at hst
      obtain ⟨X, hX⟩ : ∃ X : Nat, X = dv (S[k]'hlt) := ⟨_, rfl⟩
      rw [← hX] at hst
      have hx : ((S[k]'hlt).toNat : Int) = 48 + (X : Int) := by rw [hX]; unfold dv; omega
      have hX9 : X < 10 := by rw [hX]; unfold dv; omega
      have hb2 : 10 * N + X < 1000000000000000000 := by rw [← hst]; exact HP.out (k + 1) hlt
      have u := u8_sub48 hX9
      rw [← hx] at u
      have HST := Lib.hid hst
      clear hX hst hg hq hx
      go_wp2_with fail
      go_roundg (S.size - (k + 1))
      case measure => omega
      case rel => exact ⟨k + 1, 10 * N + X, by go_num, by go_num, by omega, rfl, HST.out.symm, rfl⟩
    · have hval : N = z.natAbs := by
        rw [HN.out, ← HV.out, List.take_of_length_le (by rw [HL.out]; omega)]
      by_cases hz : z < 0
      · have hdz : decide (z < 0) = true := by simpa using hz
        have HDz := Lib.hid hdz
        have HZ : Hid (-(N : Int) = z) := Lib.hid (by omega)
        clear hdz hval hz
        go_wp2_with fail
        refine (HBe.out _).mono ?_
        rintro e w2 ⟨rfl, rfl⟩
        rw [HDz.out]
        go_wp2_with fail
        go_ret
        exact ⟨by rw [← HZ.out]; rfl, rfl⟩
      · have hdz : decide (z < 0) = false := by simpa using hz
        have HDz := Lib.hid hdz
        have HZ : Hid ((N : Int) = z) := Lib.hid (by omega)
        clear hdz hval hz
        go_wp2_with fail
        refine (HBe.out _).mono ?_
        rintro e w2 ⟨rfl, rfl⟩
        rw [HDz.out]
        go_wp2_with fail
        go_ret
        exact ⟨by rw [← HZ.out]; rfl, rfl⟩

/-- Both numbers are short. -/
def BriefAt (a b : Int) (e : Ending) : Prop := (nDigits a.natAbs ≤ 18 ∧ nDigits b.natAbs ≤ 18 ∧ e = .returned (.tuple #[.int .i64 a, .int .i64 b, .bool true])) ∨ (¬ (nDigits a.natAbs ≤ 18 ∧ nDigits b.natAbs ≤ 18) ∧ e = .returned (.tuple #[.int .i64 0, .int .i64 0, .bool false]))

set_option maxHeartbeats 2000000 in
set_option maxRecDepth 100000 in
theorem brief_any (a b : Int) (w : World) :
    Calls Tryz.prog 187 #[.string (zt a), .string (zt b)] w fun e w' => BriefAt a b e ∧ w' = w := by
  have h1 := zt_nat_size a.natAbs
  have h2 := zt_nat_size b.natAbs
  by_cases ha : (zt (a.natAbs : Int)).size ≤ 18
  · have da : ¬ (18 : Int) < (zt (a.natAbs : Int)).size := by omega
    by_cases hb : (zt (b.natAbs : Int)).size ≤ 18
    · have db : ¬ (18 : Int) < (zt (b.natAbs : Int)).size := by omega
      have HR : Hid (nDigits a.natAbs ≤ 18 ∧ nDigits b.natAbs ≤ 18) := Lib.hid ⟨by omega, by omega⟩
      clear h1 h2
      go_enter Tryz.func187, Tryz.ntmps187
      go_wp2_with fail
      refine (sizeZ_any a _).mono ?_
      rintro e w1 ⟨rfl, rfl⟩
      go_wp2_with fail
      refine (sizeZ_any b _).mono ?_
      rintro e w1 ⟨rfl, rfl⟩
      go_wp2_with fail
      refine (number_any a _ ha).mono ?_
      rintro e w1 ⟨rfl, rfl⟩
      go_wp2_with fail
      refine (number_any b _ hb).mono ?_
      rintro e w1 ⟨rfl, rfl⟩
      go_wp2_with fail
      go_ret3
      exact ⟨.inl ⟨HR.out.1, HR.out.2, rfl⟩, rfl⟩
    · have db : (18 : Int) < (zt (b.natAbs : Int)).size := by omega
      have HR : Hid (¬ (nDigits a.natAbs ≤ 18 ∧ nDigits b.natAbs ≤ 18)) := Lib.hid (by omega)
      clear h1 h2
      go_enter Tryz.func187, Tryz.ntmps187
      go_wp2_with fail
      refine (sizeZ_any a _).mono ?_
      rintro e w1 ⟨rfl, rfl⟩
      go_wp2_with fail
      refine (sizeZ_any b _).mono ?_
      rintro e w1 ⟨rfl, rfl⟩
      go_wp2_with fail
      go_ret3
      exact ⟨.inr ⟨HR.out, rfl⟩, rfl⟩
  · have da : (18 : Int) < (zt (a.natAbs : Int)).size := by omega
    have HR : Hid (¬ (nDigits a.natAbs ≤ 18 ∧ nDigits b.natAbs ≤ 18)) := Lib.hid (by omega)
    clear h1 h2
    go_enter Tryz.func187, Tryz.ntmps187
    go_wp2_with fail
    refine (sizeZ_any a _).mono ?_
    rintro e w1 ⟨rfl, rfl⟩
    go_wp2_with fail
    go_ret3
    exact ⟨.inr ⟨HR.out, rfl⟩, rfl⟩
end Go.Proofs.YtbpegjgpdgeadaaGreatDoor
namespace Go.Proofs.YtbpegjgpdgeadaaGreatDoor
open Go Go.RowKit Metro
open Go.Lib (nDigits decDigits)

theorem rowAt_one (w : World) (c : UInt8) : RowAt (w.alloc (.cells #[.int .u8 (c.toNat : Int)] 5)) w.heap.size [c] := heap_alloc_new w _

set_option maxHeartbeats 2000000 in
set_option maxRecDepth 100000 in
theorem refOfN_any (n : Nat) (w : World) (hn : n < 9223372036854775808) :
    Calls Tryz.prog 115 #[.int .i64 n] w fun e w' => e = .returned (.string (zt (n : Int))) ∧ Below w.heap.size w w' := by
  have h1 : ((n : Int) == -(n : Int)) = decide (n = 0) := by
    rw [Bool.eq_iff_iff, beq_iff_eq, decide_eq_true_iff]; omega
  have h2 : ¬ (n : Int) < 0 := by omega
  obtain ⟨T, hT⟩ : ∃ T, T = zt (n : Int) := ⟨_, rfl⟩
  rw [← hT]
  have HT := Lib.hid hT
  clear hT
  by_cases h0 : n = 0
  · subst h0
    have HT0 : Hid (T = ⟨#[48]⟩) := Lib.hid (by rw [HT.out]; exact zt_zero')
    have hcv := (rowAt_one w 48).string 1 rfl 1
    clear HT h1 h2
    have hcv' : (convert 220 9 (.slice (some ⟨w.heap.size, 0, none⟩) 1 1)).run Tryz.prog (w.alloc (.cells #[.int .u8 48] 5)) = .ok (.string ⟨#[48]⟩) (w.alloc (.cells #[.int .u8 48] 5)) := hcv
    clear hcv
    go_enter Tryz.func115, Tryz.ntmps115
    go_wp2_with fail
    go_loopg [0, 3] 0 (fun d x s wr => x = .int .i64 ((0 : Nat) : Int) ∧ s = .string ⟨#[]⟩ ∧ wr = w)
    case atStart => exact ⟨rfl, rfl, rfl⟩
    case round =>
      obtain ⟨rfl, rfl, rfl⟩ := hrel
      go_wp2_with fail
      go_ret
      exact ⟨by rw [HT0.out]; rfl, (Below.refl _ _).alloc (Nat.le_refl _) _⟩
  · have hd : decide (n = 0) = false := by simpa using h0
    rw [hd] at h1
    clear hd
    go_enter Tryz.func115, Tryz.ntmps115
    go_wp2_with fail
    have hTs : T.size ≤ 19 := by
      rw [HT.out, zt_size, zl_ofNat, Go.Lib.decDigits_length]
      exact (Metro.nDigits_le (k := 19) (by decide)).2 (by omega)
    go_loopg [0, 3] n (fun d x s wr => ∃ S : ByteArray, x = .int .i64 d ∧ s = .string S ∧ d ≤ n ∧ decDigits d ++ S.data.toList = T.data.toList ∧ Below w.heap.size w wr)
    case atStart => exact ⟨⟨#[]⟩, rfl, rfl, Nat.le_refl _, by rw [HT.out, zt_toList, zl_ofNat]; simp, Below.refl _ _⟩
    case round =>
      obtain ⟨S, rfl, rfl, hd, hS, hb⟩ := hrel
      have hSs : S.size ≤ 19 := by
        have := congrArg List.length hS
        rw [List.length_append, ← Lib.size_eq, ← Lib.size_eq] at this; omega
      have HSS := Lib.hid hS; have HB := Lib.hid hb
      clear hS hb
      by_cases hg : 9 < (gk : Int)
      · obtain ⟨c, hc⟩ : ∃ c : UInt8, c = UInt8.ofNat (48 + gk % 10) := ⟨_, rfl⟩
        have hcn : (c.toNat : Int) = 48 + (gk : Int) % 10 := by rw [hc]; simp; omega
        have hcv := (rowAt_one wr c).string 1 rfl 1
        rw [hcn] at hcv
        have HC := Lib.hid hc
        clear hc hcn
        go_wp2_with fail
        go_roundg (gk / 10)
        case measure => omega
        case rel =>
          refine ⟨⟨#[c]⟩ ++ S, by congr 1, rfl, by omega, ?_, HB.out.alloc HB.out.size _⟩
          have h := HSS.out
          rw [decDigits_big (by omega), ← HC.out] at h
          rw [ByteArray.data_append, Array.toList_append, ← h, List.append_assoc]
      · obtain ⟨c, hc⟩ : ∃ c : UInt8, c = UInt8.ofNat (48 + gk) := ⟨_, rfl⟩
        have hcn : (c.toNat : Int) = 48 + (gk : Int) := by rw [hc]; simp; omega
        have hcv := (rowAt_one wr c).string 1 rfl 1
        rw [hcn] at hcv
        have hfin : (⟨#[c]⟩ : ByteArray) ++ S = T := by
          apply ba_ext
          rw [ByteArray.data_append, Array.toList_append, ← HSS.out, decDigits_small (by omega), hc]
        have HF := Lib.hid hfin
        clear hc hcn hfin
        go_wp2_with fail
        go_ret
        exact ⟨by rw [← HF.out]; rfl, HB.out.alloc HB.out.size _⟩
end Go.Proofs.YtbpegjgpdgeadaaGreatDoor
namespace Go.Proofs.YtbpegjgpdgeadaaGreatDoor
open Go Go.RowKit Metro
open Go.Lib (nDigits decDigits)

set_option maxHeartbeats 2000000 in
set_option maxRecDepth 100000 in
theorem refOf_any (z : Int) (w : World) (h0 : -9223372036854775808 < z) (h1 : z < 9223372036854775808) :
    Calls Tryz.prog 115 #[.int .i64 z] w fun e w' => e = .returned (.string (zt z)) ∧ Below w.heap.size w w' := by
  by_cases hz : 0 ≤ z
  · obtain ⟨n, rfl⟩ : ∃ n : Nat, z = n := ⟨z.toNat, by omega⟩
    exact refOfN_any n w (by omega)
  · obtain ⟨n, hn⟩ : ∃ n : Nat, (n : Int) = -z := ⟨(-z).toNat, by omega⟩
    have hc := fun w => refOfN_any n w (by omega)
    rw [hn] at hc
    have hs : (zt (-z)).size ≤ 100000 := by
      rw [← hn, zt_size, zl_ofNat, Go.Lib.decDigits_length]
      exact Nat.le_trans ((Metro.nDigits_le (k := 19) (by decide)).2 (by omega)) (by decide)
    have ht := fun w => turned_any (-z) w hs
    rw [Int.neg_neg] at ht
    have HC := Lib.hid hc
    have HT := Lib.hid ht
    have e1 : (z == -z) = false := by rw [beq_eq_false_iff_ne]; omega
    have hz' : z < 0 := by omega
    clear hc hn hs ht hz
    go_enter Tryz.func115, Tryz.ntmps115
    go_wp2_with fail
    refine (HC.out _).mono ?_
    rintro e w1 ⟨rfl, hb1⟩
    go_wp2_with fail
    refine (HT.out _).mono ?_
    rintro e w2 ⟨rfl, rfl⟩
    go_wp2_with fail
    go_ret
    exact ⟨rfl, hb1⟩

/-- The digits are few enough for the walks. -/
def Few (z : Int) : Prop := nDigits z.natAbs ≤ 9000
theorem few_size {z : Int} (h : Few z) : (zt (z.natAbs : Int)).size ≤ 10000 := by
  rw [zt_nat_size]; unfold Few at h; omega

set_option maxHeartbeats 4000000 in
set_option maxRecDepth 100000 in
theorem refPlus_any (a b : Int) (w : World) (ha : Few a) (hb : Few b) :
    Calls Tryz.prog 119 #[.string (zt a), .string (zt b)] w fun e w' => e = .returned (.string (zt (a + b))) ∧ Below w.heap.size w w' := by
  have HA := Lib.hid ha; have HBb := Lib.hid hb
  clear ha hb
  go_enter Tryz.func119, Tryz.ntmps119
  go_wp2_with fail
  refine (brief_any a b _).mono ?_
  rintro e w1 ⟨he, rfl⟩
  rcases he with ⟨h1, h2, rfl⟩ | ⟨_, rfl⟩
  · have k1 := (Metro.nDigits_le (k := 18) (by decide)).1 h1
    have k2 := (Metro.nDigits_le (k := 18) (by decide)).1 h2
    have l1 : -1000000000000000000 < a ∧ a < 1000000000000000000 := by omega
    have l2 : -1000000000000000000 < b ∧ b < 1000000000000000000 := by omega
    clear k1 k2 h1 h2
    go_wp2_with fail
    refine (refOf_any (a + b) _ (by omega) (by omega)).mono ?_
    rintro e w2 ⟨rfl, hb2⟩
    go_wp2_with fail
    go_ret
    exact ⟨rfl, hb2⟩
  · have sA := few_size HA.out
    have sB := few_size HBb.out
    obtain ⟨LA, hLA⟩ : ∃ LA, LA = decide (a < 0) := ⟨_, rfl⟩
    obtain ⟨LB, hLB⟩ : ∃ LB, LB = decide (b < 0) := ⟨_, rfl⟩
    have DA := Lib.hid hLA.symm
    have DB := Lib.hid hLB.symm
    have hsz : ∀ n : Nat, n ≤ a.natAbs + b.natAbs → (zt (n : Int)).size ≤ 100000 := by
      intro n hn
      rw [zt_nat_size]
      have h1 := HA.out; have h2 := HBb.out
      unfold Few at h1 h2
      exact Nat.le_trans (nDigits_mono hn) (Nat.le_trans (nDigits_add (k := 9000) h1 h2) (by decide))
    have HSZ := Lib.hid hsz
    clear hsz
    by_cases hsame : LA = LB
    · have hq : (LA == LB) = true := by simpa using hsame
      have RES : Hid ((if LA then -((a.natAbs + b.natAbs : Nat) : Int) else ((a.natAbs + b.natAbs : Nat) : Int)) = a + b) := Lib.hid (by
        rw [hLA] at hsame ⊢; rw [hLB] at hsame
        by_cases h1 : a < 0 <;> by_cases h2 : b < 0 <;> simp [h1, h2] at hsame ⊢ <;> omega)
      clear hLA hLB hsame
      go_wp2_with fail
      refine (sizeZ_any a _).mono ?_
      rintro e w2 ⟨rfl, rfl⟩
      go_wp2_with fail
      refine (sizeZ_any b _).mono ?_
      rintro e w2 ⟨rfl, rfl⟩
      go_wp2_with fail
      refine (below_any a _).mono ?_
      rintro e w2 ⟨rfl, rfl⟩
      rw [DA.out]
      go_wp2_with fail
      refine (below_any b _).mono ?_
      rintro e w2 ⟨rfl, rfl⟩
      rw [DB.out]
      go_wp2_with fail
      refine (paper_any a.natAbs b.natAbs true _ sA sB (by simp)).mono ?_
      rintro e w4 ⟨rfl, hb4⟩
      rw [if_pos rfl]
      go_wp2_with fail
      refine (below_any a _).mono ?_
      rintro e w5 ⟨rfl, rfl⟩
      rw [DA.out]
      go_wp2_with fail
      refine (signed_any (a.natAbs + b.natAbs) LA _ (HSZ.out _ (Nat.le_refl _))).mono ?_
      rintro e w6 ⟨rfl, rfl⟩
      rw [RES.out]
      go_wp2_with fail
      go_ret
      exact ⟨rfl, hb4⟩
    · have hq : (LA == LB) = false := by simpa using hsame
      by_cases hlt : a.natAbs < b.natAbs
      · have HL : Hid (decide (a.natAbs < b.natAbs) = true) := Lib.hid (by simpa using hlt)
        have RES : Hid ((if LB then -((b.natAbs - a.natAbs : Nat) : Int) else ((b.natAbs - a.natAbs : Nat) : Int)) = a + b) := Lib.hid (by
          rw [hLA, hLB] at hsame; rw [hLB]
          by_cases h1 : a < 0 <;> by_cases h2 : b < 0 <;> simp [h1, h2] at hsame ⊢ <;> omega)
        clear hLA hLB hsame
        go_wp2_with fail
        refine (sizeZ_any a _).mono ?_
        rintro e w2 ⟨rfl, rfl⟩
        go_wp2_with fail
        refine (sizeZ_any b _).mono ?_
        rintro e w2 ⟨rfl, rfl⟩
        go_wp2_with fail
        refine (below_any a _).mono ?_
        rintro e w2 ⟨rfl, rfl⟩
        rw [DA.out]
        go_wp2_with fail
        refine (below_any b _).mono ?_
        rintro e w2 ⟨rfl, rfl⟩
        rw [DB.out]
        go_wp2_with fail
        refine (less_any a.natAbs b.natAbs _).mono ?_
        rintro e w2 ⟨rfl, rfl⟩
        rw [HL.out]
        go_wp2_with fail
        refine (paper_any b.natAbs a.natAbs false _ sB sA (fun _ => by omega)).mono ?_
        rintro e w4 ⟨rfl, hb4⟩
        rw [if_neg Bool.false_ne_true]
        go_wp2_with fail
        refine (below_any b _).mono ?_
        rintro e w5 ⟨rfl, rfl⟩
        rw [DB.out]
        go_wp2_with fail
        refine (signed_any (b.natAbs - a.natAbs) LB _ (HSZ.out _ (by omega))).mono ?_
        rintro e w6 ⟨rfl, rfl⟩
        rw [RES.out]
        go_wp2_with fail
        go_ret
        exact ⟨rfl, hb4⟩
      · have HL : Hid (decide (a.natAbs < b.natAbs) = false) := Lib.hid (by simpa using hlt)
        have RES : Hid ((if LA then -((a.natAbs - b.natAbs : Nat) : Int) else ((a.natAbs - b.natAbs : Nat) : Int)) = a + b) := Lib.hid (by
          rw [hLA, hLB] at hsame; rw [hLA]
          by_cases h1 : a < 0 <;> by_cases h2 : b < 0 <;> simp [h1, h2] at hsame ⊢ <;> omega)
        clear hLA hLB hsame
        go_wp2_with fail
        refine (sizeZ_any a _).mono ?_
        rintro e w2 ⟨rfl, rfl⟩
        go_wp2_with fail
        refine (sizeZ_any b _).mono ?_
        rintro e w2 ⟨rfl, rfl⟩
        go_wp2_with fail
        refine (below_any a _).mono ?_
        rintro e w2 ⟨rfl, rfl⟩
        rw [DA.out]
        go_wp2_with fail
        refine (below_any b _).mono ?_
        rintro e w2 ⟨rfl, rfl⟩
        rw [DB.out]
        go_wp2_with fail
        refine (less_any a.natAbs b.natAbs _).mono ?_
        rintro e w2 ⟨rfl, rfl⟩
        rw [HL.out]
        go_wp2_with fail
        refine (paper_any a.natAbs b.natAbs false _ sA sB (fun _ => by omega)).mono ?_
        rintro e w4 ⟨rfl, hb4⟩
        rw [if_neg Bool.false_ne_true]
        go_wp2_with fail
        refine (below_any a _).mono ?_
        rintro e w5 ⟨rfl, rfl⟩
        rw [DA.out]
        go_wp2_with fail
        refine (signed_any (a.natAbs - b.natAbs) LA _ (HSZ.out _ (by omega))).mono ?_
        rintro e w6 ⟨rfl, rfl⟩
        rw [RES.out]
        go_wp2_with fail
        go_ret
        exact ⟨rfl, hb4⟩
end Go.Proofs.YtbpegjgpdgeadaaGreatDoor
namespace Go.Proofs.YtbpegjgpdgeadaaGreatDoor
open Go Go.RowKit Metro
open Go.Lib (nDigits decDigits)

theorem Few.neg {z : Int} (h : Few z) : Few (-z) := by unfold Few; rw [Int.natAbs_neg]; exact h
theorem few_zt {z : Int} (h : Few z) : (zt z).size ≤ 100000 := by
  unfold Few at h; rw [zt_size, zl_length]; split <;> omega

set_option maxHeartbeats 1000000 in
set_option maxRecDepth 100000 in
theorem refMinus_any (a b : Int) (w : World) (ha : Few a) (hb : Few b) :
    Calls Tryz.prog 184 #[.string (zt a), .string (zt b)] w fun e w' => e = .returned (.string (zt (a - b))) ∧ Below w.heap.size w w' := by
  have C1 := Lib.hid (fun w => turned_any b w (few_zt hb))
  have C2 := Lib.hid (fun w => refPlus_any a (-b) w ha hb.neg)
  clear ha hb
  go_enter Tryz.func184, Tryz.ntmps184
  go_wp2_with fail
  refine (C1.out _).mono ?_
  rintro e w1 ⟨rfl, rfl⟩
  go_wp2_with fail
  refine (C2.out _).mono ?_
  rintro e w2 ⟨rfl, hb2⟩
  rw [← Int.sub_eq_add_neg]
  go_wp2_with fail
  go_ret
  exact ⟨rfl, hb2⟩

set_option maxHeartbeats 1000000 in
set_option maxRecDepth 100000 in
theorem refOrder_any (a b : Int) (w : World) (ha : Few a) (hb : Few b) :
    Calls Tryz.prog 113 #[.string (zt a), .string (zt b)] w fun e w' => e = .returned (.int .i64 (a - b).sign) ∧ Below w.heap.size w w' := by
  have C := Lib.hid (refMinus_any a b w ha hb)
  clear ha hb
  have HB := Lib.hid (fun w => below_any (a - b) w)
  generalize a - b = z at C HB ⊢
  rcases Int.lt_trichotomy z 0 with h | h | h
  · have e0 := zt_not0 (z := z) (by omega)
    have hs : Hid (z.sign = -1) := Lib.hid (Int.sign_eq_neg_one_of_neg h)
    have hd : Hid (decide (z < 0) = true) := Lib.hid (by simpa using h)
    clear h
    go_enter Tryz.func113, Tryz.ntmps113
    go_wp2_with fail
    refine C.out.mono ?_
    rintro e w1 ⟨rfl, hb1⟩
    go_wp2_with fail
    refine (HB.out _).mono ?_
    rintro e w2 ⟨rfl, rfl⟩
    rw [hd.out]
    go_wp2_with fail
    go_ret
    exact ⟨by rw [hs.out]; rfl, hb1⟩
  · have e0 := zt_is0 h
    have hs : Hid (z.sign = 0) := Lib.hid (by rw [h]; rfl)
    clear h
    go_enter Tryz.func113, Tryz.ntmps113
    go_wp2_with fail
    refine C.out.mono ?_
    rintro e w1 ⟨rfl, hb1⟩
    go_wp2_with fail
    go_ret
    exact ⟨by rw [hs.out]; rfl, hb1⟩
  · have e0 := zt_not0 (z := z) (by omega)
    have hs : Hid (z.sign = 1) := Lib.hid (Int.sign_eq_one_of_pos h)
    have hd : Hid (decide (z < 0) = false) := Lib.hid (by simp; omega)
    clear h
    go_enter Tryz.func113, Tryz.ntmps113
    go_wp2_with fail
    refine C.out.mono ?_
    rintro e w1 ⟨rfl, hb1⟩
    go_wp2_with fail
    refine (HB.out _).mono ?_
    rintro e w2 ⟨rfl, rfl⟩
    rw [hd.out]
    go_wp2_with fail
    go_ret
    exact ⟨by rw [hs.out]; rfl, hb1⟩
end Go.Proofs.YtbpegjgpdgeadaaGreatDoor
