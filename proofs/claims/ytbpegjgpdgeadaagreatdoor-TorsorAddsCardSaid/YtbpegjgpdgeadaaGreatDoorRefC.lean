/- A part of the proof: RefC. Conditions: none. -/
import Derived.Test.YtbpegjgpdgeadaaGreatDoorRefB
namespace Go.Proofs.YtbpegjgpdgeadaaGreatDoor
open Go Go.RowKit Metro
open Go.Lib (nDigits decDigits)

/-- The index of the first slash, or -1. -/
def slashAt (l : List UInt8) : Int := if cutW l then ((cutA l).length : Int) else -1

theorem take_all_succ {l : List UInt8} {k : Nat} (h : ∀ c ∈ l.take k, c ≠ 47) (hk : k < l.length) (hc : l[k] ≠ 47) : ∀ c ∈ l.take (k + 1), c ≠ 47 := by
  rw [List.take_succ_eq_append_getElem hk]
  intro c hcm
  rcases List.mem_append.1 hcm with h1 | h1
  · exact h c h1
  · rw [List.mem_singleton.1 h1]; exact hc

set_option maxHeartbeats 2000000 in
set_option maxRecDepth 100000 in
theorem slash_any (s : ByteArray) (w : World) (hs : s.size ≤ 100000) :
    Calls Tryz.prog 112 #[.string s] w fun e w' => e = .returned (.int .i64 (slashAt s.data.toList)) ∧ w' = w := by
  have hl : s.data.toList.length = s.size := by rw [← Lib.size_eq]
  have HL := Lib.hid hl
  clear hl
  go_enter Tryz.func112, Tryz.ntmps112
  go_wp2_with fail
  go_loopg [3] s.size (fun d x wr => ∃ k : Nat, x = .int .i64 k ∧ k ≤ s.size ∧ d = s.size - k ∧ Hid (∀ c ∈ s.data.toList.take k, c ≠ 47) ∧ wr = w)
  case atStart => exact ⟨0, rfl, Nat.zero_le _, rfl, Lib.hid (fun c hc => by simp at hc), rfl⟩
  case round =>
    obtain ⟨k, rfl, hk, rfl, hn, rfl⟩ := hrel
    by_cases hlt : k < s.size
    · have gA : s.data.toList[k]'(by rw [HL.out]; exact hlt) = s[k]'hlt := by simp [ByteArray.getElem_eq_getElem_data]
      have GA := Lib.hid gA
      clear gA
      by_cases hc : ((s[k]'hlt).toNat : Int) = 47
      · have hc' : (((s[k]'hlt).toNat : Int) == 47) = true := by simpa using hc
        have hv : slashAt s.data.toList = (k : Int) := by
          have h47 : s[k]'hlt = 47 := by apply UInt8.toNat_inj.1; rw [show (47 : UInt8).toNat = 47 from rfl]; omega
          have e : s.data.toList = s.data.toList.take k ++ 47 :: s.data.toList.drop (k + 1) := by
            have h2 : s.data.toList.drop k = 47 :: s.data.toList.drop (k + 1) := by
              rw [List.drop_eq_getElem_cons (by rw [HL.out]; exact hlt), GA.out, h47]
            rw [← h2, List.take_append_drop]
          have hp := cut_parts (r := s.data.toList.drop (k + 1)) hn.out
          rw [← e] at hp
          unfold slashAt
          rw [hp.2.1, if_pos rfl, hp.1, List.length_take, HL.out]
          omega
        have HV := Lib.hid hv
        clear hv hc
        go_wp2_with fail
        go_ret
        exact ⟨by rw [HV.out]; rfl, rfl⟩
      · have hc' : (((s[k]'hlt).toNat : Int) == 47) = false := by simpa using hc
        have hn2 : ∀ c ∈ s.data.toList.take (k + 1), c ≠ 47 := take_all_succ hn.out (by rw [HL.out]; exact hlt) (by rw [GA.out]; intro e; rw [e] at hc; exact hc rfl)
        have HN2 := Lib.hid hn2
        clear hn2 hc
        go_wp2_with fail
        go_roundg (s.size - (k + 1))
        case measure => omega
        case rel => exact ⟨k + 1, rfl, by omega, rfl, HN2, rfl⟩
    · have hv : slashAt s.data.toList = -1 := by
        have h := hn.out
        rw [List.take_of_length_le (by rw [HL.out]; omega)] at h
        unfold slashAt
        rw [(cut_whole h).2.1]
        rfl
      have HV := Lib.hid hv
      clear hv
      go_wp2_with fail
      go_ret
      exact ⟨by rw [HV.out]; rfl, rfl⟩

theorem cutA_take {l : List UInt8} (h : cutW l = true) : l.take (cutA l).length = cutA l ∧ l.drop ((cutA l).length + 1) = cutB l := by
  have e := cut_join l h
  generalize cutA l = A at *
  generalize cutB l = B at *
  subst e
  simp

theorem cutA_lt {l : List UInt8} (h : cutW l = true) : (cutA l).length < l.length := by
  have e := congrArg List.length (cut_join l h)
  rw [List.length_append, List.length_cons] at e
  omega

set_option maxHeartbeats 2000000 in
set_option maxRecDepth 100000 in
theorem splitL_any (s : ByteArray) (w : World) (hs : s.size ≤ 100000) :
    Calls Tryz.prog 110 #[.string s] w fun e w' => e = .returned (.tuple #[.string ⟨(cutA s.data.toList).toArray⟩, .string ⟨(cutB s.data.toList).toArray⟩]) ∧ Below w.heap.size w w' := by
  have C := Lib.hid (fun w => slash_any s w hs)
  by_cases hw : cutW s.data.toList = true
  · obtain ⟨i, hi⟩ : ∃ i : Nat, i = (cutA s.data.toList).length := ⟨_, rfl⟩
    have hsl : slashAt s.data.toList = (i : Int) := by unfold slashAt; rw [hw, if_pos rfl, hi]
    have hlt : i < s.size := by rw [hi, Lib.size_eq]; exact cutA_lt hw
    have h1 := (cutA_take hw).1
    have h2 := (cutA_take hw).2
    rw [← hi] at h1 h2
    have e1 : s.extract 0 i = ⟨(cutA s.data.toList).toArray⟩ := by
      apply ba_ext; rw [Lib.extract_data, List.drop_zero, Nat.sub_zero, h1]
    have e2 : s.extract (i + 1) s.size = ⟨(cutB s.data.toList).toArray⟩ := by
      apply ba_ext; rw [Lib.extract_data, h2, List.take_of_length_le]
      rw [← h2, List.length_drop, ← Lib.size_eq]; omega
    rw [hsl] at C
    rw [← e1, ← e2]
    clear hw hi hsl h1 h2 e1 e2
    have hi1 : IntKind.i64.wrap ((i : Int) + 1) = (i : Int) + 1 := by rw [IntKind.wrap_i64]; omega
    have b1 : (0 : Int) ≤ i := Int.natCast_nonneg _
    have b2 : (i : Int) ≤ s.size := by omega
    have b3 : (0 : Int) ≤ (i : Int) + 1 := by omega
    have b4 : (i : Int) + 1 ≤ s.size := by omega
    have b5 : ((i : Int) + 1).toNat = i + 1 := by omega
    go_enter Tryz.func110, Tryz.ntmps110
    go_wp2_with fail
    refine (C.out _).mono ?_
    rintro e w1 ⟨rfl, rfl⟩
    go_wp2_with fail
    go_quiet (fail)
    go_wp2_with fail
    go_ret2
    exact ⟨rfl, below_drewN _ _ _⟩
  · have hw' : cutW s.data.toList = false := by simpa using hw
    have hsl : slashAt s.data.toList = -1 := by unfold slashAt; rw [hw']; rfl
    have e1 : (⟨(cutA s.data.toList).toArray⟩ : ByteArray) = s := by apply ba_ext; rw [cutA_whole hw']
    have e2 : (⟨(cutB s.data.toList).toArray⟩ : ByteArray) = ⟨#[49]⟩ := by unfold cutB; rw [hw']; rfl
    rw [hsl] at C
    rw [e1, e2]
    clear hw hw' hsl e1 e2
    go_enter Tryz.func110, Tryz.ntmps110
    go_wp2_with fail
    refine (C.out _).mono ?_
    rintro e w1 ⟨rfl, rfl⟩
    go_wp2_with fail
    go_ret2
    exact ⟨rfl, Below.refl _ _⟩

/-- Numerator and denominator have digits few enough. -/
def FewQ (q : Rat) : Prop := Few q.num ∧ Few (q.den : Int)
theorem fewQ_size {q : Rat} (h : FewQ q) : (qt q).size ≤ 100000 := by
  rw [Lib.size_eq, qt_toList]
  have h1 := h.1; have h2 := h.2
  unfold Few at h1 h2
  have h3 := zl_length q.num
  have h4 := zl_length (q.den : Int)
  unfold ql
  split
  · rw [h3]; split <;> omega
  · rw [List.length_append, List.length_cons, h3, h4]; split <;> split <;> omega

theorem split_any (q : Rat) (w : World) (hf : FewQ q) :
    Calls Tryz.prog 110 #[.string (qt q)] w fun e w' => e = .returned (.tuple #[.string (zt q.num), .string (zt (q.den : Int))]) ∧ Below w.heap.size w w' := by
  have h := splitL_any (qt q) w (fewQ_size hf)
  rw [qt_toList, cutA_ql, cutB_ql] at h
  exact h
end Go.Proofs.YtbpegjgpdgeadaaGreatDoor
namespace Go.Proofs.YtbpegjgpdgeadaaGreatDoor
open Go Go.RowKit Metro
open Go.Lib (nDigits decDigits)

theorem slashAt_size {l : List UInt8} : -1 ≤ slashAt l ∧ slashAt l ≤ l.length := by
  unfold slashAt
  split
  · rename_i h; have := cutA_lt h; omega
  · omega

theorem few_1024 {z : Int} (h : nDigits z.natAbs ≤ 1024) : Few z := Nat.le_trans h (by decide)
theorem few_one : Few 1 := few_1024 one_digit

set_option maxHeartbeats 1000000 in
set_option maxRecDepth 100000 in
theorem refQCheck_any (s : ByteArray) (w : World) (hs : s.size ≤ 90000) :
    Calls Tryz.prog 33 #[.string s] w fun e w' => e = .returned (.int .i64 (chkQ s.data.toList : Int)) ∧ Below w.heap.size w w' := by
  have hl := cut_sizes s.data.toList
  rw [← Lib.size_eq] at hl
  obtain ⟨A, hA⟩ : ∃ A : ByteArray, A = ⟨(cutA s.data.toList).toArray⟩ := ⟨_, rfl⟩
  obtain ⟨B, hB⟩ : ∃ B : ByteArray, B = ⟨(cutB s.data.toList).toArray⟩ := ⟨_, rfl⟩
  obtain ⟨W, hW⟩ : ∃ W : Bool, W = cutW s.data.toList := ⟨_, rfl⟩
  obtain ⟨I, hI⟩ : ∃ I, I = slashAt s.data.toList := ⟨_, rfl⟩
  have hIW : (0 ≤ I ↔ W = true) := by
    rw [hI, hW]; unfold slashAt
    cases cutW s.data.toList <;> simp
  have hAl : A.data.toList = cutA s.data.toList := by rw [hA]
  have hBl : B.data.toList = cutB s.data.toList := by rw [hB]
  have hAs : A.size ≤ 90001 := by rw [Lib.size_eq, hAl]; omega
  have hBs : B.size ≤ 90001 := by rw [Lib.size_eq, hBl]; omega
  have hC := fun w => splitL_any s w (by omega)
  rw [← hA, ← hB] at hC
  have hSl := fun w => slash_any s w (by omega)
  rw [← hI] at hSl
  have hQ : chkQ s.data.toList = if chkL A.data.toList = 3 ∨ chkL B.data.toList = 3 then 3
    else if chkL A.data.toList ≠ 0 ∨ chkL B.data.toList ≠ 0 then 11
    else if W = true ∧ (zv B.data.toList ≤ 1 ∨ Int.gcd (zv A.data.toList) (zv B.data.toList) ≠ 1) then 3 else 0 := by
    rw [hAl, hBl, hW]; rfl
  have HC := Lib.hid hC; have HQ := Lib.hid hQ; have HSl := Lib.hid hSl
  clear hC hQ hA hB hW hAl hBl hl hs hSl hI
  have cA := fun w => refCheck_any A w (by omega)
  have cB := fun w => refCheck_any B w (by omega)
  obtain ⟨eA, hA⟩ : ∃ eA, eA = chkL A.data.toList := ⟨_, rfl⟩
  obtain ⟨eB, hB⟩ : ∃ eB, eB = chkL B.data.toList := ⟨_, rfl⟩
  have dA := chkL_le A.data.toList
  have dB := chkL_le B.data.toList
  have hQ := HQ.out
  rw [← hA] at cA dA hQ
  rw [← hB] at cB dB hQ
  have HQ1 := Lib.hid hQ
  have CA := Lib.hid cA; have CB := Lib.hid cB; have HA := Lib.hid hA; have HBe := Lib.hid hB
  have HIW := Lib.hid hIW
  clear hQ cA cB hA hB hIW
  by_cases h00 : eA = 0 ∧ eB = 0
  · obtain ⟨rfl, rfl⟩ := h00
    obtain ⟨fA, nA⟩ := zv_form HA.out.symm
    obtain ⟨fB, nB⟩ := zv_form HBe.out.symm
    obtain ⟨a, ha⟩ : ∃ a, a = zv A.data.toList := ⟨_, rfl⟩
    obtain ⟨b, hb⟩ : ∃ b, b = zv B.data.toList := ⟨_, rfl⟩
    have hQ := HQ1.out
    rw [← ha] at fA nA hQ
    rw [← hb] at fB nB hQ
    have eA : A = zt a := by apply ByteArray.ext; apply Array.ext'; rw [zt_toList]; exact fA
    have eB : B = zt b := by apply ByteArray.ext; apply Array.ext'; rw [zt_toList]; exact fB
    rw [if_neg (by omega), if_neg (by omega)] at hQ
    have NA := Lib.hid (few_1024 nA); have NB := Lib.hid (few_1024 nB)
    have hord := fun w => refOrder_any b 1 w NB.out few_one
    have hsh := fun w => refShared_any a b w NA.out NB.out
    rw [zt_one, ← eB] at hord
    rw [← eA, ← eB] at hsh
    have ORD := Lib.hid hord; have SH := Lib.hid hsh
    clear hord hsh eA eB
    have HQ2 := Lib.hid hQ
    clear hQ ha hb fA fB nA nB dA dB HA HBe
    by_cases hI0 : I < 0
    · have hWf : W = false := by
        cases W with
        | false => rfl
        | true => have := HIW.out.2 rfl; omega
      have hQ := HQ2.out
      rw [hWf, if_neg (fun h => Bool.false_ne_true h.1)] at hQ
      have HQf := Lib.hid hQ
      clear hQ hWf
      go_enter Tryz.func33, Tryz.ntmps33
      go_wp2_with fail
      refine (HC.out _).mono ?_
      rintro e w0 ⟨rfl, hb0⟩
      have HB0 := Lib.hid hb0; clear hb0
      go_wp2_with fail
      refine (CA.out _).mono ?_
      rintro e w1 ⟨rfl, rfl⟩
      go_wp2_with fail
      refine (CB.out _).mono ?_
      rintro e w1 ⟨rfl, rfl⟩
      go_wp2_with fail
      refine (CA.out _).mono ?_
      rintro e w1 ⟨rfl, rfl⟩
      go_wp2_with fail
      refine (CB.out _).mono ?_
      rintro e w1 ⟨rfl, rfl⟩
      go_wp2_with fail
      refine (HSl.out _).mono ?_
      rintro e w1 ⟨rfl, rfl⟩
      go_wp2_with fail
      go_ret
      exact ⟨by rw [HQf.out]; rfl, HB0.out⟩
    · have hWt : W = true := HIW.out.1 (by omega)
      have hQ := HQ2.out
      rw [hWt] at hQ
      clear hWt
      by_cases hb1 : b ≤ 1
      · rw [if_pos ⟨rfl, .inl hb1⟩] at hQ
        have HQf := Lib.hid hQ
        have hsg : (b - 1).sign ≤ 0 := by
          rcases Int.lt_or_eq_of_le hb1 with h | h
          · rw [Int.sign_eq_neg_one_of_neg (by omega)]; decide
          · rw [h]; decide
        obtain ⟨sg, hs⟩ : ∃ sg, sg = (b - 1).sign := ⟨_, rfl⟩
        rw [← hs] at hsg
        have SG : Hid ((b - 1).sign = sg) := Lib.hid hs.symm
        clear hs hQ hb1
        have hsg' : ¬ 0 < sg := by omega
        go_enter Tryz.func33, Tryz.ntmps33
        go_wp2_with fail
        refine (HC.out _).mono ?_
        rintro e w0 ⟨rfl, hb0⟩
        have HB0 := Lib.hid hb0; clear hb0
        go_wp2_with fail
        refine (CA.out _).mono ?_
        rintro e w1 ⟨rfl, rfl⟩
        go_wp2_with fail
        refine (CB.out _).mono ?_
        rintro e w1 ⟨rfl, rfl⟩
        go_wp2_with fail
        refine (CA.out _).mono ?_
        rintro e w1 ⟨rfl, rfl⟩
        go_wp2_with fail
        refine (CB.out _).mono ?_
        rintro e w1 ⟨rfl, rfl⟩
        go_wp2_with fail
        refine (HSl.out _).mono ?_
        rintro e w1 ⟨rfl, rfl⟩
        go_wp2_with fail
        refine (ORD.out _).mono ?_
        rintro e w1 ⟨rfl, hb2⟩
        rw [SG.out]
        go_wp2_with fail
        go_ret
        exact ⟨by rw [HQf.out]; rfl, HB0.out.trans (hb2.mono HB0.out.size)⟩
      · have hsg : (b - 1).sign = 1 := Int.sign_eq_one_of_pos (by omega)
        have SG := Lib.hid hsg
        clear hsg
        obtain ⟨g, hg⟩ : ∃ g, g = Int.gcd a b := ⟨_, rfl⟩
        rw [← hg] at SH hQ
        have key : ∃ t : Bool, ((zt (g : Int)).toList == [49]) = t ∧ chkQ s.data.toList = if t then 0 else 3 := by
          by_cases hg1 : g = 1
          · refine ⟨true, by rw [hg1, zt_list, show ((1 : Nat) : Int) = 1 from rfl, zl_one]; rfl, ?_⟩
            rw [hQ, if_neg (fun h => h.2.elim hb1 (fun k => k hg1)), if_pos rfl]
          · refine ⟨false, ?_, ?_⟩
            · rw [zt_list, beq_eq_false_iff_ne]
              intro h
              have h2 := zl_inj (h.trans zl_one.symm)
              omega
            · rw [hQ, if_pos ⟨rfl, .inr hg1⟩, if_neg Bool.false_ne_true]
        obtain ⟨t, ht, hq⟩ := key
        have HQf := Lib.hid hq
        clear hQ hq hb1 hg
        cases t
        all_goals
          go_enter Tryz.func33, Tryz.ntmps33
          go_wp2_with fail
          refine (HC.out _).mono ?_
          rintro e w0 ⟨rfl, hb0⟩
          have HB0 := Lib.hid hb0; clear hb0
          go_wp2_with fail
          refine (CA.out _).mono ?_
          rintro e w1 ⟨rfl, rfl⟩
          go_wp2_with fail
          refine (CB.out _).mono ?_
          rintro e w1 ⟨rfl, rfl⟩
          go_wp2_with fail
          refine (CA.out _).mono ?_
          rintro e w1 ⟨rfl, rfl⟩
          go_wp2_with fail
          refine (CB.out _).mono ?_
          rintro e w1 ⟨rfl, rfl⟩
          go_wp2_with fail
          refine (HSl.out _).mono ?_
          rintro e w1 ⟨rfl, rfl⟩
          go_wp2_with fail
          refine (ORD.out _).mono ?_
          rintro e w1 ⟨rfl, hb2⟩
          rw [SG.out]
          go_wp2_with fail
          refine (SH.out _).mono ?_
          rintro e w1 ⟨rfl, hb3⟩
          go_wp2_with fail
          go_ret
          exact ⟨by rw [HQf.out]; rfl, HB0.out.trans ((hb2.trans (hb3.mono hb2.size)).mono HB0.out.size)⟩
  · have hQ := HQ1.out
    rcases dA with rfl | rfl | rfl <;> rcases dB with rfl | rfl | rfl <;> first | exact absurd ⟨rfl, rfl⟩ h00 | skip
    · clear h00
      simp at hQ
      have HQf := Lib.hid hQ
      clear hQ
      go_enter Tryz.func33, Tryz.ntmps33
      go_wp2_with fail
      refine (HC.out _).mono ?_
      rintro e w0 ⟨rfl, hb0⟩
      have HB0 := Lib.hid hb0; clear hb0
      go_wp2_with fail
      refine (CA.out _).mono ?_
      rintro e w1 ⟨rfl, rfl⟩
      go_wp2_with fail
      refine (CB.out _).mono ?_
      rintro e w1 ⟨rfl, rfl⟩
      go_wp2_with fail
      go_ret
      exact ⟨by rw [HQf.out]; rfl, HB0.out⟩
    · clear h00
      simp at hQ
      have HQf := Lib.hid hQ
      clear hQ
      go_enter Tryz.func33, Tryz.ntmps33
      go_wp2_with fail
      refine (HC.out _).mono ?_
      rintro e w0 ⟨rfl, hb0⟩
      have HB0 := Lib.hid hb0; clear hb0
      go_wp2_with fail
      refine (CA.out _).mono ?_
      rintro e w1 ⟨rfl, rfl⟩
      go_wp2_with fail
      refine (CB.out _).mono ?_
      rintro e w1 ⟨rfl, rfl⟩
      go_wp2_with fail
      refine (CA.out _).mono ?_
      rintro e w1 ⟨rfl, rfl⟩
      go_wp2_with fail
      refine (CB.out _).mono ?_
      rintro e w1 ⟨rfl, rfl⟩
      go_wp2_with fail
      go_ret
      exact ⟨by rw [HQf.out]; rfl, HB0.out⟩
    · clear h00
      simp at hQ
      have HQf := Lib.hid hQ
      clear hQ
      go_enter Tryz.func33, Tryz.ntmps33
      go_wp2_with fail
      refine (HC.out _).mono ?_
      rintro e w0 ⟨rfl, hb0⟩
      have HB0 := Lib.hid hb0; clear hb0
      go_wp2_with fail
      refine (CA.out _).mono ?_
      rintro e w1 ⟨rfl, rfl⟩
      go_wp2_with fail
      go_ret
      exact ⟨by rw [HQf.out]; rfl, HB0.out⟩
    · clear h00
      simp at hQ
      have HQf := Lib.hid hQ
      clear hQ
      go_enter Tryz.func33, Tryz.ntmps33
      go_wp2_with fail
      refine (HC.out _).mono ?_
      rintro e w0 ⟨rfl, hb0⟩
      have HB0 := Lib.hid hb0; clear hb0
      go_wp2_with fail
      refine (CA.out _).mono ?_
      rintro e w1 ⟨rfl, rfl⟩
      go_wp2_with fail
      go_ret
      exact ⟨by rw [HQf.out]; rfl, HB0.out⟩
    · clear h00
      simp at hQ
      have HQf := Lib.hid hQ
      clear hQ
      go_enter Tryz.func33, Tryz.ntmps33
      go_wp2_with fail
      refine (HC.out _).mono ?_
      rintro e w0 ⟨rfl, hb0⟩
      have HB0 := Lib.hid hb0; clear hb0
      go_wp2_with fail
      refine (CA.out _).mono ?_
      rintro e w1 ⟨rfl, rfl⟩
      go_wp2_with fail
      go_ret
      exact ⟨by rw [HQf.out]; rfl, HB0.out⟩
    · clear h00
      simp at hQ
      have HQf := Lib.hid hQ
      clear hQ
      go_enter Tryz.func33, Tryz.ntmps33
      go_wp2_with fail
      refine (HC.out _).mono ?_
      rintro e w0 ⟨rfl, hb0⟩
      have HB0 := Lib.hid hb0; clear hb0
      go_wp2_with fail
      refine (CA.out _).mono ?_
      rintro e w1 ⟨rfl, rfl⟩
      go_wp2_with fail
      refine (CB.out _).mono ?_
      rintro e w1 ⟨rfl, rfl⟩
      go_wp2_with fail
      refine (CA.out _).mono ?_
      rintro e w1 ⟨rfl, rfl⟩
      go_wp2_with fail
      go_ret
      exact ⟨by rw [HQf.out]; rfl, HB0.out⟩
    · clear h00
      simp at hQ
      have HQf := Lib.hid hQ
      clear hQ
      go_enter Tryz.func33, Tryz.ntmps33
      go_wp2_with fail
      refine (HC.out _).mono ?_
      rintro e w0 ⟨rfl, hb0⟩
      have HB0 := Lib.hid hb0; clear hb0
      go_wp2_with fail
      refine (CA.out _).mono ?_
      rintro e w1 ⟨rfl, rfl⟩
      go_wp2_with fail
      refine (CB.out _).mono ?_
      rintro e w1 ⟨rfl, rfl⟩
      go_wp2_with fail
      go_ret
      exact ⟨by rw [HQf.out]; rfl, HB0.out⟩
    · clear h00
      simp at hQ
      have HQf := Lib.hid hQ
      clear hQ
      go_enter Tryz.func33, Tryz.ntmps33
      go_wp2_with fail
      refine (HC.out _).mono ?_
      rintro e w0 ⟨rfl, hb0⟩
      have HB0 := Lib.hid hb0; clear hb0
      go_wp2_with fail
      refine (CA.out _).mono ?_
      rintro e w1 ⟨rfl, rfl⟩
      go_wp2_with fail
      refine (CB.out _).mono ?_
      rintro e w1 ⟨rfl, rfl⟩
      go_wp2_with fail
      refine (CA.out _).mono ?_
      rintro e w1 ⟨rfl, rfl⟩
      go_wp2_with fail
      go_ret
      exact ⟨by rw [HQf.out]; rfl, HB0.out⟩
end Go.Proofs.YtbpegjgpdgeadaaGreatDoor
namespace Go.Proofs.YtbpegjgpdgeadaaGreatDoor
open Go Go.RowKit Metro
open Go.Lib (nDigits decDigits)

/-- An exact quotient. -/
theorem refExact_any (q b : Int) (w : World) (hb0 : b ≠ 0) (ha : Few (q * b)) (hb : Few b) :
    Calls Tryz.prog 188 #[.string (zt (q * b)), .string (zt b)] w fun e w' => e = .returned (.tuple #[.string (zt q), .string (zt 0)]) ∧ Below w.heap.size w w' := by
  have h1 : (q * b).tdiv b = q := Int.mul_tdiv_cancel _ hb0
  have h2 : (q * b).tmod b = 0 := Int.mul_tmod_left ..
  have h := refParted_any (q * b) b w hb0 (.inr (Int.dvd_mul_left ..)) ha hb (by rw [h1]; exact ha)
  unfold PartedAt at h
  rw [h1, h2] at h
  exact h

set_option maxHeartbeats 600000 in
set_option maxRecDepth 100000 in
theorem refLowest_any (n d : Int) (w : World) (hd : d ≠ 0) (h1 : Few n) (h2 : Few d) :
    Calls Tryz.prog 118 #[.string (zt n), .string (zt d)] w fun e w' => e = .returned (.string (qt (Rat.divInt n d))) ∧ Below w.heap.size w w' := by
  have hm := low_mul (n := n) hd
  have hne := lowG_ne (n := n) hd
  obtain ⟨q, hq⟩ : ∃ q, q = Rat.divInt n d := ⟨_, rfl⟩
  obtain ⟨g, hg⟩ : ∃ g, g = lowG n d := ⟨_, rfl⟩
  rw [← hq, ← hg] at hm
  rw [← hg] at hne
  rw [← hq]
  have fg : Few g := by
    refine few_le ?_ h2
    have h3 : Int.gcd n d ≤ d.natAbs := Nat.le_of_dvd (by omega) (Nat.gcd_dvd_right _ _)
    rw [hg]; unfold lowG
    split <;> omega
  have fG : Few (Int.gcd n d : Nat) := by
    refine few_le ?_ h2
    have h3 : Int.gcd n d ≤ d.natAbs := Nat.le_of_dvd (by omega) (Nat.gcd_dvd_right _ _)
    omega
  have P1 := fun w => refExact_any q.num g w hne (by rw [hm.1]; exact h1) fg
  have P2 := fun w => refExact_any (q.den : Int) g w hne (by rw [hm.2]; exact h2) fg
  rw [hm.1] at P1
  rw [hm.2] at P2
  have fn : Few q.num := by rw [hq]; exact few_le (low_num_le hd) h1
  have fd : Few (q.den : Int) := by rw [hq]; exact few_le (low_den_le hd) h2
  have zn := few_zt fn
  have zd := few_zt fd
  have hql := ql_joined q
  have SH := Lib.hid (fun w => refShared_any n d w h1 h2)
  have BE := Lib.hid (fun w => below_any d w)
  have TU := Lib.hid (fun w => turned_any (Int.gcd n d : Nat) w (few_zt fG))
  have HP1 := Lib.hid P1; have HP2 := Lib.hid P2
  have HG := Lib.hid hg
  clear hm hne hq hg fg fG P1 P2 fn fd h1 h2
  have final : ∃ t : Bool, ((zt (q.den : Int)).toList == [49]) = t ∧ qt q = if t then zt q.num else zt q.num ++ ⟨#[47]⟩ ++ zt (q.den : Int) := by
    by_cases h : zl (q.den : Int) = [49]
    · refine ⟨true, by rw [zt_list, h]; rfl, ?_⟩
      rw [if_pos h] at hql
      rw [if_pos rfl]; unfold qt zt; rw [hql]
    · refine ⟨false, by rw [zt_list, beq_eq_false_iff_ne]; exact h, ?_⟩
      rw [if_neg h] at hql
      rw [if_neg Bool.false_ne_true]
      apply ByteArray.ext; apply Array.ext'
      rw [qt_toList, hql, ByteArray.data_append, ByteArray.data_append, Array.toList_append, Array.toList_append, zt_toList, zt_toList]
      simp
  obtain ⟨t, ht, hf⟩ := final
  have HF := Lib.hid hf
  clear hf hql
  by_cases hd0 : d < 0
  · have hD : decide (d < 0) = true := by simpa using hd0
    have hgv : g = -(Int.gcd n d : Nat) := by rw [HG.out]; unfold lowG; rw [if_pos hd0]
    rw [hD] at BE
    rw [← hgv] at TU
    clear hD hgv HG hd0 hd
    cases t
    all_goals
      go_enter Tryz.func118, Tryz.ntmps118
      go_wp2_with fail
      refine (SH.out _).mono ?_
      rintro e w1 ⟨rfl, hb1⟩
      have HB1 := Lib.hid hb1; clear hb1
      go_wp2_with fail
      refine (BE.out _).mono ?_
      rintro e w2 ⟨rfl, rfl⟩
      go_wp2_with fail
      refine (TU.out _).mono ?_
      rintro e w2 ⟨rfl, rfl⟩
      go_wp2_with fail
      refine (HP1.out _).mono ?_
      rintro e w2 ⟨rfl, hb2⟩
      have HB2 := Lib.hid (HB1.out.trans (hb2.mono HB1.out.size)); clear hb2
      go_wp2_with fail
      refine (HP2.out _).mono ?_
      rintro e w3 ⟨rfl, hb3⟩
      have HB3 := Lib.hid (HB2.out.trans (hb3.mono HB2.out.size)); clear hb3
      go_wp2_with fail
      go_ret
      exact ⟨by rw [HF.out]; rfl, HB3.out⟩
  · have hD : decide (d < 0) = false := by simpa using hd0
    have hgv : g = (Int.gcd n d : Nat) := by rw [HG.out]; unfold lowG; rw [if_neg hd0]
    rw [hD] at BE
    rw [hgv] at HP1 HP2
    clear hD hgv HG hd0 hd TU
    cases t
    all_goals
      go_enter Tryz.func118, Tryz.ntmps118
      go_wp2_with fail
      refine (SH.out _).mono ?_
      rintro e w1 ⟨rfl, hb1⟩
      have HB1 := Lib.hid hb1; clear hb1
      go_wp2_with fail
      refine (BE.out _).mono ?_
      rintro e w2 ⟨rfl, rfl⟩
      go_wp2_with fail
      refine (HP1.out _).mono ?_
      rintro e w2 ⟨rfl, hb2⟩
      have HB2 := Lib.hid (HB1.out.trans (hb2.mono HB1.out.size)); clear hb2
      go_wp2_with fail
      refine (HP2.out _).mono ?_
      rintro e w3 ⟨rfl, hb3⟩
      have HB3 := Lib.hid (HB2.out.trans (hb3.mono HB2.out.size)); clear hb3
      go_wp2_with fail
      go_ret
      exact ⟨by rw [HF.out]; rfl, HB3.out⟩
end Go.Proofs.YtbpegjgpdgeadaaGreatDoor
namespace Go.Proofs.YtbpegjgpdgeadaaGreatDoor
open Go Go.RowKit Metro
open Go.Lib (nDigits decDigits)

/-- Five texts lie in block g. -/
def Five (w : World) (g : Nat) (a b c d e : ByteArray) : Prop := w.heap[g]? = some (.cells #[.string a, .string b, .string c, .string d, .string e] 148 (0, 0))
section
variable {w : World} {g : Nat} {a b c d e : ByteArray}
theorem Five.lt (h : Five w g a b c d e) : g < w.heap.size := (Array.getElem?_eq_some_iff.1 h).1
theorem Five.c0 (h : Five w g a b c d e) : w.cell? ⟨g, 0, none⟩ = some (.string a) := by rw [Lib.cell_of_heap h]; rfl
theorem Five.c1 (h : Five w g a b c d e) : w.cell? ⟨g, 1, none⟩ = some (.string b) := by rw [Lib.cell_of_heap h]; rfl
theorem Five.c2 (h : Five w g a b c d e) : w.cell? ⟨g, 2, none⟩ = some (.string c) := by rw [Lib.cell_of_heap h]; rfl
theorem Five.c3 (h : Five w g a b c d e) : w.cell? ⟨g, 3, none⟩ = some (.string d) := by rw [Lib.cell_of_heap h]; rfl
theorem Five.c4 (h : Five w g a b c d e) : w.cell? ⟨g, 4, none⟩ = some (.string e) := by rw [Lib.cell_of_heap h]; rfl
theorem Five.below {B : Nat} {w' : World} (h : Five w g a b c d e) (hb : Below B w w') (hB : g < B) : Five w' g a b c d e := by
  unfold Five; rw [hb.block g hB]; exact h
theorem Five.drew (h : Five w g a b c d e) : Five w.drew g a b c d e := h
end

theorem dig_few {z : Int} {k : Nat} (h : nDigits z.natAbs ≤ k) (hk : k ≤ 9000) : Few z := Nat.le_trans h hk

/-- What crossed gives. -/
def CrossedAt (a b : Rat) (w : World) (e : Ending) (w' : World) : Prop :=
  ∃ g, e = .returned (.slice (some ⟨g, 0, none⟩) 5 5) ∧ w.heap.size ≤ g ∧ Five w' g (zt (a.num * b.den)) (zt (b.num * a.den)) (zt (a.den * b.den)) (zt (a.num * b.num)) (zt (a.den * b.num)) ∧ Below w.heap.size w w'

set_option maxHeartbeats 600000 in
set_option maxRecDepth 100000 in
theorem crossed_any (a b : Rat) (w : World) (ha : Dig 4000 a) (hb : Dig 4000 b) :
    Calls Tryz.prog 117 #[.string (qt a), .string (qt b)] w fun e w' => CrossedAt a b w e w' := by
  have fa : Few a.num := dig_few ha.1 (by decide)
  have fb : Few b.num := dig_few hb.1 (by decide)
  have ga : Few (a.den : Int) := dig_few ha.den (by decide)
  have gb : Few (b.den : Int) := dig_few hb.den (by decide)
  have SA := Lib.hid (fun w => split_any a w ⟨fa, ga⟩)
  have SB := Lib.hid (fun w => split_any b w ⟨fb, gb⟩)
  have T1 := Lib.hid (fun w => refTimes_any a.num (b.den : Int) w fa gb)
  have T2 := Lib.hid (fun w => refTimes_any b.num (a.den : Int) w fb ga)
  have T3 := Lib.hid (fun w => refTimes_any (a.den : Int) (b.den : Int) w ga gb)
  have T4 := Lib.hid (fun w => refTimes_any a.num b.num w fa fb)
  have T5 := Lib.hid (fun w => refTimes_any (a.den : Int) b.num w ga fb)
  clear fa fb ga gb ha hb
  unfold CrossedAt
  go_enter Tryz.func117, Tryz.ntmps117
  go_wp2_with fail
  refine (SA.out _).mono ?_
  rintro e w0 ⟨rfl, hb⟩
  have HBa := Lib.hid hb; clear hb
  go_wp2_with fail
  refine (SB.out _).mono ?_
  rintro e w1 ⟨rfl, hb⟩
  have HBb := Lib.hid (HBa.out.trans (hb.mono HBa.out.size)); clear hb
  go_wp2_with fail
  refine (T1.out _).mono ?_
  rintro e w2 ⟨rfl, hb⟩
  have HB := Lib.hid (HBb.out.trans (hb.mono HBb.out.size)); clear hb
  go_wp2_with fail
  refine (T2.out _).mono ?_
  rintro e w3 ⟨rfl, hb⟩
  have HB3 := Lib.hid (HB.out.trans (hb.mono HB.out.size)); clear hb
  go_wp2_with fail
  refine (T3.out _).mono ?_
  rintro e w4 ⟨rfl, hb⟩
  have HB4 := Lib.hid (HB3.out.trans (hb.mono HB3.out.size)); clear hb
  go_wp2_with fail
  refine (T4.out _).mono ?_
  rintro e w5 ⟨rfl, hb⟩
  have HB5 := Lib.hid (HB4.out.trans (hb.mono HB4.out.size)); clear hb
  go_wp2_with fail
  refine (T5.out _).mono ?_
  rintro e w6 ⟨rfl, hb⟩
  have HB6 := Lib.hid (HB5.out.trans (hb.mono HB5.out.size)); clear hb
  go_wp2_with fail
  go_ret
  exact ⟨w6.heap.size, rfl, HB6.out.size, heap_alloc_new w6 _, HB6.out.alloc HB6.out.size _⟩

set_option maxHeartbeats 600000 in
set_option maxRecDepth 100000 in
theorem refQPlus_any (a b : Rat) (w : World) (ha : Dig 4000 a) (hb : Dig 4000 b) :
    Calls Tryz.prog 37 #[.string (qt a), .string (qt b)] w fun e w' => e = .returned (.string (qt (a + b))) ∧ Below w.heap.size w w' := by
  have d1 : nDigits (a.num * b.den).natAbs ≤ 8000 := dig_mul ha.1 hb.den (by decide)
  have d2 : nDigits (b.num * a.den).natAbs ≤ 8000 := dig_mul hb.1 ha.den (by decide)
  have d3 : nDigits ((a.den : Int) * b.den).natAbs ≤ 8000 := dig_mul ha.den hb.den (by decide)
  have d4 : nDigits (a.num * b.den + b.num * a.den).natAbs ≤ 9000 := dig_add d1 d2 (by decide)
  have PL := Lib.hid (fun w => refPlus_any (a.num * b.den) (b.num * a.den) w (dig_few d1 (by decide)) (dig_few d2 (by decide)))
  have LO := fun w => refLowest_any (a.num * b.den + b.num * a.den) ((a.den : Int) * b.den) w (denP a b) d4 (dig_few d3 (by decide))
  rw [← add_parts] at LO
  have HLO := Lib.hid LO
  have CR := Lib.hid (fun w => crossed_any a b w ha hb)
  clear LO d1 d2 d3 d4 ha hb
  go_enter Tryz.func37, Tryz.ntmps37
  go_wp2_with fail
  refine (CR.out _).mono ?_
  rintro e w1 ⟨g, rfl, hg, h5, hb1⟩
  have HB1 := Lib.hid hb1; have H5 := Lib.hid h5; have HG := Lib.hid hg
  clear hb1 h5 hg
  have d0 := H5.out.c0; have d1 := H5.out.c1; have d2 := H5.out.c2
  go_wp2_with fail
  go_region_held3 (fun w' => w'.cell? ⟨g, 0, none⟩ = some (.string (zt (a.num * b.den))) ∧ w'.cell? ⟨g, 1, none⟩ = some (.string (zt (b.num * a.den))) ∧ w'.cell? ⟨g, 2, none⟩ = some (.string (zt (a.den * b.den))))
    (first | go_keep | exact ⟨d0, d1, d2⟩ | exact ⟨e0, e1, e2⟩ | exact ⟨f0, f1, f2⟩)
    (first
      | (go_at_call 119; refine (PL.out _).mono ?_; rintro e w2 ⟨rfl, hb2⟩; have HB2 := Lib.hid (HB1.out.drew.trans (hb2.mono HB1.out.drew.size)); have H52 := Lib.hid (H5.out.drew.below hb2 H5.out.lt); have e0 := H52.out.c0; have e1 := H52.out.c1; have e2 := H52.out.c2; clear hb2)
      | (go_at_call 118; refine (HLO.out _).mono ?_; rintro e w3 ⟨rfl, hb3⟩; have HB3 := Lib.hid (HB2.out.trans (hb3.mono HB2.out.size)); have H53 := Lib.hid (H52.out.below hb3 H52.out.lt); have f0 := H53.out.c0; have f1 := H53.out.c1; have f2 := H53.out.c2; clear hb3))
  all_goals
    go_wp2_with fail
    go_ret
    exact ⟨rfl, HB3.out⟩
end Go.Proofs.YtbpegjgpdgeadaaGreatDoor
namespace Go.Proofs.YtbpegjgpdgeadaaGreatDoor
open Go Go.RowKit Metro
open Go.Lib (nDigits decDigits)

set_option maxHeartbeats 600000 in
set_option maxRecDepth 100000 in
theorem refQMinus_any (a b : Rat) (w : World) (ha : Dig 4000 a) (hb : Dig 4000 b) :
    Calls Tryz.prog 120 #[.string (qt a), .string (qt b)] w fun e w' => e = .returned (.string (qt (a - b))) ∧ Below w.heap.size w w' := by
  have d1 : nDigits (a.num * b.den).natAbs ≤ 8000 := dig_mul ha.1 hb.den (by decide)
  have d2 : nDigits (b.num * a.den).natAbs ≤ 8000 := dig_mul hb.1 ha.den (by decide)
  have d3 : nDigits ((a.den : Int) * b.den).natAbs ≤ 8000 := dig_mul ha.den hb.den (by decide)
  have d4 : nDigits (a.num * b.den - b.num * a.den).natAbs ≤ 9000 := by rw [Int.sub_eq_add_neg]; exact dig_add d1 (by rw [Int.natAbs_neg]; exact d2) (by decide)
  have PL := Lib.hid (fun w => refMinus_any (a.num * b.den) (b.num * a.den) w (dig_few d1 (by decide)) (dig_few d2 (by decide)))
  have LO := fun w => refLowest_any (a.num * b.den - b.num * a.den) ((a.den : Int) * b.den) w (denP a b) d4 (dig_few d3 (by decide))
  rw [← sub_parts] at LO
  have HLO := Lib.hid LO
  have CR := Lib.hid (fun w => crossed_any a b w ha hb)
  clear LO d1 d2 d3 d4 ha hb
  go_enter Tryz.func120, Tryz.ntmps120
  go_wp2_with fail
  refine (CR.out _).mono ?_
  rintro e w1 ⟨g, rfl, hg, h5, hb1⟩
  have HB1 := Lib.hid hb1; have H5 := Lib.hid h5; have HG := Lib.hid hg
  clear hb1 h5 hg
  have d0 := H5.out.c0; have d1 := H5.out.c1; have d2 := H5.out.c2
  go_wp2_with fail
  go_region_held3 (fun w' => w'.cell? ⟨g, 0, none⟩ = some (.string (zt (a.num * b.den))) ∧ w'.cell? ⟨g, 1, none⟩ = some (.string (zt (b.num * a.den))) ∧ w'.cell? ⟨g, 2, none⟩ = some (.string (zt (a.den * b.den))))
    (first | go_keep | exact ⟨d0, d1, d2⟩ | exact ⟨e0, e1, e2⟩ | exact ⟨f0, f1, f2⟩)
    (first
      | (go_at_call 184; refine (PL.out _).mono ?_; rintro e w2 ⟨rfl, hb2⟩; have HB2 := Lib.hid (HB1.out.drew.trans (hb2.mono HB1.out.drew.size)); have H52 := Lib.hid (H5.out.drew.below hb2 H5.out.lt); have e0 := H52.out.c0; have e1 := H52.out.c1; have e2 := H52.out.c2; clear hb2)
      | (go_at_call 118; refine (HLO.out _).mono ?_; rintro e w3 ⟨rfl, hb3⟩; have HB3 := Lib.hid (HB2.out.trans (hb3.mono HB2.out.size)); have H53 := Lib.hid (H52.out.below hb3 H52.out.lt); have f0 := H53.out.c0; have f1 := H53.out.c1; have f2 := H53.out.c2; clear hb3))
  all_goals
    go_wp2_with fail
    go_ret
    exact ⟨rfl, HB3.out⟩
set_option maxHeartbeats 600000 in
set_option maxRecDepth 100000 in
theorem refQTimes_any (a b : Rat) (w : World) (ha : Dig 4000 a) (hb : Dig 4000 b) :
    Calls Tryz.prog 38 #[.string (qt a), .string (qt b)] w fun e w' => e = .returned (.string (qt (a * b))) ∧ Below w.heap.size w w' := by
  have d3 : nDigits ((a.den : Int) * b.den).natAbs ≤ 8000 := dig_mul ha.den hb.den (by decide)
  have d4 : nDigits (a.num * b.num).natAbs ≤ 8000 := dig_mul ha.1 hb.1 (by decide)
  have LO := fun w => refLowest_any (a.num * b.num) ((a.den : Int) * b.den) w (denP a b) (dig_few d4 (by decide)) (dig_few d3 (by decide))
  rw [← mul_parts] at LO
  have HLO := Lib.hid LO
  have CR := Lib.hid (fun w => crossed_any a b w ha hb)
  clear LO d3 d4 ha hb
  go_enter Tryz.func38, Tryz.ntmps38
  go_wp2_with fail
  refine (CR.out _).mono ?_
  rintro e w1 ⟨g, rfl, hg, h5, hb1⟩
  have HB1 := Lib.hid hb1; have H5 := Lib.hid h5; have HG := Lib.hid hg
  clear hb1 h5 hg
  have d2 := H5.out.c2; have d3 := H5.out.c3
  go_wp2_with fail
  go_region_held3 (fun w' => w'.cell? ⟨g, 2, none⟩ = some (.string (zt (a.den * b.den))) ∧ w'.cell? ⟨g, 3, none⟩ = some (.string (zt (a.num * b.num))))
    (first | go_keep | exact ⟨d2, d3⟩ | exact ⟨f2, f3⟩)
    (first
      | (go_at_call 118; refine (HLO.out _).mono ?_; rintro e w3 ⟨rfl, hb3⟩; have HB3 := Lib.hid (HB1.out.drew.trans (hb3.mono HB1.out.drew.size)); have H53 := Lib.hid (H5.out.drew.below hb3 H5.out.lt); have f2 := H53.out.c2; have f3 := H53.out.c3; clear hb3))
  all_goals
    go_wp2_with fail
    go_ret
    exact ⟨rfl, HB3.out⟩

set_option maxHeartbeats 600000 in
set_option maxRecDepth 100000 in
theorem refQBy_any (a b : Rat) (w : World) (ha : Dig 4000 a) (hb : Dig 4000 b) (h0 : b ≠ 0) :
    Calls Tryz.prog 194 #[.string (qt a), .string (qt b)] w fun e w' => e = .returned (.string (qt (a / b))) ∧ Below w.heap.size w w' := by
  have d3 : nDigits ((a.den : Int) * b.num).natAbs ≤ 8000 := dig_mul ha.den hb.1 (by decide)
  have d4 : nDigits (a.num * b.den).natAbs ≤ 8000 := dig_mul ha.1 hb.den (by decide)
  have LO := fun w => refLowest_any (a.num * b.den) ((a.den : Int) * b.num) w (Int.mul_ne_zero (den_ne a) (num_ne h0)) (dig_few d4 (by decide)) (dig_few d3 (by decide))
  rw [← div_parts h0] at LO
  have HLO := Lib.hid LO
  have CR := Lib.hid (fun w => crossed_any a b w ha hb)
  clear LO d3 d4 ha hb h0
  go_enter Tryz.func194, Tryz.ntmps194
  go_wp2_with fail
  refine (CR.out _).mono ?_
  rintro e w1 ⟨g, rfl, hg, h5, hb1⟩
  have HB1 := Lib.hid hb1; have H5 := Lib.hid h5; have HG := Lib.hid hg
  clear hb1 h5 hg
  have d2 := H5.out.c0; have d3 := H5.out.c4
  go_wp2_with fail
  go_region_held3 (fun w' => w'.cell? ⟨g, 0, none⟩ = some (.string (zt (a.num * b.den))) ∧ w'.cell? ⟨g, 4, none⟩ = some (.string (zt (a.den * b.num))))
    (first | go_keep | exact ⟨d2, d3⟩ | exact ⟨f2, f3⟩)
    (first
      | (go_at_call 118; refine (HLO.out _).mono ?_; rintro e w3 ⟨rfl, hb3⟩; have HB3 := Lib.hid (HB1.out.drew.trans (hb3.mono HB1.out.drew.size)); have H53 := Lib.hid (H5.out.drew.below hb3 H5.out.lt); have f2 := H53.out.c0; have f3 := H53.out.c4; clear hb3))
  all_goals
    go_wp2_with fail
    go_ret
    exact ⟨rfl, HB3.out⟩

set_option maxHeartbeats 600000 in
theorem refQLess_any (a b : Rat) (w : World) (ha : Dig 4000 a) (hb : Dig 4000 b) :
    Calls Tryz.prog 39 #[.string (qt a), .string (qt b)] w fun e w' => e = .returned (.string (qt (a - b))) ∧ Below w.heap.size w w' := by
  have C := Lib.hid (fun w => refQMinus_any a b w ha hb)
  clear ha hb
  go_enter Tryz.func39, Tryz.ntmps39
  go_wp2_with fail
  refine (C.out _).mono ?_
  rintro e w1 ⟨rfl, hb1⟩
  go_wp2_with fail
  go_ret
  exact ⟨rfl, hb1⟩

theorem qt_zero48 : qt 0 = ⟨#[48]⟩ := by unfold qt; rw [ql_zero]
theorem dig_zero (k : Nat) (hk : 1 ≤ k) : Dig k 0 := ⟨Nat.le_trans ((Metro.nDigits_le (k := 1) (by decide)).2 (by decide)) hk, Nat.le_trans ((Metro.nDigits_le (k := 1) (by decide)).2 (by decide)) hk⟩

set_option maxHeartbeats 600000 in
theorem refQTurned_any (a : Rat) (w : World) (ha : Dig 4000 a) :
    Calls Tryz.prog 178 #[.string (qt a)] w fun e w' => e = .returned (.string (qt (-a))) ∧ Below w.heap.size w w' := by
  have h := fun w => refQMinus_any 0 a w (dig_zero _ (by decide)) ha
  rw [qt_zero48, show (0 : Rat) - a = -a from by grind] at h
  have C := Lib.hid h
  clear ha h
  go_enter Tryz.func178, Tryz.ntmps178
  go_wp2_with fail
  refine (C.out _).mono ?_
  rintro e w1 ⟨rfl, hb1⟩
  go_wp2_with fail
  go_ret
  exact ⟨rfl, hb1⟩

theorem qt_int (n : Int) : qt (n : Rat) = zt n := by unfold qt zt ql; rw [if_pos (Rat.den_intCast ..), Rat.num_intCast]

set_option maxHeartbeats 600000 in
theorem refQWhole_any (n : Int) (w : World) (h0 : -9223372036854775808 < n) (h1 : n < 9223372036854775808) :
    Calls Tryz.prog 34 #[.int .i64 n] w fun e w' => e = .returned (.string (qt (n : Rat))) ∧ Below w.heap.size w w' := by
  rw [qt_int]
  have C := Lib.hid (fun w => refOf_any n w h0 h1)
  clear h0 h1
  go_enter Tryz.func34, Tryz.ntmps34
  go_wp2_with fail
  refine (C.out _).mono ?_
  rintro e w1 ⟨rfl, hb1⟩
  go_wp2_with fail
  go_ret
  exact ⟨rfl, hb1⟩
end Go.Proofs.YtbpegjgpdgeadaaGreatDoor
