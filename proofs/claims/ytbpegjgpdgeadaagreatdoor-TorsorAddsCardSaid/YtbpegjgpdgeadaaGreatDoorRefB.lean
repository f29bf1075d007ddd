/- A part of the proof: RefB. Conditions: none. -/
import Derived.Test.YtbpegjgpdgeadaaGreatDoorRefA
import Derived.Test.YtbpegjgpdgeadaaGreatDoorPaperTor
namespace Go.Proofs.YtbpegjgpdgeadaaGreatDoor
open Go Go.RowKit Metro
open Go.Lib (nDigits decDigits)

/-- L ints lie in block g. -/
def IntsAt (w : World) (g : Nat) (C : Nat → Int) (L : Nat) : Prop := w.heap[g]? = some (.cells ((List.range L).map fun i => Value.int .i64 (C i)).toArray 3 (0, 0))
theorem IntsAt.lt {w : World} {g : Nat} {C : Nat → Int} {L : Nat} (h : IntsAt w g C L) : g < w.heap.size := (Array.getElem?_eq_some_iff.1 h).1
theorem IntsAt.cell {w : World} {g : Nat} {C : Nat → Int} {L : Nat} (h : IntsAt w g C L) {i : Nat} (hi : i < L) : w.cell? ⟨g, i, none⟩ = some (.int .i64 (C i)) := by
  rw [Lib.cell_of_heap h]
  simp [hi]
theorem IntsAt.free {w : World} {g : Nat} {C : Nat → Int} {L : Nat} (h : IntsAt w g C L) (i : Nat) : w.frozen? ⟨g, i, none⟩ = false := Lib.frozen_of_heap h i
theorem IntsAt.below {B : Nat} {w w' : World} {g : Nat} {C : Nat → Int} {L : Nat} (h : IntsAt w g C L) (hb : Below B w w') (hB : g < B) : IntsAt w' g C L := by
  unfold IntsAt; rw [hb.block g hB]; exact h
theorem IntsAt.other {w : World} {g : Nat} {C : Nat → Int} {L : Nat} (h : IntsAt w g C L) {a : Addr} (ha : a.block ≠ g) (v : Value) : IntsAt (w.setCell a v) g C L := by
  unfold IntsAt; rw [Below.heap_setCell _ _ _ _ (Ne.symm ha)]; exact h
theorem IntsAt.set {w : World} {g : Nat} {C : Nat → Int} {L : Nat} (h : IntsAt w g C L) (i : Nat) (v : Int) : IntsAt (w.setCell ⟨g, i, none⟩ (.int .i64 v)) g (upd C i v) L := by
  unfold IntsAt World.setCell
  simp only [Array.getElem?_modify, if_true]
  rw [show w.heap[g]? = _ from h]
  simp only [Option.map_some]
  congr 2
  apply Array.ext'
  simp only [Option.isSome_none, Bool.false_eq_true, if_false, Array.toList_setIfInBounds]
  apply List.ext_getElem
  · simp
  · intro j h1 h2
    rw [List.getElem_set]
    by_cases e : i = j
    · subst e; simp [upd]
    · simp [e, upd, Ne.symm e]

theorem info3 : (Tryz.prog.info? 3).map (fun i => (i.zero, i.size, i.bytes)) = some (some (.int .i64 0), 1, 8) := by kernel_rfl

theorem intsAt_made {w' : World} {base g n : Nat} (h : w'.ownsRow base 3 1 (.slice (some ⟨g, 0, none⟩) n n) n (madeCells #[Value.int .i64 0] n).toList) : IntsAt w' g (fun _ => 0) n := by
  rcases h.2 with ⟨hv, _⟩ | ⟨g', cap, cur, hv, _, hg, _, _, hs, ht⟩
  · cases hv
  · cases hv
    unfold IntsAt
    rw [hg]
    congr 2
    apply Array.ext'
    have e : cur.toList = cur.toList.take (n * 1) := by rw [List.take_of_length_le]; simp [hs]
    rw [e, ht]
    simp [madeCells, Nat.mod_one]

set_option maxHeartbeats 4000000 in
set_option maxRecDepth 100000 in
theorem product_any (a b : Nat) (w : World) (ha : (zt (a : Int)).size ≤ 10000) (hb : (zt (b : Int)).size ≤ 10000) :
    Calls Tryz.prog 221 #[.string (zt (a : Int)), .string (zt (b : Int))] w fun e w' => e = .returned (.string (zt ((a * b : Nat) : Int))) ∧ Below w.heap.size w w' := by
  obtain ⟨i0, hi, hz0, hz1, hz2⟩ := info_parts info5
  obtain ⟨i3, hi3, hy0, hy1, hy2⟩ := info_parts info3
  obtain ⟨A, hA⟩ : ∃ A, A = zt (a : Int) := ⟨_, rfl⟩
  obtain ⟨B, hB⟩ : ∃ B, B = zt (b : Int) := ⟨_, rfl⟩
  rw [← hA] at ha ⊢
  rw [← hB] at hb ⊢
  have dA : AllDig A.data.toList := by rw [hA, zt_toList, zl_ofNat]; exact allDig_decDigits _
  have dB : AllDig B.data.toList := by rw [hB, zt_toList, zl_ofNat]; exact allDig_decDigits _
  have vA : dval A.data.toList = a := by rw [hA, zt_toList, zl_ofNat, dval_decDigits]
  have vB : dval B.data.toList = b := by rw [hB, zt_toList, zl_ofNat, dval_decDigits]
  have lA : A.data.toList.length = A.size := by rw [← Lib.size_eq]
  have lB : B.data.toList.length = B.size := by rw [← Lib.size_eq]
  have pA : 0 < A.size := by rw [hA]; exact zt_pos _
  have pB : 0 < B.size := by rw [hB]; exact zt_pos _
  have DA := Lib.hid dA; have DB := Lib.hid dB; have VA := Lib.hid vA; have VB := Lib.hid vB; have LA := Lib.hid lA; have LB := Lib.hid lB
  clear dA dB vA vB lA lB hA hB
  obtain ⟨L, hL⟩ : ∃ L, L = A.size + B.size := ⟨_, rfl⟩
  have hL' : (A.size : Int) + B.size = L := by omega
  have HLe := Lib.hid hL
  have hL1 : L ≤ 20000 := by omega
  clear hL
  go_enter Tryz.func221, Tryz.ntmps221
  go_wp2_with (at_make; refine wpList_make_full _ rfl _ _ 67 rfl w.heap.size 3 i3 (.int .i64 0) 1 Tryz.underlying67 hi3 hy0 hy1 _ _ _ _ L rfl rfl rfl rfl ?b2 ?b3 (Nat.le_refl _) ?_)
  case b2 => rw [hy2]; omega
  case b3 => unfold maxLen; omega
  intro w1 hown hgr
  have hrow := intsAt_made hown
  have HR1 := Lib.hid hrow
  have HB1 := Lib.hid (Below.grown (Below.refl w.heap.size w) hgr (Nat.le_refl _) (fun k hk => by cases hk))
  clear hrow hown hgr
  go_wp2_with fail
  obtain ⟨G, hG⟩ : ∃ G, G = w.heap.size := ⟨_, rfl⟩
  rw [← hG] at HR1 ⊢
  have HGe := Lib.hid hG
  have hgw : G < w1.heap.size := HR1.out.lt
  clear hG
  have HLL : Hid (A.data.toList.length + B.data.toList.length = L) := Lib.hid (by rw [LA.out, LB.out, HLe.out])
  go_loopg [6, 7] A.size (fun d x y wr => ∃ (i : Nat) (C : Nat → Int), x = .int .i64 i ∧ i ≤ A.size ∧ d = A.size - i ∧ Cols A.data.toList B.data.toList C i 0 ∧ IntsAt wr G C L ∧ Below w.heap.size w wr)
  case atStart => exact ⟨0, _, rfl, Nat.zero_le _, rfl, Cols.start _ _, HR1.out, HB1.out⟩
  case round =>
    obtain ⟨i, C, rfl, hi', rfl, hc, hr, hb⟩ := hrel
    have HC := Lib.hid hc; have HB := Lib.hid hb; have HR := Lib.hid hr
    clear hc hb hr
    by_cases hlt : i < A.size
    · go_wp2_with fail
      go_loopg [7] B.size (fun d x wr => ∃ (k : Nat) (C : Nat → Int), x = .int .i64 k ∧ k ≤ B.size ∧ d = B.size - k ∧ Cols A.data.toList B.data.toList C i k ∧ IntsAt wr G C L ∧ Below w.heap.size w wr)
      case atStart => exact ⟨0, C, rfl, Nat.zero_le _, rfl, HC.out, HR.out, HB.out⟩
      case round =>
        obtain ⟨k, C2, rfl, hk', rfl, hc, hr, hb⟩ := hrel
        by_cases hlk : k < B.size
        · have gA : A.data.toList[i]'(by rw [LA.out]; exact hlt) = A[i]'hlt := by simp [ByteArray.getElem_eq_getElem_data]
          have gB : B.data.toList[k]'(by rw [LB.out]; exact hlk) = B[k]'hlk := by simp [ByteArray.getElem_eq_getElem_data]
          have qA := isDig_iff.1 (DA.out _ (List.getElem_mem (by rw [LA.out]; exact hlt : i < A.data.toList.length)))
          have qB := isDig_iff.1 (DB.out _ (List.getElem_mem (by rw [LB.out]; exact hlk : k < B.data.toList.length)))
          rw [gA] at qA
          rw [gB] at qB
          have hcell := hr.cell (i := i + k + 1) (by have := HLe.out; omega)
          have hfree := hr.free (i + k + 1)
          have hst := hc.cell (by rw [LA.out]; exact hlt) (by rw [LB.out]; exact hlk) (by rw [gA]; unfold dv; omega) (by rw [gB]; unfold dv; omega)
          rw [gA, gB] at hst
          have hlo := hc.lo (i + k + 1)
          have hhi := hc.hi (i + k + 1)
          obtain ⟨X, hX⟩ : ∃ X : Nat, X = dv (A[i]'hlt) := ⟨_, rfl⟩
          obtain ⟨Y, hY⟩ : ∃ Y : Nat, Y = dv (B[k]'hlk) := ⟨_, rfl⟩
          obtain ⟨V, hV⟩ : ∃ V : Int, V = C2 (i + k + 1) := ⟨_, rfl⟩
          have hX9 : X < 10 := by rw [hX]; unfold dv; omega
          have hY9 : Y < 10 := by rw [hY]; unfold dv; omega
          have xA : ((A[i]'hlt).toNat : Int) = 48 + (X : Int) := by rw [hX]; unfold dv; omega
          have xB : ((B[k]'hlk).toNat : Int) = 48 + (Y : Int) := by rw [hY]; unfold dv; omega
          have u1 := u8_sub48 hX9
          have u2 := u8_sub48 hY9
          rw [← xA] at u1
          rw [← xB] at u2
          rw [← hX, ← hY, ← hV] at hst
          rw [← hV] at hcell hlo hhi
          have hxy : X * Y ≤ 9 * 9 := Nat.mul_le_mul (by omega) (by omega)
          have p1 : (0 : Int) ≤ (X : Int) * Y := Int.mul_nonneg (by omega) (by omega)
          have p2 : (X : Int) * Y ≤ 81 := by exact_mod_cast hxy
          have w1' : IntKind.i64.wrap ((X : Int) * Y) = (X : Int) * Y := by rw [IntKind.wrap_i64]; omega
          have w2' : IntKind.i64.wrap (V + (X : Int) * Y) = V + (X : Int) * Y := by rw [IntKind.wrap_i64]; omega
          have w3' : IntKind.i64.wrap ((i : Int) + k) = (i : Int) + k := by rw [IntKind.wrap_i64]; omega
          have w4' : IntKind.i64.wrap ((i : Int) + k + 1) = (i : Int) + k + 1 := by rw [IntKind.wrap_i64]; omega
          have b1 : (0 : Int) ≤ (i : Int) + k + 1 := by omega
          have b2 : (i : Int) + k + 1 < L := by have := HLe.out; omega
          have b3 : ((i : Int) + k + 1).toNat = i + k + 1 := by omega
          have HST := Lib.hid hst; have HR2 := Lib.hid hr; have HB2 := Lib.hid hb
          clear hst hr hb hc hX hY hV xA xB gA gB qA qB hxy
          go_wp2_with fail
          go_region
          go_wp2_with fail
          go_roundg (B.size - (k + 1))
          case measure => omega
          case rel => exact ⟨k + 1, _, rfl, by omega, rfl, HST.out, (HR2.out.set (i + k + 1) _), (HB2.out.setCell (p := ⟨G, i + k + 1, none⟩) (Nat.le_of_eq HGe.out.symm) _).drew⟩
        · have hkk : k = B.size := by omega
          have hcn := hc
          rw [hkk, ← LB.out] at hcn
          have HN := Lib.hid (hcn.next (by rw [LA.out]; exact hlt))
          have HR2 := Lib.hid hr; have HB2 := Lib.hid hb
          clear hr hb hc hcn
          go_wp2_with fail
          go_roundg (A.size - (i + 1))
          case measure => omega
          case rel => exact ⟨i + 1, C2, by go_num, by omega, rfl, HN.out, HR2.out, HB2.out⟩
    · have hii : i = A.size := by omega
      have hcd := HC.out
      rw [hii, ← LA.out] at hcd
      have hval := hcd.done
      rw [HLL.out, VA.out, VB.out] at hval
      have HV := Lib.hid hval
      have hlo := HC.out.lo
      have hhi := HC.out.hi
      have HLo := Lib.hid hlo; have HHi := Lib.hid hhi
      clear hcd hval hlo hhi
      have hgwr := HR.out.lt
      go_wp2_with (at_make; refine wpList_make_full _ rfl _ _ 220 rfl wr.heap.size 5 i0 (.int .u8 0) 1 Tryz.underlying220 hi hz0 hz1 _ _ _ _ L rfl rfl rfl rfl ?c2 ?c3 (Nat.le_refl _) ?_)
      case c2 => rw [hz2]; omega
      case c3 => unfold maxLen; omega
      intro w3 hown hgr
      have hrow := rowAt_made hown
      have hb3 := Below.grown (Below.refl wr.heap.size wr) hgr (Nat.le_refl _) (fun k hk => by cases hk)
      have HR3 := Lib.hid hrow
      have HI3 := Lib.hid (HR.out.below hb3 hgwr)
      have HB3 := Lib.hid (HB.out.trans (hb3.mono HB.out.size))
      clear hrow hown hgr hb3
      go_wp2_with fail
      obtain ⟨H, hH⟩ : ∃ H, H = wr.heap.size := ⟨_, rfl⟩
      rw [← hH] at HR3 ⊢
      have hHG : H ≠ G := by omega
      have hHw : w.heap.size ≤ H := by rw [hH]; exact HB.out.size
      clear hH
      go_loopg [9, 10] L (fun d c x wr => ∃ (N : Int) (l : List UInt8), x = .int .i64 ((d : Int) - 1) ∧ c = .int .i64 N ∧ d ≤ L ∧ N ≤ 100000 ∧ Carried C L l d N ∧ RowAt wr H l ∧ IntsAt wr G C L ∧ Below w.heap.size w wr)
      case atStart => exact ⟨0, _, rfl, rfl, Nat.le_refl _, by decide, Carried.start C L _ (by simp), HR3.out, HI3.out, HB3.out⟩
      case round =>
        obtain ⟨N, l, rfl, rfl, hd, hN, hcr, hrw, hiw, hbw⟩ := hrel
        by_cases hg : gk = 0
        · subst hg
          have hval : dval l = a * b := by
            refine hcr.done (a * b) HV.out ?_
            have h1 := dval_lt DA.out
            have h2 := dval_lt DB.out
            rw [VA.out, LA.out] at h1
            rw [VB.out, LB.out] at h2
            rw [HLe.out, Nat.pow_add]
            exact Nat.mul_lt_mul'' h1 h2
          have hcv := hrw.string L hcr.ll.symm L
          obtain ⟨R, hR⟩ : ∃ R : ByteArray, R = ⟨l.toArray⟩ := ⟨_, rfl⟩
          rw [← hR] at hcv
          have hRl : R.data.toList = l := by rw [hR]
          have hbare := bareD_any R wr (by rw [hRl]; simpa using hcr.dig) (by rw [Lib.size_eq, hRl, hcr.ll, HLe.out]; omega)
          rw [hRl, hval] at hbare
          have HBa := Lib.hid hbare
          have HBw := Lib.hid hbw
          clear hcr hrw hiw hbw hval hR hRl hbare
          go_wp2_with fail
          refine HBa.out.mono ?_
          rintro e w5 ⟨rfl, rfl⟩
          go_wp2_with fail
          go_ret
          exact ⟨rfl, HBw.out⟩
        · obtain ⟨g, rfl⟩ : ∃ g, gk = g + 1 := ⟨gk - 1, by omega⟩
          have e1 : (((g + 1 : Nat) : Int) - 1) = (g : Int) := by omega
          rw [e1]
          clear e1
          have hi0 : (0 : Int) ≤ (g : Int) := Int.natCast_nonneg _
          have hgl : (g : Int) < L := by omega
          have cI := hiw.cell (i := g) (by omega)
          have cO := hrw.cell (i := g) (by rw [hcr.ll]; omega)
          have fO := hrw.free g
          obtain ⟨old, hold⟩ : ∃ old : Int, old = ((l[g]'(by rw [hcr.ll]; omega)).toNat : Int) := ⟨_, rfl⟩
          rw [← hold] at cO
          clear hold
          have hst := hcr.step (by omega) (HLo.out g)
          have hlo := HLo.out g
          have hhi := HHi.out g
          have hN0 := hcr.c0
          obtain ⟨V, hV⟩ : ∃ V : Int, V = C g := ⟨_, rfl⟩
          rw [← hV] at cI hst hlo hhi
          have hhi2 : V ≤ 810081 := by omega
          obtain ⟨S, hS⟩ : ∃ S : Int, S = N + V := ⟨_, rfl⟩
          rw [← hS] at hst
          obtain ⟨D, hD⟩ : ∃ D : UInt8, D = UInt8.ofNat (48 + (S % 10).toNat) := ⟨_, rfl⟩
          rw [← hD] at hst
          have hDn : 48 + S % 10 = (D.toNat : Int) := by rw [hD]; simp; omega
          have HDn := Lib.hid hDn
          have HST := Lib.hid hst; have HRw := Lib.hid hrw; have HIw := Lib.hid hiw; have HBw := Lib.hid hbw
          have HSe := Lib.hid hS
          clear hst hrw hiw hbw hcr hV hD hDn hhi hS
          go_wp2_with fail
          go_roundg g
          case measure => omega
          case rel =>
            have hSe := HSe.out
            rw [← hSe, HDn.out]
            refine ⟨S / 10, _, rfl, rfl, by omega, by omega, HST.out, (HRw.out.set g D), HIw.out.other hHG _, HBw.out.setCell (p := ⟨H, g, none⟩) hHw _⟩
end Go.Proofs.YtbpegjgpdgeadaaGreatDoor
namespace Go.Proofs.YtbpegjgpdgeadaaGreatDoor
open Go Go.RowKit Metro
open Go.Lib (nDigits decDigits)

theorem zt_len_le (z : Int) : nDigits z.natAbs ≤ (zt z).size := by rw [zt_size, zl_length]; omega
theorem zt_len_ge (z : Int) : (zt z).size ≤ nDigits z.natAbs + 1 := by rw [zt_size, zl_length]; split <;> omega

theorem mul_sign (a b : Int) : (if (decide (a < 0) != decide (b < 0)) then -((a.natAbs * b.natAbs : Nat) : Int) else ((a.natAbs * b.natAbs : Nat) : Int)) = a * b := by
  rw [← Int.natAbs_mul]
  rcases Int.lt_trichotomy a 0 with h1 | h1 | h1 <;> rcases Int.lt_trichotomy b 0 with h2 | h2 | h2
  · have := Int.mul_pos_of_neg_of_neg h1 h2; simp [h1, h2]; omega
  · subst h2; simp
  · have := Int.mul_neg_of_neg_of_pos h1 h2; have h3 : ¬ b < 0 := by omega
    simp [h1, h3]; omega
  · subst h1; simp
  · subst h1; simp
  · subst h1; simp
  · have := Int.mul_neg_of_pos_of_neg h1 h2; have h3 : ¬ a < 0 := by omega
    simp [h2, h3]; omega
  · subst h2; simp
  · have := Int.mul_pos h1 h2; have h3 : ¬ a < 0 := by omega
    have h4 : ¬ b < 0 := by omega
    simp [h3, h4]; omega

theorem mul_digits {a b : Int} (ha : Few a) (hb : Few b) : nDigits (a.natAbs * b.natAbs) ≤ 18000 := by
  unfold Few at ha hb
  exact Nat.le_trans (nDigits_mul _ _) (by omega)

theorem mul_short {a b : Int} (h : (zt a).size + (zt b).size ≤ 18) : -1000000000000000000 < a * b ∧ a * b < 1000000000000000000 := by
  have h1 := zt_len_le a
  have h2 := zt_len_le b
  have h3 : nDigits (a * b).natAbs ≤ 18 := by rw [Int.natAbs_mul]; exact Nat.le_trans (nDigits_mul _ _) (by omega)
  have h4 := (Metro.nDigits_le (k := 18) (by decide)).1 h3
  omega

set_option maxHeartbeats 4000000 in
set_option maxRecDepth 100000 in
theorem refTimes_any (a b : Int) (w : World) (ha : Few a) (hb : Few b) :
    Calls Tryz.prog 190 #[.string (zt a), .string (zt b)] w fun e w' => e = .returned (.string (zt (a * b))) ∧ Below w.heap.size w w' := by
  have sA := few_size ha
  have sB := few_size hb
  have zA := few_zt ha
  have zB := few_zt hb
  obtain ⟨L, hL⟩ : ∃ L : Int, L = ((zt a).size : Int) + (zt b).size := ⟨_, rfl⟩
  have hwL : IntKind.i64.wrap (((zt a).size : Int) + (zt b).size) = L := by rw [IntKind.wrap_i64, hL]; omega
  have SG := Lib.hid (mul_sign a b)
  have HSZ : Hid ((zt ((a.natAbs * b.natAbs : Nat) : Int)).size ≤ 100000) := Lib.hid (by
    rw [zt_nat_size]; exact Nat.le_trans (mul_digits ha hb) (by decide))
  obtain ⟨LA, hLA⟩ : ∃ LA, LA = decide (a < 0) := ⟨_, rfl⟩
  obtain ⟨LB, hLB⟩ : ∃ LB, LB = decide (b < 0) := ⟨_, rfl⟩
  rw [← hLA, ← hLB] at SG
  have DA := Lib.hid hLA.symm
  have DB := Lib.hid hLB.symm
  have HS : Hid (L ≤ 18 → -1000000000000000000 < a * b ∧ a * b < 1000000000000000000) := Lib.hid fun h => mul_short (by omega)
  clear ha hb hLA hLB hL
  have long : ∀ w1 : World, Below w.heap.size w w1 → True := fun _ _ => trivial
  clear long
  by_cases hsh : L ≤ 18
  · have hlim := HS.out hsh
    have hsh' : ¬ 18 < L := by omega
    go_enter Tryz.func190, Tryz.ntmps190
    go_wp2_with fail
    refine (brief_any a b _).mono ?_
    rintro e w1 ⟨he, rfl⟩
    rcases he with ⟨_, _, rfl⟩ | ⟨hno, rfl⟩
    · go_wp2_with fail
      refine (refOf_any (a * b) _ (by omega) (by omega)).mono ?_
      rintro e w2 ⟨rfl, hb2⟩
      go_wp2_with fail
      go_ret
      exact ⟨rfl, hb2⟩
    · go_wp2_with fail
      refine (sizeZ_any a _).mono ?_
      rintro e w2 ⟨rfl, rfl⟩
      go_wp2_with fail
      refine (sizeZ_any b _).mono ?_
      rintro e w2 ⟨rfl, rfl⟩
      go_wp2_with fail
      refine (product_any a.natAbs b.natAbs _ sA sB).mono ?_
      rintro e w3 ⟨rfl, hb3⟩
      go_wp2_with fail
      refine (below_any a _).mono ?_
      rintro e w4 ⟨rfl, rfl⟩
      rw [DA.out]
      go_wp2_with fail
      refine (below_any b _).mono ?_
      rintro e w4 ⟨rfl, rfl⟩
      rw [DB.out]
      go_wp2_with fail
      refine (signed_any (a.natAbs * b.natAbs) (LA != LB) _ HSZ.out).mono ?_
      rintro e w5 ⟨rfl, rfl⟩
      rw [SG.out]
      go_wp2_with fail
      go_ret
      exact ⟨rfl, hb3⟩
  · have hsh' : 18 < L := by omega
    go_enter Tryz.func190, Tryz.ntmps190
    go_wp2_with fail
    refine (brief_any a b _).mono ?_
    rintro e w1 ⟨he, rfl⟩
    rcases he with ⟨_, _, rfl⟩ | ⟨hno, rfl⟩
    · go_wp2_with fail
      refine (sizeZ_any a _).mono ?_
      rintro e w2 ⟨rfl, rfl⟩
      go_wp2_with fail
      refine (sizeZ_any b _).mono ?_
      rintro e w2 ⟨rfl, rfl⟩
      go_wp2_with fail
      refine (product_any a.natAbs b.natAbs _ sA sB).mono ?_
      rintro e w3 ⟨rfl, hb3⟩
      go_wp2_with fail
      refine (below_any a _).mono ?_
      rintro e w4 ⟨rfl, rfl⟩
      rw [DA.out]
      go_wp2_with fail
      refine (below_any b _).mono ?_
      rintro e w4 ⟨rfl, rfl⟩
      rw [DB.out]
      go_wp2_with fail
      refine (signed_any (a.natAbs * b.natAbs) (LA != LB) _ HSZ.out).mono ?_
      rintro e w5 ⟨rfl, rfl⟩
      rw [SG.out]
      go_wp2_with fail
      go_ret
      exact ⟨rfl, hb3⟩
    · go_wp2_with fail
      refine (sizeZ_any a _).mono ?_
      rintro e w2 ⟨rfl, rfl⟩
      go_wp2_with fail
      refine (sizeZ_any b _).mono ?_
      rintro e w2 ⟨rfl, rfl⟩
      go_wp2_with fail
      refine (product_any a.natAbs b.natAbs _ sA sB).mono ?_
      rintro e w3 ⟨rfl, hb3⟩
      go_wp2_with fail
      refine (below_any a _).mono ?_
      rintro e w4 ⟨rfl, rfl⟩
      rw [DA.out]
      go_wp2_with fail
      refine (below_any b _).mono ?_
      rintro e w4 ⟨rfl, rfl⟩
      rw [DB.out]
      go_wp2_with fail
      refine (signed_any (a.natAbs * b.natAbs) (LA != LB) _ HSZ.out).mono ?_
      rintro e w5 ⟨rfl, rfl⟩
      rw [SG.out]
      go_wp2_with fail
      go_ret
      exact ⟨rfl, hb3⟩
end Go.Proofs.YtbpegjgpdgeadaaGreatDoor
namespace Go.Proofs.YtbpegjgpdgeadaaGreatDoor
open Go Go.RowKit Metro
open Go.Lib (nDigits decDigits)

theorem times10_digits {b r : Nat} (hr : r < 10 * b) : nDigits r ≤ nDigits b + 1 := by
  rw [Metro.nDigits_le (by omega), Nat.pow_succ]
  have := Go.Lib.lt_pow_nDigits b
  omega

set_option maxHeartbeats 1000000 in
set_option maxRecDepth 100000 in
theorem refDivided_any (a b : Nat) (w : World) (hb0 : 0 < b) (ha : (zt (a : Int)).size ≤ 10000) (hb : (zt (b : Int)).size ≤ 9999) :
    Calls Tryz.prog 220 #[.string (zt (a : Int)), .string (zt (b : Int))] w fun e w' => e = .returned (.tuple #[.string (zt ((a / b : Nat) : Int)), .string (zt ((a % b : Nat) : Int))]) ∧ Below w.heap.size w w' := by
  obtain ⟨A, hA⟩ : ∃ A, A = zt (a : Int) := ⟨_, rfl⟩
  have dA : AllDig A.data.toList := by rw [hA, zt_toList, zl_ofNat]; exact allDig_decDigits _
  have vA : dval A.data.toList = a := by rw [hA, zt_toList, zl_ofNat, dval_decDigits]
  have lA : A.data.toList.length = A.size := by rw [← Lib.size_eq]
  have pA : 0 < A.size := by rw [hA]; exact zt_pos _
  rw [← hA] at ha ⊢
  have DA := Lib.hid dA; have VA := Lib.hid vA; have LA := Lib.hid lA
  clear dA vA lA hA
  have hrs : ∀ r : Nat, r < 10 * b → (zt (r : Int)).size ≤ 10000 := by
    intro r hr
    rw [zt_nat_size] at hb ⊢
    have := times10_digits hr
    omega
  have HRS := Lib.hid hrs
  clear hrs
  have HB0 := Lib.hid hb0; have HBs := Lib.hid hb
  clear hb0 hb
  obtain ⟨B, hB⟩ : ∃ B, B = zt (b : Int) := ⟨_, rfl⟩
  have C1 : Hid (∀ (r : Nat) (w : World), Calls Tryz.prog 192 #[.string (zt (r : Int)), .string B] w fun e w' => e = .returned (.bool (decide (r < b))) ∧ w' = w) := Lib.hid (fun r w => by rw [hB]; exact less_any r b w)
  have C2 : Hid (∀ (r : Nat) (w : World), r < 10 * b → b ≤ r → Calls Tryz.prog 191 #[.string (zt (r : Int)), .string B, .bool false] w fun e w' => e = .returned (.string (zt ((r - b : Nat) : Int))) ∧ Below w.heap.size w w') := Lib.hid (fun r w h1 h2 => by rw [hB]; exact paper_any r b false w (HRS.out r h1) (Nat.le_succ_of_le HBs.out) (fun _ => h2))
  rw [← hB]
  clear hB
  go_enter Tryz.func220, Tryz.ntmps220
  go_wp2_with fail
  go_loopg [6, 7, 8, 9] A.size (fun d q r i _ wr => ∃ (k : Nat) (Q : ByteArray) (R : Nat), i = .int .i64 k ∧ q = .string Q ∧ r = .string (zt (R : Int)) ∧ k ≤ A.size ∧ d = A.size - k ∧ Divs A.data.toList b Q.data.toList R k ∧ Below w.heap.size w wr)
  case atStart => exact ⟨0, ⟨#[]⟩, 0, rfl, rfl, by rw [show zt ((0 : Nat) : Int) = ⟨#[48]⟩ from zt_zero'], Nat.zero_le _, rfl, Divs.start HB0.out, Below.refl _ _⟩
  case round =>
    obtain ⟨k, Q, R, rfl, rfl, rfl, hk, rfl, hdv, hbw⟩ := hrel
    have hQs : Q.size = k := by rw [Lib.size_eq, hdv.len]
    have HDV := Lib.hid hdv; have HBw := Lib.hid hbw
    clear hdv hbw
    by_cases hlt : k < A.size
    · have hRlt := HDV.out.lt
      have hRs := HRS.out R (by omega)
      have gA : A.data.toList[k]'(by rw [LA.out]; exact hlt) = A[k]'hlt := by simp [ByteArray.getElem_eq_getElem_data]
      have qA := isDig_iff.1 (DA.out _ (List.getElem_mem (by rw [LA.out]; exact hlt : k < A.data.toList.length)))
      rw [gA] at qA
      obtain ⟨X, hX⟩ : ∃ X : Nat, X = dv (A[k]'hlt) := ⟨_, rfl⟩
      have hX9 : X < 10 := by rw [hX]; unfold dv; omega
      obtain ⟨S, hS⟩ : ∃ S : Nat, S = 10 * R + X := ⟨_, rfl⟩
      have hS10 : S < 10 * b := by omega
      have hbare : ∀ w, Calls Tryz.prog 224 #[.string (zt (R : Int) ++ A.extract k (k + 1))] w fun e w' => e = .returned (.string (zt (S : Int))) ∧ w' = w := by
        intro w
        have hl : (zt (R : Int) ++ A.extract k (k + 1)).data.toList = decDigits R ++ [A[k]'hlt] := by
          rw [ByteArray.data_append, Array.toList_append, zt_toList, zl_ofNat, Lib.extract_data]
          congr 1
          rw [Nat.add_sub_cancel_left, ← gA, List.take_one, List.head?_drop, List.getElem?_eq_getElem (by rw [LA.out]; exact hlt)]
          rfl
        have h := bareD_any (zt (R : Int) ++ A.extract k (k + 1)) w (by rw [hl]; exact (allDig_decDigits R).append (AllDig.cons (by rw [← gA]; exact DA.out _ (List.getElem_mem _)) AllDig.nil)) (by rw [Lib.size_eq, hl]; simp)
        rw [hl, dval_append, dval_decDigits, dval_cons, dval_nil] at h
        rw [hS, hX]
        simp only [List.length_cons, List.length_nil, Nat.zero_add, Nat.pow_one, Nat.pow_zero, Nat.mul_one, Nat.add_zero] at h
        rw [Nat.mul_comm 10 R]
        exact h
      have HBare := Lib.hid hbare
      have HSe := Lib.hid hS
      have HXe := Lib.hid (hX.trans (congrArg dv gA.symm))
      clear hbare gA qA hX hS
      have hk1 : IntKind.i64.wrap ((k : Int) + 1) = (k : Int) + 1 := by rw [IntKind.wrap_i64]; omega
      go_wp2_with fail
      refine (HBare.out _).mono ?_
      rintro e w1 ⟨rfl, rfl⟩
      go_wp2_with fail
      go_loopg [7, 9] S (fun d r dg wr => ∃ c : Nat, r = .string (zt (d : Int)) ∧ dg = .int .u8 (48 + (c : Int)) ∧ S = c * b + d ∧ Below w.heap.size w wr)
      case atStart => exact ⟨0, rfl, rfl, by omega, HBw.out⟩
      case round =>
        obtain ⟨c, rfl, rfl, hval, hb2⟩ := hrel
        have hc10 : c < 10 := by
          rcases Nat.lt_or_ge c 10 with h | h
          · exact h
          · have : 10 * b ≤ c * b := Nat.mul_le_mul_right b h
            omega
        have HV := Lib.hid hval; have HB2 := Lib.hid hb2
        clear hb2
        by_cases hge : gk < b
        · have hD : decide (gk < b) = true := by simpa using hge
          obtain ⟨c8, hc8⟩ : ∃ c8 : UInt8, c8 = UInt8.ofNat (48 + c) := ⟨_, rfl⟩
          have hcn : (c8.toNat : Int) = 48 + (c : Int) := by rw [hc8]; simp; omega
          have hst := HDV.out.step (c := c) (r' := gk) (by rw [LA.out]; exact hlt) hc10 (by have := HXe.out; have := HSe.out; omega) hge
          rw [← hc8] at hst
          have HD := Lib.hid hD; have HST := Lib.hid hst; have HCN := Lib.hid hcn
          clear hval hD hst hge hcn hc8
          go_wp2_with fail
          refine (C1.out gk _).mono ?_
          rintro e w2 ⟨rfl, rfl⟩
          rw [HD.out]
          have hcv := (rowAt_one w2 c8).string 1 rfl 1
          rw [HCN.out] at hcv
          go_wp2_with fail
          go_roundg (A.size - (k + 1))
          case measure => omega
          case rel =>
            refine ⟨k + 1, Q ++ ⟨#[c8]⟩, gk, rfl, rfl, rfl, by omega, rfl, ?_, HB2.out.alloc HB2.out.size _⟩
            rw [ByteArray.data_append, Array.toList_append]
            exact HST.out
        · have hD : decide (gk < b) = false := by simpa using hge
          have hc9 : c + 1 < 10 := by
            rcases Nat.lt_or_ge (c + 1) 10 with h | h
            · exact h
            · have h1 : 10 * b ≤ (c + 1) * b := Nat.mul_le_mul_right b h
              rw [Nat.add_mul] at h1
              omega
          have hgk : gk < 10 * b := by omega
          have hval2 : S = (c + 1) * b + (gk - b) := by rw [Nat.add_mul]; omega
          have HD := Lib.hid hD; have HV2 := Lib.hid hval2
          have hb0 := HB0.out
          clear hval hD hval2
          go_wp2_with fail
          refine (C1.out gk _).mono ?_
          rintro e w2 ⟨rfl, rfl⟩
          rw [HD.out]
          go_wp2_with fail
          refine (C2.out gk _ hgk (by omega)).mono ?_
          rintro e w3 ⟨rfl, hb3⟩
          have HB3 := Lib.hid (HB2.out.trans (hb3.mono HB2.out.size)); clear hb3
          go_wp2_with fail
          go_roundg (gk - b)
          case measure => omega
          case rel => exact ⟨c + 1, rfl, by congr 1, HV2.out, HB3.out⟩
    · have hkk : k = A.size := by omega
      have hdn := HDV.out
      rw [hkk, ← LA.out] at hdn
      have hd := hdn.done
      rw [VA.out] at hd
      have hbare := fun w => bareD_any Q w HDV.out.dig (by rw [hQs, hkk]; exact pA)
      rw [hd.1] at hbare
      have HBa := Lib.hid hbare; have HR := Lib.hid hd.2
      clear hdn hd hbare
      go_wp2_with fail
      refine (HBa.out _).mono ?_
      rintro e w2 ⟨rfl, rfl⟩
      go_wp2_with fail
      go_ret2
      exact ⟨by rw [← HR.out]; rfl, HBw.out⟩
end Go.Proofs.YtbpegjgpdgeadaaGreatDoor
namespace Go.Proofs.YtbpegjgpdgeadaaGreatDoor
open Go Go.RowKit Metro
open Go.Lib (nDigits decDigits)

theorem sign_quo (a b : Int) : (if (decide (a < 0) != decide (b < 0)) then -((a.natAbs / b.natAbs : Nat) : Int) else ((a.natAbs / b.natAbs : Nat) : Int)) = a.tdiv b := by
  rcases Int.lt_or_le a 0 with h1 | h1 <;> rcases Int.lt_or_le b 0 with h2 | h2
  · have e : (decide (a < 0) != decide (b < 0)) = false := by simp [h1, h2]
    rw [e, if_neg (by decide), Int.natCast_ediv, Int.ofNat_natAbs_of_nonpos (by omega), Int.ofNat_natAbs_of_nonpos (by omega), ← Int.tdiv_eq_ediv_of_nonneg (by omega), Int.neg_tdiv_neg]
  · have h3 : ¬ b < 0 := by omega
    have e : (decide (a < 0) != decide (b < 0)) = true := by simp [h1, h3]
    rw [e, if_pos rfl, Int.natCast_ediv, Int.ofNat_natAbs_of_nonpos (by omega), Int.natAbs_of_nonneg h2, ← Int.tdiv_eq_ediv_of_nonneg (by omega), Int.neg_tdiv, Int.neg_neg]
  · have h3 : ¬ a < 0 := by omega
    have e : (decide (a < 0) != decide (b < 0)) = true := by simp [h2, h3]
    rw [e, if_pos rfl, Int.natCast_ediv, Int.natAbs_of_nonneg h1, Int.ofNat_natAbs_of_nonpos (by omega), ← Int.tdiv_eq_ediv_of_nonneg (by omega), Int.tdiv_neg, Int.neg_neg]
  · have h3 : ¬ a < 0 := by omega
    have h4 : ¬ b < 0 := by omega
    have e : (decide (a < 0) != decide (b < 0)) = false := by simp [h3, h4]
    rw [e, if_neg (by decide), Int.natCast_ediv, Int.natAbs_of_nonneg h1, Int.natAbs_of_nonneg h2, ← Int.tdiv_eq_ediv_of_nonneg (by omega)]

/-- The quotient and the rest as they are asked. -/
def PartedAt (a b : Int) (w : World) (e : Ending) (w' : World) : Prop := e = .returned (.tuple #[.string (zt (a.tdiv b)), .string (zt (a.tmod b))]) ∧ Below w.heap.size w w'

theorem few_le {a b : Int} (h : a.natAbs ≤ b.natAbs) (hb : Few b) : Few a := Nat.le_trans (nDigits_mono h) hb

theorem tdiv_few {a : Int} (b : Int) (h : Few a) : Few (a.tdiv b) := few_le (by rw [Int.natAbs_tdiv]; exact Nat.div_le_self _ _) h
theorem tmod_abs (a b : Int) (_ : b ≠ 0) : (a.tmod b).natAbs = a.natAbs % b.natAbs := by
  exact Int.natAbs_tmod a b

set_option maxHeartbeats 1000000 in
set_option maxRecDepth 100000 in
/-- The quotient and the rest, where the rest is 0 or both numbers are not below it. -/
theorem refParted_any (a b : Int) (w : World) (hb0 : b ≠ 0) (h : (0 ≤ a ∧ 0 < b) ∨ b ∣ a) (ha : Few a) (hb : Few b) (hp : Few (a.tdiv b * b)) :
    Calls Tryz.prog 188 #[.string (zt a), .string (zt b)] w fun e w' => PartedAt a b w e w' := by
  obtain ⟨r, hr⟩ : ∃ r, r = a.tmod b := ⟨_, rfl⟩
  obtain ⟨q, hq⟩ : ∃ q, q = a.tdiv b := ⟨_, rfl⟩
  have hqr : a - q * b = r := by rw [hq, hr]; have := Int.tdiv_mul_add_tmod a b; omega
  have HQ := Lib.hid hq; have HR := Lib.hid hr
  have fq : Few q := by rw [hq]; exact tdiv_few b ha
  have hra : r.natAbs = a.natAbs % b.natAbs := by rw [hr]; exact tmod_abs a b hb0
  have hqa : (if (decide (a < 0) != decide (b < 0)) then -((a.natAbs / b.natAbs : Nat) : Int) else ((a.natAbs / b.natAbs : Nat) : Int)) = q := by rw [hq]; exact sign_quo a b
  have htq : (a - r).tdiv b = q := by
    rw [← hqr]
    rw [show a - (a - q * b) = q * b by omega, Int.mul_tdiv_cancel _ hb0]
  have hcase : (r = 0) ∨ (r ≠ 0 ∧ 0 ≤ r ∧ 0 < b ∧ 0 ≤ a) := by
    rcases h with ⟨h1, h2⟩ | h1
    · by_cases e : r = 0
      · exact .inl e
      · exact .inr ⟨e, by rw [hr]; exact Int.tmod_nonneg b h1, h2, h1⟩
    · exact .inl (by rw [hr]; exact Int.tmod_eq_zero_of_dvd h1)
  rw [← hq] at hp
  unfold PartedAt
  rw [← hq, ← hr]
  clear hq h
  have HFq := Lib.hid fq; have HRa := Lib.hid hra; have HQa := Lib.hid hqa; have HTq := Lib.hid htq; have HP := Lib.hid hp; have HQR := Lib.hid hqr
  have HA := Lib.hid ha; have HBb := Lib.hid hb
  clear fq hra hqa htq hp hqr ha hb
  have hrt : a.tmod b = r := hr.symm
  have HRT := Lib.hid hrt
  clear hr hrt
  have hne : (b == 0) = false := by rw [beq_eq_false_iff_ne]; exact hb0
  have hQn : q.natAbs ≤ a.natAbs := by rw [HQ.out, Int.natAbs_tdiv]; exact Nat.div_le_self _ _
  have HQn := Lib.hid hQn
  clear hQn
  go_enter Tryz.func188, Tryz.ntmps188
  go_wp2_with fail
  refine (brief_any a b _).mono ?_
  rintro e w1 ⟨he, rfl⟩
  rcases he with ⟨h1, h2, rfl⟩ | ⟨_, rfl⟩
  · have k1 := (Metro.nDigits_le (k := 18) (by decide)).1 h1
    have k2 := (Metro.nDigits_le (k := 18) (by decide)).1 h2
    have l1 : -1000000000000000000 < a ∧ a < 1000000000000000000 := by omega
    have l2 : -1000000000000000000 < b ∧ b < 1000000000000000000 := by omega
    have l3 : -1000000000000000000 < r ∧ r < 1000000000000000000 := by
      have := Nat.mod_le a.natAbs b.natAbs
      rw [← HRa.out] at this
      omega
    have l4 : -1000000000000000000 < q ∧ q < 1000000000000000000 := by
      have := HQn.out
      omega
    have O1 := Lib.hid (fun w => refOf_any q w (by omega) (by omega))
    have O2 := Lib.hid (fun w => refOf_any r w (by omega) (by omega))
    have hw1 : wrap64 (a - r) = a - r := by unfold wrap64; omega
    have hw2 : wrap64 q = q := by unfold wrap64; omega
    have hrt := HRT.out
    have htq := HTq.out
    clear k1 k2 h1 h2
    have HC := Lib.hid hcase
    clear hcase
    go_wp2_with fail
    · have h0 := ‹r = 0›
      rw [← HQ.out, hw2]
      rw [h0] at O2
      have H0 := Lib.hid h0
      clear hw1 hw2 hrt htq h0
      refine (O1.out _).mono ?_
      rintro e w2 ⟨rfl, hb2⟩
      go_wp2_with fail
      refine (O2.out _).mono ?_
      rintro e w3 ⟨rfl, hb3⟩
      have HB3 := Lib.hid (hb2.trans (hb3.mono hb2.size))
      clear hb2 hb3
      go_wp2_with fail
      go_ret2
      exact ⟨by rw [H0.out]; rfl, HB3.out⟩
    · exfalso
      have hcon := ‹(r != 0) = true ∧ (!decide (r < 0) == decide (b < 0)) = true›
      rcases HC.out with h | ⟨h1, h2, h3, h4⟩
      · rw [h] at hcon; exact absurd hcon.1 (by decide)
      · rw [decide_eq_false (by omega : ¬ r < 0), decide_eq_false (by omega : ¬ b < 0)] at hcon
        exact absurd hcon.2 (by decide)
    · skip
      clear hw1 hw2 hrt htq
      refine (O1.out _).mono ?_
      rintro e w2 ⟨rfl, hb2⟩
      go_wp2_with fail
      refine (O2.out _).mono ?_
      rintro e w3 ⟨rfl, hb3⟩
      have HB3 := Lib.hid (hb2.trans (hb3.mono hb2.size))
      clear hb2 hb3
      go_wp2_with fail
      go_ret2
      exact ⟨rfl, HB3.out⟩
  · have sA := few_size HA.out
    have sB : (zt (b.natAbs : Int)).size ≤ 9999 := by
      rw [zt_nat_size]; exact Nat.le_trans HBb.out (by decide)
    have hbp : 0 < b.natAbs := by omega
    have HSZ : Hid ((zt ((a.natAbs / b.natAbs : Nat) : Int)).size ≤ 100000) := Lib.hid (by
      rw [zt_nat_size]; exact Nat.le_trans (nDigits_mono (Nat.div_le_self _ _)) (Nat.le_trans HA.out (by decide)))
    obtain ⟨LA, hLA⟩ : ∃ LA, LA = decide (a < 0) := ⟨_, rfl⟩
    obtain ⟨LB, hLB⟩ : ∃ LB, LB = decide (b < 0) := ⟨_, rfl⟩
    rw [← hLA, ← hLB] at HQa
    have DA := Lib.hid hLA.symm
    have DB := Lib.hid hLB.symm
    have MU := Lib.hid (fun w => refTimes_any q b w HFq.out HBb.out)
    have MI := Lib.hid (fun w => refMinus_any a (q * b) w HA.out HP.out)
    rw [HQR.out] at MI
    rcases hcase with h0 | ⟨h0, h1, h2, h3⟩
    · have e0 := zt_is0 (z := ((r.natAbs : Nat) : Int)) (by omega)
      clear h0 hLA hLB
      go_wp2_with fail
      refine (sizeZ_any a _).mono ?_
      rintro e w2 ⟨rfl, rfl⟩
      go_wp2_with fail
      refine (sizeZ_any b _).mono ?_
      rintro e w2 ⟨rfl, rfl⟩
      go_wp2_with fail
      refine (refDivided_any a.natAbs b.natAbs _ hbp sA sB).mono ?_
      rintro e w3 ⟨rfl, hb3⟩
      have HB3 := Lib.hid hb3
      clear hb3
      rw [← HRa.out]
      go_wp2_with fail
      refine (below_any a _).mono ?_
      rintro e w4 ⟨rfl, rfl⟩
      rw [DA.out]
      go_wp2_with fail
      refine (below_any b _).mono ?_
      rintro e w4 ⟨rfl, rfl⟩
      rw [DB.out]
      go_wp2_with fail
      refine (signed_any (a.natAbs / b.natAbs) (LA != LB) _ HSZ.out).mono ?_
      rintro e w5 ⟨rfl, rfl⟩
      rw [HQa.out]
      go_wp2_with fail
      refine (MU.out _).mono ?_
      rintro e w6 ⟨rfl, hb6⟩
      have HB6 := Lib.hid (HB3.out.trans (hb6.mono HB3.out.size))
      clear hb6
      go_wp2_with fail
      refine (MI.out _).mono ?_
      rintro e w7 ⟨rfl, hb7⟩
      have HB7 := Lib.hid (HB6.out.trans (hb7.mono HB6.out.size))
      clear hb7
      go_wp2_with fail
      go_ret2
      exact ⟨rfl, HB7.out⟩
    · have e0 := zt_not0 (z := ((r.natAbs : Nat) : Int)) (by omega)
      have es : LA = LB := by
        rw [hLA, hLB]
        have x1 : ¬ a < 0 := by omega
        have x2 : ¬ b < 0 := by omega
        simp [x1, x2]
      subst es
      have hxx : (LA != LA) = false := by simp
      rw [hxx] at HQa
      clear hxx
      clear h0 h1 h2 h3 hLA hLB
      go_wp2_with fail
      refine (sizeZ_any a _).mono ?_
      rintro e w2 ⟨rfl, rfl⟩
      go_wp2_with fail
      refine (sizeZ_any b _).mono ?_
      rintro e w2 ⟨rfl, rfl⟩
      go_wp2_with fail
      refine (refDivided_any a.natAbs b.natAbs _ hbp sA sB).mono ?_
      rintro e w3 ⟨rfl, hb3⟩
      have HB3 := Lib.hid hb3
      clear hb3
      rw [← HRa.out]
      go_wp2_with fail
      refine (below_any a _).mono ?_
      rintro e w4 ⟨rfl, rfl⟩
      rw [DA.out]
      go_wp2_with fail
      refine (below_any b _).mono ?_
      rintro e w4 ⟨rfl, rfl⟩
      rw [DB.out]
      go_wp2_with fail
      refine (signed_any (a.natAbs / b.natAbs) false _ HSZ.out).mono ?_
      rintro e w5 ⟨rfl, rfl⟩
      rw [HQa.out]
      go_wp2_with fail
      refine (below_any a _).mono ?_
      rintro e w6 ⟨rfl, rfl⟩
      rw [DA.out]
      go_wp2_with fail
      refine (below_any b _).mono ?_
      rintro e w6 ⟨rfl, rfl⟩
      rw [DB.out]
      go_wp2_with fail
      refine (MU.out _).mono ?_
      rintro e w6 ⟨rfl, hb6⟩
      have HB6 := Lib.hid (HB3.out.trans (hb6.mono HB3.out.size))
      clear hb6
      go_wp2_with fail
      refine (MI.out _).mono ?_
      rintro e w7 ⟨rfl, hb7⟩
      have HB7 := Lib.hid (HB6.out.trans (hb7.mono HB6.out.size))
      clear hb7
      go_wp2_with fail
      go_ret2
      exact ⟨rfl, HB7.out⟩
end Go.Proofs.YtbpegjgpdgeadaaGreatDoor
namespace Go.Proofs.YtbpegjgpdgeadaaGreatDoor
open Go Go.RowKit Metro
open Go.Lib (nDigits decDigits)

theorem few_nat {n m : Nat} (h : n ≤ m) (hm : nDigits m ≤ 9000) : Few (n : Int) := by
  unfold Few
  rw [Int.natAbs_natCast]
  exact Nat.le_trans (nDigits_mono h) hm

set_option maxHeartbeats 4000000 in
set_option maxRecDepth 100000 in
theorem refShared_any (a b : Int) (w : World) (ha : Few a) (hb : Few b) :
    Calls Tryz.prog 114 #[.string (zt a), .string (zt b)] w fun e w' => e = .returned (.string (zt (Int.gcd a b : Nat))) ∧ Below w.heap.size w w' := by
  obtain ⟨M, hM⟩ : ∃ M, M = max a.natAbs b.natAbs := ⟨_, rfl⟩
  have hMd : nDigits M ≤ 9000 := by
    rw [hM]
    rcases Nat.le_total a.natAbs b.natAbs with h | h
    · rw [Nat.max_eq_right h]; exact hb
    · rw [Nat.max_eq_left h]; exact ha
  obtain ⟨G, hG⟩ : ∃ G, G = Int.gcd a b := ⟨_, rfl⟩
  rw [← hG]
  have hG' : Nat.gcd a.natAbs b.natAbs = G := by rw [hG]; rfl
  have sA := few_size ha
  have sB := few_size hb
  have HMd := Lib.hid hMd; have HG := Lib.hid hG'
  have hAM : a.natAbs ≤ M := by omega
  have hBM : b.natAbs ≤ M := by omega
  have CP : Hid (∀ (x y : Nat) (w : World), x ≤ M → y ≤ M → y ≠ 0 → Calls Tryz.prog 188 #[.string (zt (x : Int)), .string (zt (y : Int))] w fun e w' => e = .returned (.tuple #[.string (zt ((x / y : Nat) : Int)), .string (zt ((x % y : Nat) : Int))]) ∧ Below w.heap.size w w') := Lib.hid (fun x y w hx hy h0 => by
    have hq : ((x : Int).tdiv y) = ((x / y : Nat) : Int) := rfl
    have hr : ((x : Int).tmod y) = ((x % y : Nat) : Int) := rfl
    have h := refParted_any (x : Int) (y : Int) w (by omega) (.inl ⟨by omega, by omega⟩) (few_nat hx HMd.out) (few_nat hy HMd.out) (by
      rw [hq, show ((x / y : Nat) : Int) * (y : Int) = ((x / y * y : Nat) : Int) from by push_cast; rfl]
      exact few_nat (Nat.le_trans (Nat.div_mul_le_self x y) hx) HMd.out)
    unfold PartedAt at h
    rw [hq, hr] at h
    exact h)
  clear hM hMd hG hG' ha hb
  go_enter Tryz.func114, Tryz.ntmps114
  go_wp2_with fail
  refine (sizeZ_any a _).mono ?_
  rintro e w1 ⟨rfl, rfl⟩
  go_wp2_with fail
  refine (signed_any a.natAbs false _ (by omega)).mono ?_
  rintro e w1 ⟨rfl, rfl⟩
  go_wp2_with fail
  refine (sizeZ_any b _).mono ?_
  rintro e w1 ⟨rfl, rfl⟩
  go_wp2_with fail
  refine (signed_any b.natAbs false _ (by omega)).mono ?_
  rintro e w1 ⟨rfl, rfl⟩

  clear sA sB
  go_wp2_with fail
  go_loopg [0, 1, 5, 6, 7, 8, 9] b.natAbs (fun d x y _ _ _ _ _ wr => ∃ A : Nat, x = .string (zt (A : Int)) ∧ y = .string (zt (d : Int)) ∧ Nat.gcd A d = G ∧ A ≤ M ∧ d ≤ M ∧ Below w1.heap.size w1 wr)
  case atStart => exact ⟨a.natAbs, rfl, rfl, HG.out, hAM, hBM, Below.refl _ _⟩
  case round =>
    obtain ⟨A, rfl, rfl, hg, hA, hd, hbw⟩ := hrel
    have HGG := Lib.hid hg; have HB := Lib.hid hbw
    clear hg hbw
    by_cases h0 : gk = 0
    · subst h0
      have e0 := zt_is0 (z := 0) rfl
      have hAG : A = G := by have := HGG.out; rwa [Nat.gcd_zero_right] at this
      have HAG := Lib.hid hAG
      clear hAG
      go_wp2_with fail
      go_ret
      exact ⟨by rw [← HAG.out]; rfl, HB.out⟩
    · have e0 := zt_not0 (z := (gk : Int)) (by omega)
      go_wp2_with fail
      refine (brief_any (A : Int) (gk : Int) _).mono ?_
      rintro e w4 ⟨he, rfl⟩
      rcases he with ⟨h1, h2, rfl⟩ | ⟨_, rfl⟩
      · have k1 := (Metro.nDigits_le (k := 18) (by decide)).1 h1
        have k2 := (Metro.nDigits_le (k := 18) (by decide)).1 h2
        rw [Int.natAbs_natCast] at k1 k2
        clear h1 h2
        have l1 : A < 1000000000000000000 := by omega
        have l2 : gk < 1000000000000000000 := by omega
        clear k1 k2
        go_wp2_with fail
        go_loopg [5, 6] gk (fun d m n wr => ∃ A : Nat, m = .int .i64 A ∧ n = .int .i64 d ∧ Nat.gcd A d = G ∧ A < 1000000000000000000 ∧ d < 1000000000000000000 ∧ Below w1.heap.size w1 wr)
        case atStart => exact ⟨A, rfl, rfl, HGG.out, l1, l2, HB.out⟩
        case round =>
          obtain ⟨A2, rfl, rfl, hg, hA2, hd2, hbw⟩ := hrel
          have HGG2 := Lib.hid hg; have HB2 := Lib.hid hbw
          clear hg hbw
          have O := Lib.hid (fun w => refOfN_any A2 w (by omega))
          by_cases hn0 : gk = 0
          · subst hn0
            have hAG : A2 = G := by have := HGG2.out; rwa [Nat.gcd_zero_right] at this
            have HAG := Lib.hid hAG
            clear hAG
            go_wp2_with fail
            refine (O.out _).mono ?_
            rintro e w5 ⟨rfl, hb5⟩
            have HB5 := Lib.hid (HB2.out.trans (hb5.mono HB2.out.size)); clear hb5
            go_wp2_with fail
            go_ret
            exact ⟨by rw [← HAG.out]; rfl, HB5.out⟩
          · have hp : 0 < (gk : Int) := by omega
            have hne : ((gk : Int) == 0) = false := by rw [beq_eq_false_iff_ne]; omega
            have hgg : Nat.gcd gk (A2 % gk) = G := by rw [← HGG2.out, Nat.gcd_comm A2 gk, Nat.gcd_rec gk A2, Nat.gcd_comm]
            have hmd : A2 % gk < gk := Nat.mod_lt _ (by omega)
            have HGn := Lib.hid hgg
            clear hgg hn0
            go_wp2_with fail
            go_quiet (fail)
            go_wp2_with fail
            go_roundg (A2 % gk)
            case measure => exact hmd
            case rel => exact ⟨gk, rfl, by go_num, HGn.out, hd2, by omega, HB2.out.trans (below_drewN _ wr _)⟩
      · go_wp2_with fail
        refine (CP.out A gk _ hA hd h0).mono ?_
        rintro e w2 ⟨rfl, hb2⟩
        have hgg : Nat.gcd gk (A % gk) = G := by rw [← HGG.out, Nat.gcd_comm A gk, Nat.gcd_rec gk A, Nat.gcd_comm]
        have hmd : A % gk < gk := Nat.mod_lt _ (by omega)
        have HGn := Lib.hid hgg; have HBn := Lib.hid (HB.out.trans (hb2.mono HB.out.size))
        clear hgg hb2
        go_wp2_with fail
        go_roundg (A % gk)
        case measure => exact hmd
        case rel => exact ⟨gk, rfl, rfl, HGn.out, hd, by omega, HBn.out⟩
end Go.Proofs.YtbpegjgpdgeadaaGreatDoor
