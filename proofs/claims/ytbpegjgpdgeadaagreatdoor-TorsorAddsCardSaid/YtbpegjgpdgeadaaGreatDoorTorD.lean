/- A part of the proof: TorD. Conditions: none. -/
import Derived.Test.YtbpegjgpdgeadaaGreatDoorTorC
import Derived.OwnWalk
namespace Go.Proofs.YtbpegjgpdgeadaaGreatDoor
open Go Go.RowKit Metro
open Go.Lib (nDigits decDigits)

set_option maxHeartbeats 1000000 in
set_option maxRecDepth 100000 in
theorem zero_any (w : World) :
    Calls Tryz.prog 25 #[] w fun E w' => E = .returned (.agg #[.string ⟨#[48]⟩, .string ⟨#[48]⟩, .string ⟨#[48]⟩, .string ⟨#[48]⟩, .string ⟨#[48]⟩, .string ⟨#[48]⟩]) ∧ Below w.heap.size w w' := by
  go_enter Tryz.func25, Tryz.ntmps25
  go_wp2
  exact bodyPost_ret (by simp [results, Tryz.results25, go_sem]; try rfl) rfl ⟨rfl, by go_grown⟩

set_option maxHeartbeats 1000000 in
set_option maxRecDepth 100000 in
theorem made_agg (a b c d e f : ByteArray) (w : World) :
    Calls Tryz.prog 101 #[.agg #[.string a, .string b, .string c, .string d, .string e, .string f]] w fun E w' => E = .returned (.agg #[.string a, .string b, .string c, .string d, .string e, .string f]) ∧ Below w.heap.size w w' := by
  go_enter Tryz.func101, Tryz.ntmps101
  go_wp2
  exact bodyPost_ret (by simp [results, Tryz.results101, go_sem]; try rfl) rfl ⟨rfl, by go_grown⟩

set_option maxHeartbeats 1000000 in
set_option maxRecDepth 100000 in
theorem refMade_any (t : Nat → ByteArray) (g : Nat) (w : World) (hg : g < w.heap.size) (ht : TextsAt w g t 6) :
    Calls Tryz.prog 102 #[.slice (some ⟨g, 0, none⟩) 6 6] w fun E w' => E = .returned (.agg #[.string (t 0), .string (t 1), .string (t 2), .string (t 3), .string (t 4), .string (t 5)]) ∧ Below w.heap.size w w' := by
  have HB0 := Lib.hid (below_one w (.cells #[.string ⟨#[]⟩, .string ⟨#[]⟩, .string ⟨#[]⟩, .string ⟨#[]⟩, .string ⟨#[]⟩, .string ⟨#[]⟩] 25))
  have HT := Lib.hid (ht.below HB0.out hg)
  have HR := Lib.hid (blk_new w #[.string ⟨#[]⟩, .string ⟨#[]⟩, .string ⟨#[]⟩, .string ⟨#[]⟩, .string ⟨#[]⟩, .string ⟨#[]⟩] 25)
  clear ht hg
  go_enter Tryz.func102, Tryz.ntmps102
  go_wp2_with fail
  generalize (w.alloc (.cells #[.string ⟨#[]⟩, .string ⟨#[]⟩, .string ⟨#[]⟩, .string ⟨#[]⟩, .string ⟨#[]⟩, .string ⟨#[]⟩] 25)) = W0 at HB0 HT HR ⊢
  have t0 := HT.out 0 (by decide); have t1 := HT.out 1 (by decide); have t2 := HT.out 2 (by decide); have t3 := HT.out 3 (by decide); have t4 := HT.out 4 (by decide); have t5 := HT.out 5 (by decide)
  have r0 := HR.out.cell 0; have r1 := HR.out.cell 1; have r2 := HR.out.cell 2; have r3 := HR.out.cell 3; have r4 := HR.out.cell 4; have r5 := HR.out.cell 5
  have f0 := HR.out.free 0; have f1 := HR.out.free 1; have f2 := HR.out.free 2; have f3 := HR.out.free 3; have f4 := HR.out.free 4; have f5 := HR.out.free 5
  go_region
  all_goals
    go_wp2_with fail
    have hr3 := Blk.drew (Blk.set (Blk.set (Blk.set (Blk.set (Blk.set (Blk.set HR.out 0 (.string (t 0))) 1 (.string (t 1))) 2 (.string (t 2))) 3 (.string (t 3))) 4 (.string (t 4))) 5 (.string (t 5)))
    have hb3 := Below.drew (Below.setCell (p := ⟨w.heap.size, 5, none⟩) (Below.setCell (p := ⟨w.heap.size, 4, none⟩) (Below.setCell (p := ⟨w.heap.size, 3, none⟩) (Below.setCell (p := ⟨w.heap.size, 2, none⟩) (Below.setCell (p := ⟨w.heap.size, 1, none⟩) (Below.setCell (p := ⟨w.heap.size, 0, none⟩) HB0.out (Nat.le_refl _) (.string (t 0))) (Nat.le_refl _) (.string (t 1))) (Nat.le_refl _) (.string (t 2))) (Nat.le_refl _) (.string (t 3))) (Nat.le_refl _) (.string (t 4))) (Nat.le_refl _) (.string (t 5)))
    generalize ((((((W0.setCell ⟨w.heap.size, 0, none⟩ (.string (t 0))).setCell ⟨w.heap.size, 1, none⟩ (.string (t 1))).setCell ⟨w.heap.size, 2, none⟩ (.string (t 2))).setCell ⟨w.heap.size, 3, none⟩ (.string (t 3))).setCell ⟨w.heap.size, 4, none⟩ (.string (t 4))).setCell ⟨w.heap.size, 5, none⟩ (.string (t 5))).drew = W3 at hr3 hb3 ⊢
    have s0 := hr3.cell 0; have s1 := hr3.cell 1; have s2 := hr3.cell 2; have s3 := hr3.cell 3; have s4 := hr3.cell 4; have s5 := hr3.cell 5
    exact bodyPost_ret (by simp [results, Tryz.results102, go_sem, s0, s1, s2, s3, s4, s5]; try rfl) rfl ⟨rfl, hb3⟩
end Go.Proofs.YtbpegjgpdgeadaaGreatDoor
namespace Go.Proofs.YtbpegjgpdgeadaaGreatDoor
open Go Go.RowKit Metro
open Go.Lib (nDigits decDigits)

theorem info22 : (Tryz.prog.info? 22).map (fun i => (i.zero, i.size, i.bytes)) = some (some (.string ⟨#[]⟩), 1, 16) := by kernel_rfl

/-- The first n texts as values. -/
def txl (ss : Nat → ByteArray) (n : Nat) : List Value := (List.range n).map fun i => .string (ss i)
theorem txl_succ (ss : Nat → ByteArray) (n : Nat) : txl ss (n + 1) = txl ss n ++ [.string (ss n)] := by simp [txl, List.range_succ]
theorem txl_length (ss : Nat → ByteArray) (n : Nat) : (txl ss n).length = n := by simp [txl]

/-- A list of n texts of the call's own: nil if there is none. -/
def OwnT (w : World) (B : Nat) (v : Value) (ss : Nat → ByteArray) (n : Nat) : Prop := w.ownsRow B 22 1 v n (txl ss n)
theorem OwnT.start (w : World) (B : Nat) (ss : Nat → ByteArray) : OwnT w B (.slice none 0 0) ss 0 := ⟨rfl, .inl ⟨rfl, rfl⟩⟩
theorem OwnT.open {w : World} {B : Nat} {v : Value} {ss : Nat → ByteArray} {n : Nat} (h : OwnT w B v ss n) (hn : 0 < n) : ∃ g cap, v = .slice (some ⟨g, 0, none⟩) n cap ∧ B ≤ g ∧ g < w.heap.size ∧ n ≤ cap ∧ cap ≤ maxLen ∧ TextsAt w g ss n := by
  rcases h.2 with ⟨_, h0⟩ | ⟨g, cap, cur, hv, hB, hg, h1, h2, h3, h4⟩
  · omega
  · refine ⟨g, cap, hv, hB, (Array.getElem?_eq_some_iff.1 hg).1, h1, h2, fun i hi => ?_⟩
    rw [Lib.cell_of_heap hg]
    have e : (cur.toList.take (n * 1))[i]? = (txl ss n)[i]? := by rw [h4]
    rw [Nat.mul_one, List.getElem?_take_of_lt hi, Array.getElem?_toList] at e
    rw [e]
    simp [txl, hi]
theorem OwnT.below {w w' : World} {B : Nat} {v : Value} {ss : Nat → ByteArray} {n : Nat} (h : OwnT w B v ss n) (hb : Below w.heap.size w w') : OwnT w' B v ss n := by
  refine ⟨h.1, ?_⟩
  rcases h.2 with h | ⟨g, cap, cur, hv, hB, hg, h1, h2, h3, h4⟩
  · exact .inl h
  · exact .inr ⟨g, cap, cur, hv, hB, by rw [hb.block g (Array.getElem?_eq_some_iff.1 hg).1]; exact hg, h1, h2, h3, h4⟩

set_option maxHeartbeats 2000000 in
set_option maxRecDepth 100000 in
theorem wholes_any (n g : Nat) (c : Nat → Int) (w : World) (hE : Env w) (hn : n ≤ 1000) (hc : ∀ i, i < n → w.cell? ⟨g, i, none⟩ = some (.int .i64 (c i))) (hr : ∀ i, i < n → -9223372036854775808 ≤ c i ∧ c i ≤ 9223372036854775807) :
    Calls Tryz.prog 104 #[.slice (some ⟨g, 0, none⟩) n n] w fun e w' => ∃ v, e = .returned v ∧ OwnT w' w.heap.size v (fun i => qt (c i : Rat)) n ∧ Below w.heap.size w w' := by
  obtain ⟨i0, hi, hz0, hz1, hz2⟩ := info_parts info22
  have HE := Lib.hid hE; have HC := Lib.hid hc; have HR := Lib.hid hr
  clear hE hc hr
  go_enter Tryz.func104, Tryz.ntmps104
  go_wp2_with fail
  go_loopg [3, 5, 8] n (fun d v _ i wr => ∃ k : Nat, i = .int .i64 k ∧ k ≤ n ∧ d = n - k ∧ OwnT wr w.heap.size v (fun i => qt (c i : Rat)) k ∧ Below w.heap.size w wr)
  case atStart => exact ⟨0, rfl, Nat.zero_le _, rfl, OwnT.start _ _ _, Below.refl _ _⟩
  case round =>
    obtain ⟨k, rfl, hk, rfl, hv, hb⟩ := hrel
    by_cases hlt : k < n
    · have c0 := HC.out k hlt
      have d0 := (hb.cell (p := ⟨g, k, none⟩) (World.block_lt_of_cell? w _ c0)).trans c0
      have C := Lib.hid (qwhole_any (c k) wr (HR.out k hlt).1 (HR.out k hlt).2 (HE.out.below hb))
      have HV := Lib.hid hv; have HB := Lib.hid hb
      clear hv hb c0
      go_wp2_with fail
      refine C.out.mono ?_
      rintro e w1 ⟨rfl, hb1⟩
      have HV1 := Lib.hid ((HV.out.below hb1).below (below_one w1 (.cells #[.string (qt (c k : Rat))] 22)))
      have HB1 := Lib.hid ((HB.out.trans (hb1.mono HB.out.size)).alloc (Nat.le_trans HB.out.size hb1.size) (.cells #[.string (qt (c k : Rat))] 22))
      have hnew := Lib.hid (blk_new w1 #[.string (qt (c k : Rat))] 22)
      clear hb1
      go_wp2_with (at_builtin; refine wpList_append_own _ rfl _ _ 39 rfl w.heap.size 22 i0 (.string ⟨#[]⟩) 1 16 Tryz.underlying39 hi hz0 hz1 hz2 rfl (by decide) _ _ _ rfl HV1.out ⟨w1.heap.size, 0, none⟩ 1 1 [.string (qt (c k : Rat))] rfl rfl ?c1 ?c2 ?c3 ?c4 ?c5 ?_)
      case c1 =>
        intro j u hj
        match j, hj with
        | 0, hj => simp at hj; subst hj; exact hnew.out.cell 0
      case c2 => intro u hu; simp at hu; subst hu; rfl
      case c3 => unfold maxLen; omega
      case c4 => omega
      case c5 => exact HB1.out.size
      intro v' w2 hown' hgrow _
      have HO := Lib.hid (show OwnT w2 w.heap.size v' (fun i => qt (c i : Rat)) (k + 1) from by unfold OwnT; rw [txl_succ]; exact hown')
      have HB2 := Lib.hid (HB1.out.grown hgrow HB1.out.size (fun k hk => (World.ownsRow.lt HV1.out k hk).1))
      clear hown' hgrow
      go_wp2_with fail
      go_roundg (n - (k + 1))
      case measure => omega
      case rel => exact ⟨k + 1, by go_num, by omega, rfl, HO.out, HB2.out⟩
    · have hkn : k = n := by omega
      subst hkn
      have HV := Lib.hid hv; have HB := Lib.hid hb
      clear hv hb
      go_wp2_with fail
      go_ret
      exact ⟨_, rfl, HV.out, HB.out⟩
end Go.Proofs.YtbpegjgpdgeadaaGreatDoor
namespace Go.Proofs.YtbpegjgpdgeadaaGreatDoor
open Go Go.RowKit Metro
open Go.Lib (nDigits decDigits)

/-- Whether n texts are equal. -/
def EqualR (ss tt : Nat → ByteArray) (n : Nat) (e : Ending) : Prop := ∃ b : Bool, (b = true ↔ ∀ i, i < n → ss i = tt i) ∧ e = .returned (.bool b)

set_option maxHeartbeats 1000000 in
set_option maxRecDepth 100000 in
theorem equal_any (n ca cb ga gb : Nat) (ss tt : Nat → ByteArray) (w : World) (hn : n ≤ 100000) (ha : TextsAt w ga ss n) (hb : TextsAt w gb tt n) :
    Calls Tryz.prog 31 #[.slice (some ⟨ga, 0, none⟩) n ca, .slice (some ⟨gb, 0, none⟩) n cb] w fun e w' => EqualR ss tt n e ∧ Below w.heap.size w w' := by
  have HA := Lib.hid ha; have HB := Lib.hid hb
  clear ha hb
  go_enter Tryz.func31, Tryz.ntmps31
  go_wp2_with fail
  go_loopg [5, 13] n (fun d _ i wr => ∃ k : Nat, i = .int .i64 k ∧ k ≤ n ∧ d = n - k ∧ (∀ i, i < k → ss i = tt i) ∧ Below w.heap.size w wr)
  case atStart => exact ⟨0, rfl, Nat.zero_le _, rfl, fun i hi => absurd hi (Nat.not_lt_zero i), Below.refl _ _⟩
  case round =>
    obtain ⟨k, rfl, hk, rfl, hz, hbw⟩ := hrel
    have HZ := Lib.hid hz; have HBw := Lib.hid hbw
    clear hz hbw
    by_cases hlt : k < n
    · have c1 := HA.out k hlt
      have c2 := HB.out k hlt
      have d1 := (HBw.out.cell (p := ⟨ga, k, none⟩) (World.block_lt_of_cell? w _ c1)).trans c1
      have d2 := (HBw.out.cell (p := ⟨gb, k, none⟩) (World.block_lt_of_cell? w _ c2)).trans c2
      clear c1 c2
      by_cases he : ss k = tt k
      · go_wp2_with fail
        go_quiet (fail)
        go_wp2_with fail
        go_roundg (n - (k + 1))
        case measure => omega
        case rel =>
          refine ⟨k + 1, by go_num, by omega, rfl, fun i hi => ?_, HBw.out.trans (below_drewN _ wr _)⟩
          by_cases e : i = k
          · rw [e]; exact he
          · exact HZ.out i (by omega)
      · have HR : Hid (¬ ∀ i, i < n → ss i = tt i) := Lib.hid fun h => he (h k hlt)
        have hne : ((ss k).toList == (tt k).toList) = false := by
          rw [beq_eq_false_iff_ne, Lib.toList_data, Lib.toList_data]
          exact fun h => he (ba_ext h)
        clear he
        go_wp2_with fail
        go_quiet (fail)
        go_wp2_with fail
        go_ret
        exact ⟨⟨false, ⟨fun h => (Bool.false_ne_true h).elim, fun h => absurd h HR.out⟩, rfl⟩, HBw.out.trans (below_drewN _ wr _)⟩
    · have HR : Hid (∀ i, i < n → ss i = tt i) := Lib.hid fun i hi => HZ.out i (by omega)
      go_wp2_with fail
      go_ret
      exact ⟨⟨true, ⟨fun _ => HR.out, fun _ => rfl⟩, rfl⟩, HBw.out⟩

set_option maxHeartbeats 1000000 in
set_option maxRecDepth 100000 in
/-- The coefficients of a coordinate of a right point. -/
theorem formOk_any (k : Nat) (hk : k < 3) (x y z : Int) (w : World) (hE : Env w) (hp : okP x y z = true) :
    Calls Tryz.prog 27 #[.int .i64 (k : Nat), .agg #[.int .i64 x, .int .i64 y, .int .i64 z]] w fun e w' => ∃ v, e = .returned (.tuple #[v, .int .i64 0]) ∧ OwnT w' w.heap.size v (fun i => qt (frm x y z k i : Rat)) 6 ∧ Below w.heap.size w w' := by
  have hpp := okP_parts hp
  have CG := Lib.hid (fun w => given_any (k : Nat) x y z w)
  rw [if_pos ⟨by omega, by omega⟩, show errP x y z = 0 from by unfold errP; rw [hp]; rfl] at CG
  have CF : Hid (∀ w, Calls Tryz.prog 95 #[.int .i64 (k : Nat), .agg #[.int .i64 x, .int .i64 y, .int .i64 z]] w fun E w' => E = .returned (.agg #[.int .i64 (frm x y z k 0), .int .i64 (frm x y z k 1), .int .i64 (frm x y z k 2), .int .i64 (frm x y z k 3), .int .i64 (frm x y z k 4), .int .i64 (frm x y z k 5)]) ∧ Below w.heap.size w w') := Lib.hid (fun w => form_any k hk x y z w hpp.1 hpp.2.1 hpp.2.2)
  have CH : Hid (∀ g w, Env w → Blk w g #[.int .i64 (frm x y z k 0), .int .i64 (frm x y z k 1), .int .i64 (frm x y z k 2), .int .i64 (frm x y z k 3), .int .i64 (frm x y z k 4), .int .i64 (frm x y z k 5)] 134 → Calls Tryz.prog 104 #[.slice (some ⟨g, 0, none⟩) 6 6] w fun e w' => ∃ v, e = .returned v ∧ OwnT w' w.heap.size v (fun i => qt (frm x y z k i : Rat)) 6 ∧ Below w.heap.size w w') := Lib.hid (fun g w hE h =>
    wholes_any 6 g (frm x y z k) w hE (by decide) (fun i hi => by
      rw [h.cell]
      match i, hi with
      | 0, _ => rfl
      | 1, _ => rfl
      | 2, _ => rfl
      | 3, _ => rfl
      | 4, _ => rfl
      | 5, _ => rfl) (fun i _ => by have := frm_small hp k i; omega))
  have HE := Lib.hid hE
  clear hE hp hpp hk
  obtain ⟨K, hK⟩ : ∃ K : Int, K = (k : Nat) := ⟨_, rfl⟩
  rw [← hK] at CG CF ⊢
  clear hK
  have HB0 := Lib.hid (below_one w (.cells #[.int .i64 x, .int .i64 y, .int .i64 z] 27))
  have HP0 := Lib.hid (blk_new w #[.int .i64 x, .int .i64 y, .int .i64 z] 27)
  go_enter Tryz.func27, Tryz.ntmps27
  go_wp2_with fail
  refine (CG.out _).mono ?_
  rintro e w1 ⟨rfl, hb1⟩
  have HB1 := Lib.hid (HB0.out.trans (hb1.mono HB0.out.size)); have HP1 := Lib.hid (HP0.out.later hb1)
  clear hb1
  have p0 := HP1.out.cell 0; have p1 := HP1.out.cell 1; have p2 := HP1.out.cell 2
  go_wp2_with fail
  refine (CF.out _).mono ?_
  rintro e w2 ⟨rfl, hb2⟩
  have HB2 := Lib.hid (HB1.out.trans (hb2.mono HB1.out.size))
  clear hb2 p0 p1 p2
  go_wp2_with fail
  refine (CH.out _ _ ?_ (blk_new _ _ _)).mono ?_
  · exact HE.out.below (HB2.out.alloc HB2.out.size _)
  rintro e w3 ⟨v, rfl, hv, hb3⟩
  have HV := Lib.hid hv
  have HB3 := Lib.hid ((HB2.out.alloc HB2.out.size (.cells #[.int .i64 (frm x y z k 0), .int .i64 (frm x y z k 1), .int .i64 (frm x y z k 2), .int .i64 (frm x y z k 3), .int .i64 (frm x y z k 4), .int .i64 (frm x y z k 5)] 134)).trans (hb3.mono (by have := HB2.out.size; simp; omega)))
  have hle : w.heap.size ≤ (w2.alloc (.cells #[.int .i64 (frm x y z k 0), .int .i64 (frm x y z k 1), .int .i64 (frm x y z k 2), .int .i64 (frm x y z k 3), .int .i64 (frm x y z k 4), .int .i64 (frm x y z k 5)] 134)).heap.size := by have := HB2.out.size; simp; omega
  have HL := Lib.hid hle
  clear hv hb3 hle
  go_wp2_with fail
  go_ret2
  refine ⟨v, rfl, ⟨HV.out.1, ?_⟩, HB3.out⟩
  rcases HV.out.2 with h | ⟨g, cap, cur, a1, a2, a3⟩
  · exact .inl h
  · exact .inr ⟨g, cap, cur, a1, Nat.le_trans HL.out a2, a3⟩
end Go.Proofs.YtbpegjgpdgeadaaGreatDoor
