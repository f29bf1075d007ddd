/- A part of the proof: TorA. Conditions: none. -/
import Derived.Test.YtbpegjgpdgeadaaGreatDoorRefC
import Derived.Test.YtbpegjgpdgeadaaGreatDoorPaperTor
import Derived.Handy
namespace Go.Proofs.YtbpegjgpdgeadaaGreatDoor
open Go Go.RowKit Metro
open Go.Lib (nDigits decDigits)

/-- Six texts as a value. -/
def six (a b c d e f : ByteArray) : Value := .agg #[.string a, .string b, .string c, .string d, .string e, .string f]

theorem below_two (w : World) (o p : Obj) : Below w.heap.size w ((w.alloc o).alloc p) := ((Below.refl _ _).alloc (Nat.le_refl _) _).alloc (by simp) _

set_option maxHeartbeats 600000 in
set_option maxRecDepth 100000 in
theorem numbers_any (a b c d e f : ByteArray) (w : World) :
    Calls Tryz.prog 96 #[.agg #[.string a, .string b, .string c, .string d, .string e, .string f]] w fun E w' => E = .returned (.agg #[.string a, .string b, .string c, .string d, .string e, .string f]) ∧ Below w.heap.size w w' := by
  go_enter Tryz.func96, Tryz.ntmps96
  go_wp2_with fail
  exact bodyPost_ret (by simp [results, Tryz.results96, go_sem]; try rfl) rfl ⟨rfl, below_two _ _ _⟩

set_option maxHeartbeats 600000 in
set_option maxRecDepth 100000 in
theorem coordinates_any (x y z : Int) (w : World) :
    Calls Tryz.prog 93 #[.agg #[.int .i64 x, .int .i64 y, .int .i64 z]] w fun E w' => E = .returned (.agg #[.int .i64 x, .int .i64 y, .int .i64 z]) ∧ Below w.heap.size w w' := by
  go_enter Tryz.func93, Tryz.ntmps93
  go_wp2_with fail
  exact bodyPost_ret (by simp [results, Tryz.results93, go_sem]; try rfl) rfl ⟨rfl, below_two _ _ _⟩

/-- The coefficients as cells. -/
def frmCells (x y z : Int) (k : Nat) : Array Value := #[.int .i64 (frm x y z k 0), .int .i64 (frm x y z k 1), .int .i64 (frm x y z k 2), .int .i64 (frm x y z k 3), .int .i64 (frm x y z k 4), .int .i64 (frm x y z k 5)]

set_option maxHeartbeats 1000000 in
set_option maxRecDepth 100000 in
theorem form_any (k : Nat) (hk : k < 3) (x y z : Int) (w : World) (hx : -100000 ≤ x ∧ x ≤ 100000) (hy : -100000 ≤ y ∧ y ≤ 100000) (hz : -100000 ≤ z ∧ z ≤ 100000) :
    Calls Tryz.prog 95 #[.int .i64 (k : Nat), .agg #[.int .i64 x, .int .i64 y, .int .i64 z]] w fun E w' => E = .returned (.agg (frmCells x y z k)) ∧ Below w.heap.size w w' := by
  have hk' : k = 0 ∨ k = 1 ∨ k = 2 := by omega
  rcases hk' with rfl | rfl | rfl
  all_goals
    go_enter Tryz.func95, Tryz.ntmps95
    go_wp2
    exact bodyPost_ret (by simp [results, Tryz.results95, go_sem]; try rfl) rfl ⟨rfl, by go_grown⟩
end Go.Proofs.YtbpegjgpdgeadaaGreatDoor
namespace Go.Proofs.YtbpegjgpdgeadaaGreatDoor
open Go Go.RowKit Metro
open Go.Lib (nDigits decDigits)

/-- A coordinate is in its range. -/
def inC (x : Int) : Bool := decide (-100000 ≤ x ∧ x ≤ 100000)
theorem inC_iff {x : Int} : inC x = true ↔ -100000 ≤ x ∧ x ≤ 100000 := by simp [inC]
/-- The point is right. -/
def okP (x y z : Int) : Bool := inC x && inC y && inC z

set_option maxHeartbeats 600000 in
theorem within_any (x : Int) (w : World) :
    Calls Tryz.prog 212 #[.int .i64 x] w fun E w' => E = .returned (.bool (inC x)) ∧ w' = w := by
  by_cases h1 : -100000 ≤ x
  · by_cases h2 : x ≤ 100000
    · have H : Hid (inC x = true) := Lib.hid (by simp [inC, h1, h2])
      go_enter Tryz.func212, Tryz.ntmps212
      go_wp2
      go_ret
      exact ⟨by rw [H.out]; rfl, rfl⟩
    · have H : Hid (inC x = false) := Lib.hid (by simp [inC]; omega)
      go_enter Tryz.func212, Tryz.ntmps212
      go_wp2
      go_ret
      exact ⟨by rw [H.out]; rfl, rfl⟩
  · have H : Hid (inC x = false) := Lib.hid (by simp [inC]; omega)
    go_enter Tryz.func212, Tryz.ntmps212
    go_wp2
    go_ret
    exact ⟨by rw [H.out]; rfl, rfl⟩

theorem below_one (w : World) (o : Obj) : Below w.heap.size w (w.alloc o) := (Below.refl _ _).alloc (Nat.le_refl _) _

set_option maxHeartbeats 600000 in
set_option maxRecDepth 100000 in
theorem high_any (x y z : Int) (w : World) :
    Calls Tryz.prog 172 #[.agg #[.int .i64 x, .int .i64 y, .int .i64 z]] w fun E w' => E = .returned (.bool (okP x y z)) ∧ Below w.heap.size w w' := by
  have C := Lib.hid within_any
  obtain ⟨a, ha⟩ : ∃ a, a = inC x := ⟨_, rfl⟩
  obtain ⟨b, hb⟩ : ∃ b, b = inC y := ⟨_, rfl⟩
  obtain ⟨c, hc⟩ : ∃ c, c = inC z := ⟨_, rfl⟩
  have H : Hid (okP x y z = (a && b && c)) := Lib.hid (by rw [ha, hb, hc]; rfl)
  have CA := Lib.hid (fun w => within_any x w)
  have CB := Lib.hid (fun w => within_any y w)
  have CC := Lib.hid (fun w => within_any z w)
  rw [← ha] at CA
  rw [← hb] at CB
  rw [← hc] at CC
  clear ha hb hc C
  cases a with
  | false =>
    go_enter Tryz.func172, Tryz.ntmps172
    go_wp2_with fail
    refine (CA.out _).mono ?_
    rintro e w1 ⟨rfl, rfl⟩
    go_wp2_with fail
    go_ret
    exact ⟨by rw [H.out]; rfl, below_one _ _⟩
  | true =>
    cases b with
    | false =>
      go_enter Tryz.func172, Tryz.ntmps172
      go_wp2_with fail
      refine (CA.out _).mono ?_
      rintro e w1 ⟨rfl, rfl⟩
      go_wp2_with fail
      refine (CB.out _).mono ?_
      rintro e w1 ⟨rfl, rfl⟩
      go_wp2_with fail
      go_ret
      exact ⟨by rw [H.out]; rfl, below_one _ _⟩
    | true =>
      go_enter Tryz.func172, Tryz.ntmps172
      go_wp2_with fail
      refine (CA.out _).mono ?_
      rintro e w1 ⟨rfl, rfl⟩
      go_wp2_with fail
      refine (CB.out _).mono ?_
      rintro e w1 ⟨rfl, rfl⟩
      go_wp2_with fail
      refine (CC.out _).mono ?_
      rintro e w1 ⟨rfl, rfl⟩
      go_wp2_with fail
      go_ret
      exact ⟨by rw [H.out]; rfl, below_one _ _⟩
end Go.Proofs.YtbpegjgpdgeadaaGreatDoor
namespace Go.Proofs.YtbpegjgpdgeadaaGreatDoor
open Go Go.RowKit Metro
open Go.Lib (nDigits decDigits)

/-- The error of a point. -/
def errP (x y z : Int) : Int := if okP x y z then 0 else 2

set_option maxHeartbeats 1000000 in
set_option maxRecDepth 100000 in
theorem allSpots_any (N : Nat) (hN : N = 1) (x y z : Int) (g : Nat) (w : World) (c0 : w.cell? ⟨g, 0, none⟩ = some (.int .i64 x)) (c1 : w.cell? ⟨g, 1, none⟩ = some (.int .i64 y)) (c2 : w.cell? ⟨g, 2, none⟩ = some (.int .i64 z)) :
    Calls Tryz.prog 211 #[.func (.func 172) #[] #[], .slice (some ⟨g, 0, none⟩) N N] w fun E w' => E = .returned (.int .i64 (errP x y z)) ∧ Below w.heap.size w w' := by
  have C := Lib.hid (fun w => high_any x y z w)
  have HN := Lib.hid hN
  obtain ⟨ok, hok⟩ : ∃ ok, ok = okP x y z := ⟨_, rfl⟩
  have H : Hid (errP x y z = if ok then 0 else 2) := Lib.hid (by rw [hok]; rfl)
  rw [← hok] at C
  clear hok hN
  go_enter Tryz.func211, Tryz.ntmps211
  go_wp2_with fail
  go_loopg [6, 9] N (fun d _ i wr => (i = .int .i64 ((0 : Nat) : Int) ∧ d = N ∧ wr = w) ∨ (i = .int .i64 N ∧ d = 0 ∧ ok = true ∧ Below w.heap.size w wr))
  case atStart => exact .inl ⟨rfl, rfl, rfl⟩
  case round =>
    rcases hrel with ⟨rfl, rfl, rfl⟩ | ⟨rfl, rfl, hok, hb⟩
    · have hp : 0 < (gk : Int) := by have := HN.out; omega
      cases ok with
      | true =>
        go_wp2_with fail
        refine (C.out _).mono ?_
        rintro e w2 ⟨rfl, hb2⟩
        have HB1 := Lib.hid (((Below.refl wr.heap.size wr).alloc (Nat.le_refl _) (.cells #[.int .i64 x, .int .i64 y, .int .i64 z] 27)).trans (hb2.mono (by simp)))
        go_wp2_with fail
        go_roundg 0
        case measure => omega
        case rel => exact .inr ⟨by rw [HN.out]; rfl, rfl, by first | rfl | trivial, HB1.out⟩
      | false =>
        go_wp2_with fail
        refine (C.out _).mono ?_
        rintro e w2 ⟨rfl, hb2⟩
        have HB1 := Lib.hid (((Below.refl wr.heap.size wr).alloc (Nat.le_refl _) (.cells #[.int .i64 x, .int .i64 y, .int .i64 z] 27)).trans (hb2.mono (by simp)))
        go_wp2_with fail
        go_ret
        exact ⟨by rw [H.out]; rfl, HB1.out⟩
    · subst hok
      have HB := Lib.hid hb
      clear hb
      have hnn : ¬ (N : Int) < N := by omega
      go_wp2_with fail
      go_ret
      exact ⟨by rw [H.out]; rfl, HB.out⟩

set_option maxHeartbeats 1000000 in
set_option maxRecDepth 100000 in
theorem spotN_any (N : Nat) (hN : N = 1) (x y z : Int) (g : Nat) (w : World) (c0 : w.cell? ⟨g, 0, none⟩ = some (.int .i64 x)) (c1 : w.cell? ⟨g, 1, none⟩ = some (.int .i64 y)) (c2 : w.cell? ⟨g, 2, none⟩ = some (.int .i64 z)) :
    Calls Tryz.prog 92 #[.slice (some ⟨g, 0, none⟩) N N] w fun E w' => E = .returned (.int .i64 (errP x y z)) ∧ Below w.heap.size w w' := by
  have C := Lib.hid (allSpots_any N hN x y z g w c0 c1 c2)
  have h64 : ¬ 64 < (N : Int) := by omega
  clear hN c0 c1 c2
  go_enter Tryz.func92, Tryz.ntmps92
  go_wp2_with fail
  go_at_call 171
  go_enter Tryz.func171, Tryz.ntmps171
  go_wp2_with fail
  refine C.out.mono ?_
  rintro e w1 ⟨rfl, hb1⟩
  go_wp2_with fail
  go_ret
  exact ⟨rfl, hb1⟩

/-- A list with one point. -/
theorem spot1_any (x y z : Int) (T g : Nat) (w : World) (hh : w.heap[g]? = some (.cells #[.int .i64 x, .int .i64 y, .int .i64 z] T (0, 0))) :
    Calls Tryz.prog 92 #[.slice (some ⟨g, 0, none⟩) 1 1] w fun E w' => E = .returned (.int .i64 (errP x y z)) ∧ Below w.heap.size w w' := by
  refine (spotN_any 1 rfl x y z g _ ?_ ?_ ?_).mono ?_
  · rw [Lib.cell_of_heap hh]; rfl
  · rw [Lib.cell_of_heap hh]; rfl
  · rw [Lib.cell_of_heap hh]; rfl
  · rintro e w' ⟨rfl, hb⟩
    exact ⟨rfl, hb⟩

/-- What is new behind one new block. -/
theorem alloc2_new (w : World) (o : Obj) (p : Obj) : ((w.alloc o).alloc p).heap[w.heap.size + 1]? = some p := by
  have := heap_alloc_new (w.alloc o) p
  rwa [show (w.alloc o).heap.size = w.heap.size + 1 from by simp] at this

set_option maxHeartbeats 1000000 in
set_option maxRecDepth 100000 in
/-- The error of an axis and a point. -/
theorem given_any (k : Int) (x y z : Int) (w : World) :
    Calls Tryz.prog 103 #[.int .i64 k, .agg #[.int .i64 x, .int .i64 y, .int .i64 z]] w fun E w' => E = .returned (.int .i64 (if 0 ≤ k ∧ k < 3 then errP x y z else 1)) ∧ Below w.heap.size w w' := by
  have C := Lib.hid (spot1_any x y z 27)
  have A := Lib.hid alloc2_new
  by_cases h0 : k < 0
  · have H : Hid ((if 0 ≤ k ∧ k < 3 then errP x y z else 1) = 1) := Lib.hid (if_neg (by omega))
    rw [H.out]
    clear H
    go_enter Tryz.func103, Tryz.ntmps103
    go_wp2_with fail
    go_ret
    exact ⟨rfl, below_one _ _⟩
  · by_cases h3 : 3 ≤ k
    · have H : Hid ((if 0 ≤ k ∧ k < 3 then errP x y z else 1) = 1) := Lib.hid (if_neg (by omega))
      rw [H.out]
      clear H
      go_enter Tryz.func103, Tryz.ntmps103
      go_wp2_with fail
      go_ret
      exact ⟨rfl, below_one _ _⟩
    · have H : Hid ((if 0 ≤ k ∧ k < 3 then errP x y z else 1) = errP x y z) := Lib.hid (if_pos (by omega))
      rw [H.out]
      clear H
      go_enter Tryz.func103, Tryz.ntmps103
      go_wp2_with fail
      refine (C.out _ _ (A.out _ _ _)).mono ?_
      rintro e w1 ⟨rfl, hb1⟩
      have HB := Lib.hid ((below_two w (.cells #[.int .i64 x, .int .i64 y, .int .i64 z] 27) (.cells #[.int .i64 x, .int .i64 y, .int .i64 z] 27)).trans (hb1.mono (by simp; omega)))
      clear hb1
      go_wp2_with fail
      go_ret
      exact ⟨rfl, HB.out⟩
end Go.Proofs.YtbpegjgpdgeadaaGreatDoor
namespace Go.Proofs.YtbpegjgpdgeadaaGreatDoor
open Go Go.RowKit Metro
open Go.Lib (nDigits decDigits)

/-- The first error of texts. -/
def fe (ss : Nat → ByteArray) : Nat → Nat
  | 0 => 0
  | n + 1 => if fe ss n = 0 then chkQ (ss n).data.toList else fe ss n

theorem fe_zero {ss : Nat → ByteArray} : ∀ {n}, fe ss n = 0 ↔ ∀ i, i < n → chkQ (ss i).data.toList = 0 := by
  intro n
  induction n with
  | zero => exact ⟨fun _ i hi => absurd hi (Nat.not_lt_zero i), fun _ => rfl⟩
  | succ n ih =>
    rw [fe]
    by_cases h : fe ss n = 0
    · rw [if_pos h]
      constructor
      · intro h2 i hi
        by_cases e : i = n
        · rw [e]; exact h2
        · exact ih.1 h i (by omega)
      · intro h2; exact h2 n (by omega)
    · rw [if_neg h]
      constructor
      · intro h2; exact absurd h2 h
      · intro h2; exact absurd (ih.2 fun i hi => h2 i (by omega)) h

theorem fe_at {ss : Nat → ByteArray} {k : Nat} (hz : ∀ i, i < k → chkQ (ss i).data.toList = 0) (hk : chkQ (ss k).data.toList ≠ 0) : ∀ {n}, k < n → fe ss n = chkQ (ss k).data.toList := by
  intro n
  induction n with
  | zero => intro h; exact absurd h (Nat.not_lt_zero k)
  | succ n ih =>
    intro h
    rw [fe]
    by_cases e : k = n
    · subst e; rw [if_pos (fe_zero.2 hz)]
    · rw [ih (by omega), if_neg hk]

theorem fe_le (ss : Nat → ByteArray) : ∀ n, fe ss n = 0 ∨ fe ss n = 3 ∨ fe ss n = 11 := by
  intro n
  induction n with
  | zero => exact .inl rfl
  | succ n ih => rw [fe]; split; exact chkQ_le _; exact ih

theorem fe_congr {ss tt : Nat → ByteArray} : ∀ {n}, (∀ i, i < n → ss i = tt i) → fe ss n = fe tt n := by
  intro n
  induction n with
  | zero => intro _; rfl
  | succ n ih => intro h; rw [fe, fe, ih fun i hi => h i (by omega), h n (by omega)]

/-- n texts lie in block g from place 0 on. -/
def TextsAt (w : World) (g : Nat) (ss : Nat → ByteArray) (n : Nat) : Prop := ∀ i, i < n → w.cell? ⟨g, i, none⟩ = some (.string (ss i))

set_option maxHeartbeats 1000000 in
set_option maxRecDepth 100000 in
theorem canonical_any (g n : Nat) (ss : Nat → ByteArray) (w : World) (hE : Env w) (hn : n ≤ 1000) (hc : TextsAt w g ss n) (hs : ∀ i, i < n → (ss i).size ≤ 4000000000) :
    Calls Tryz.prog 100 #[.slice (some ⟨g, 0, none⟩) n n] w fun e w' => e = .returned (.int .i64 (fe ss n : Nat)) ∧ Below w.heap.size w w' := by
  have HC := Lib.hid hc; have HE := Lib.hid hE; have HS := Lib.hid hs
  clear hc hE hs
  go_enter Tryz.func100, Tryz.ntmps100
  go_wp2
  go_loopg [4, 5, 8] n (fun d x e i wr => ∃ k : Nat, i = .int .i64 k ∧ k ≤ n ∧ d = n - k ∧ (∀ i, i < k → chkQ (ss i).data.toList = 0) ∧ Below w.heap.size w wr)
  case atStart => exact ⟨0, rfl, by omega, rfl, fun i hi => absurd hi (Nat.not_lt_zero i), Below.refl _ _⟩
  case round =>
    obtain ⟨k, rfl, hk, rfl, hz, hb⟩ := hrel
    have HZ := Lib.hid hz
    clear hz
    by_cases hlt : k < n
    · have hcell := HC.out k hlt
      have hcw : wr.cell? ⟨g, k, none⟩ = some (.string (ss k)) := (hb.cell (p := ⟨g, k, none⟩) (World.block_lt_of_cell? w _ hcell)).trans hcell
      have HB := Lib.hid hb
      have HE5 := Lib.hid (HE.out.below hb)
      have C := Lib.hid (ratCheck_any (ss k) wr (HS.out k hlt) HE5.out)
      obtain ⟨c, hcv⟩ : ∃ c, c = chkQ (ss k).data.toList := ⟨_, rfl⟩
      rw [← hcv] at C
      have HV := Lib.hid hcv
      clear hb hcell hcv
      by_cases h0 : c = 0
      · subst h0
        go_wp2_with fail
        refine C.out.mono ?_
        rintro e w1 ⟨rfl, hb1⟩
        have HB1 := Lib.hid (HB.out.trans (hb1.mono HB.out.size))
        clear hb1
        go_wp2_with fail
        go_roundg (n - (k + 1))
        case measure => omega
        case rel =>
          refine ⟨k + 1, by go_num, by omega, rfl, fun i hi => ?_, HB1.out⟩
          by_cases e : i = k
          · rw [e]; exact HV.out.symm
          · exact HZ.out i (by omega)
      · have hne : ((c : Int) == 0) = false := by rw [beq_eq_false_iff_ne]; omega
        have hres : fe ss n = c := by rw [HV.out]; exact fe_at HZ.out (by rw [← HV.out]; exact h0) hlt
        have HR := Lib.hid hres
        clear hres h0
        go_wp2_with fail
        refine C.out.mono ?_
        rintro e w1 ⟨rfl, hb1⟩
        have HB1 := Lib.hid (HB.out.trans (hb1.mono HB.out.size))
        clear hb1
        go_wp2_with fail
        go_ret
        exact ⟨by rw [HR.out]; rfl, HB1.out⟩
    · have HB := Lib.hid hb; clear hb
      have hres : fe ss n = 0 := fe_zero.2 fun i hi => HZ.out i (by omega)
      have HR := Lib.hid hres
      clear hres
      go_wp2_with fail
      go_ret
      exact ⟨by rw [HR.out]; rfl, HB.out⟩
end Go.Proofs.YtbpegjgpdgeadaaGreatDoor
namespace Go.Proofs.YtbpegjgpdgeadaaGreatDoor
open Go Go.RowKit Metro
open Go.Lib (nDigits decDigits)

set_option maxHeartbeats 1000000 in
set_option maxRecDepth 100000 in
theorem matNumbers_any (g n : Nat) (ss : Nat → ByteArray) (w : World) (hE : Env w) (hn : n ≤ 1000) (hc : TextsAt w g ss n) (hs : ∀ i, i < n → (ss i).size ≤ 4000000000) :
    Calls Tryz.prog 147 #[.slice (some ⟨g, 0, none⟩) n n] w fun e w' => e = .returned (.int .i64 (fe ss n : Nat)) ∧ Below w.heap.size w w' := by
  have HC := Lib.hid hc; have HE := Lib.hid hE; have HS := Lib.hid hs
  clear hc hE hs
  go_enter Tryz.func147, Tryz.ntmps147
  go_wp2
  go_loopg [4, 5, 8] n (fun d x e i wr => ∃ k : Nat, i = .int .i64 k ∧ k ≤ n ∧ d = n - k ∧ (∀ i, i < k → chkQ (ss i).data.toList = 0) ∧ Below w.heap.size w wr)
  case atStart => exact ⟨0, rfl, by omega, rfl, fun i hi => absurd hi (Nat.not_lt_zero i), Below.refl _ _⟩
  case round =>
    obtain ⟨k, rfl, hk, rfl, hz, hb⟩ := hrel
    have HZ := Lib.hid hz
    clear hz
    by_cases hlt : k < n
    · have hcell := HC.out k hlt
      have hcw : wr.cell? ⟨g, k, none⟩ = some (.string (ss k)) := (hb.cell (p := ⟨g, k, none⟩) (World.block_lt_of_cell? w _ hcell)).trans hcell
      have HB := Lib.hid hb
      have HE5 := Lib.hid (HE.out.below hb)
      have C := Lib.hid (ratCheck_any (ss k) wr (HS.out k hlt) HE5.out)
      obtain ⟨c, hcv⟩ : ∃ c, c = chkQ (ss k).data.toList := ⟨_, rfl⟩
      rw [← hcv] at C
      have HV := Lib.hid hcv
      clear hb hcell hcv
      by_cases h0 : c = 0
      · subst h0
        go_wp2_with fail
        refine C.out.mono ?_
        rintro e w1 ⟨rfl, hb1⟩
        have HB1 := Lib.hid (HB.out.trans (hb1.mono HB.out.size))
        clear hb1
        go_wp2_with fail
        go_roundg (n - (k + 1))
        case measure => omega
        case rel =>
          refine ⟨k + 1, by go_num, by omega, rfl, fun i hi => ?_, HB1.out⟩
          by_cases e : i = k
          · rw [e]; exact HV.out.symm
          · exact HZ.out i (by omega)
      · have hne : ((c : Int) == 0) = false := by rw [beq_eq_false_iff_ne]; omega
        have hres : fe ss n = c := by rw [HV.out]; exact fe_at HZ.out (by rw [← HV.out]; exact h0) hlt
        have HR := Lib.hid hres
        clear hres h0
        go_wp2_with fail
        refine C.out.mono ?_
        rintro e w1 ⟨rfl, hb1⟩
        have HB1 := Lib.hid (HB.out.trans (hb1.mono HB.out.size))
        clear hb1
        go_wp2_with fail
        go_ret
        exact ⟨by rw [HR.out]; rfl, HB1.out⟩
    · have HB := Lib.hid hb; clear hb
      have hres : fe ss n = 0 := fe_zero.2 fun i hi => HZ.out i (by omega)
      have HR := Lib.hid hres
      clear hres
      go_wp2_with fail
      go_ret
      exact ⟨by rw [HR.out]; rfl, HB.out⟩
set_option maxHeartbeats 1000000 in
set_option maxRecDepth 100000 in
theorem refNumbers_any (g n : Nat) (ss : Nat → ByteArray) (w : World) (hn : n ≤ 1000) (hc : TextsAt w g ss n) (hs : ∀ i, i < n → (ss i).size ≤ 90000) :
    Calls Tryz.prog 73 #[.slice (some ⟨g, 0, none⟩) n n] w fun e w' => e = .returned (.int .i64 (fe ss n : Nat)) ∧ Below w.heap.size w w' := by
  have HC := Lib.hid hc; have HS := Lib.hid hs
  clear hc hs
  go_enter Tryz.func73, Tryz.ntmps73
  go_wp2
  go_loopg [3, 4] n (fun d i e wr => ∃ k : Nat, i = .int .i64 k ∧ k ≤ n ∧ d = n - k ∧ (∀ i, i < k → chkQ (ss i).data.toList = 0) ∧ Below w.heap.size w wr)
  case atStart => exact ⟨0, rfl, by omega, rfl, fun i hi => absurd hi (Nat.not_lt_zero i), Below.refl _ _⟩
  case round =>
    obtain ⟨k, rfl, hk, rfl, hz, hb⟩ := hrel
    have HZ := Lib.hid hz
    clear hz
    by_cases hlt : k < n
    · have hcell := HC.out k hlt
      have hcw : wr.cell? ⟨g, k, none⟩ = some (.string (ss k)) := (hb.cell (p := ⟨g, k, none⟩) (World.block_lt_of_cell? w _ hcell)).trans hcell
      have HB := Lib.hid hb
      have C := Lib.hid (refQCheck_any (ss k) wr (HS.out k hlt))
      obtain ⟨c, hcv⟩ : ∃ c, c = chkQ (ss k).data.toList := ⟨_, rfl⟩
      rw [← hcv] at C
      have HV := Lib.hid hcv
      clear hb hcell hcv
      by_cases h0 : c = 0
      · subst h0
        go_wp2_with fail
        refine C.out.mono ?_
        rintro e w1 ⟨rfl, hb1⟩
        have HB1 := Lib.hid (HB.out.trans (hb1.mono HB.out.size))
        clear hb1
        go_wp2_with fail
        go_roundg (n - (k + 1))
        case measure => omega
        case rel =>
          refine ⟨k + 1, by go_num, by omega, rfl, fun i hi => ?_, HB1.out⟩
          by_cases e : i = k
          · rw [e]; exact HV.out.symm
          · exact HZ.out i (by omega)
      · have hne : ((c : Int) == 0) = false := by rw [beq_eq_false_iff_ne]; omega
        have hres : fe ss n = c := by rw [HV.out]; exact fe_at HZ.out (by rw [← HV.out]; exact h0) hlt
        have HR := Lib.hid hres
        clear hres h0
        go_wp2_with fail
        refine C.out.mono ?_
        rintro e w1 ⟨rfl, hb1⟩
        have HB1 := Lib.hid (HB.out.trans (hb1.mono HB.out.size))
        clear hb1
        go_wp2_with fail
        go_ret
        exact ⟨by rw [HR.out]; rfl, HB1.out⟩
    · have HB := Lib.hid hb; clear hb
      have hres : fe ss n = 0 := fe_zero.2 fun i hi => HZ.out i (by omega)
      have HR := Lib.hid hres
      clear hres
      go_wp2_with fail
      go_ret
      exact ⟨by rw [HR.out]; rfl, HB.out⟩
/-- Whether n texts are short. -/
def ShortR (ss : Nat → ByteArray) (n : Nat) (e : Ending) : Prop := ∃ b : Bool, (b = true ↔ ∀ i, i < n → (ss i).size ≤ 24) ∧ e = .returned (.bool b)

set_option maxHeartbeats 1000000 in
set_option maxRecDepth 100000 in
theorem refShort_any (g n : Nat) (ss : Nat → ByteArray) (w : World) (hn : n ≤ 40) (hc : TextsAt w g ss n) :
    Calls Tryz.prog 57 #[.slice (some ⟨g, 0, none⟩) n n] w fun e w' => ShortR ss n e ∧ w' = w := by
  have HC := Lib.hid hc
  clear hc
  go_enter Tryz.func57, Tryz.ntmps57
  go_wp2
  go_loopg [3] n (fun d i wr => ∃ k : Nat, i = .int .i64 k ∧ k ≤ n ∧ d = n - k ∧ (∀ i, i < k → (ss i).size ≤ 24) ∧ wr = w)
  case atStart => exact ⟨0, rfl, by omega, rfl, fun i hi => absurd hi (Nat.not_lt_zero i), rfl⟩
  case round =>
    obtain ⟨k, rfl, hk, rfl, hz, rfl⟩ := hrel
    have HZ := Lib.hid hz
    clear hz
    by_cases hlt : k < n
    · have hcw := HC.out k hlt
      by_cases h0 : (ss k).size ≤ 24
      · have h1 : ¬ (24 : Int) < (ss k).size := by omega
        go_wp2_with fail
        go_roundg (n - (k + 1))
        case measure => omega
        case rel =>
          refine ⟨k + 1, by go_num, by omega, rfl, fun i hi => ?_, rfl⟩
          by_cases e : i = k
          · rw [e]; exact h0
          · exact HZ.out i (by omega)
      · have h1 : (24 : Int) < (ss k).size := by omega
        have HR : Hid (¬ ∀ i, i < n → (ss i).size ≤ 24) := Lib.hid fun h => h0 (h k hlt)
        clear h0
        go_wp2_with fail
        go_ret
        exact ⟨⟨false, ⟨fun h => (Bool.false_ne_true h).elim, fun h => absurd h HR.out⟩, rfl⟩, rfl⟩
    · have HR : Hid (∀ i, i < n → (ss i).size ≤ 24) := Lib.hid fun i hi => HZ.out i (by omega)
      have h40 : ¬ (40 : Int) < n := by omega
      go_wp2_with fail
      go_ret
      exact ⟨⟨true, ⟨fun _ => HR.out, fun _ => rfl⟩, rfl⟩, rfl⟩

theorem textsAt_six {w : World} {g T : Nat} {t : Nat → ByteArray} (h : w.heap[g]? = some (.cells #[.string (t 0), .string (t 1), .string (t 2), .string (t 3), .string (t 4), .string (t 5)] T (0, 0))) : TextsAt w g t 6 := by
  intro i hi
  rw [Lib.cell_of_heap h]
  match i, hi with
  | 0, _ => rfl
  | 1, _ => rfl
  | 2, _ => rfl
  | 3, _ => rfl
  | 4, _ => rfl
  | 5, _ => rfl

set_option maxHeartbeats 1000000 in
set_option maxRecDepth 100000 in
/-- Check of a torsor. -/
theorem torCheck_any (t : Nat → ByteArray) (w : World) (hE : Env w) (hs : ∀ i, i < 6 → (t i).size ≤ 4000000000) :
    Calls Tryz.prog 23 #[.agg #[.string (t 0), .string (t 1), .string (t 2), .string (t 3), .string (t 4), .string (t 5)]] w fun e w' => e = .returned (.int .i64 (fe t 6 : Nat)) ∧ Below w.heap.size w w' := by
  have C : Hid (∀ (g T : Nat) (w' : World), Below w.heap.size w w' → w'.heap[g]? = some (.cells #[.string (t 0), .string (t 1), .string (t 2), .string (t 3), .string (t 4), .string (t 5)] T (0, 0)) → Calls Tryz.prog 100 #[.slice (some ⟨g, 0, none⟩) 6 6] w' fun e w'' => e = .returned (.int .i64 (fe t 6 : Nat)) ∧ Below w'.heap.size w' w'') := Lib.hid (fun g T w' hb h => canonical_any g 6 t w' (hE.below hb) (by decide) (textsAt_six h) hs)
  have N := Lib.hid (numbers_any (t 0) (t 1) (t 2) (t 3) (t 4) (t 5))
  clear hE hs
  go_enter Tryz.func23, Tryz.ntmps23
  go_wp2_with fail
  refine (N.out _).mono ?_
  rintro e w1 ⟨rfl, hb1⟩
  have HB1 := Lib.hid ((below_one w (.cells #[.string (t 0), .string (t 1), .string (t 2), .string (t 3), .string (t 4), .string (t 5)] 25)).trans (hb1.mono (by simp)))
  clear hb1
  go_wp2_with fail
  refine (C.out _ _ _ ?_ (heap_alloc_new _ _)).mono ?_
  · exact HB1.out.alloc HB1.out.size _
  rintro e w2 ⟨rfl, hb2⟩
  have HB2 := Lib.hid ((HB1.out.alloc HB1.out.size _).trans (hb2.mono (by have := HB1.out.size; simp; omega)))
  clear hb2
  go_wp2_with fail
  go_ret
  exact ⟨rfl, HB2.out⟩

set_option maxHeartbeats 1000000 in
set_option maxRecDepth 100000 in
theorem refTorNumbers_any (t : Nat → ByteArray) (w : World) :
    Calls Tryz.prog 91 #[.agg #[.string (t 0), .string (t 1), .string (t 2), .string (t 3), .string (t 4), .string (t 5)]] w fun e w' => ∃ g, e = .returned (.slice (some ⟨g, 0, none⟩) 6 6) ∧ w.heap.size ≤ g ∧ TextsAt w' g t 6 ∧ g < w'.heap.size ∧ Below w.heap.size w w' := by
  go_enter Tryz.func91, Tryz.ntmps91
  go_wp2_with fail
  go_ret
  refine ⟨w.heap.size + 1, rfl, by omega, textsAt_six (alloc2_new _ _ _), by simp, below_two _ _ _⟩

theorem TextsAt.below {B : Nat} {w w' : World} {g n : Nat} {ss : Nat → ByteArray} (h : TextsAt w g ss n) (hb : Below B w w') (hB : g < B) : TextsAt w' g ss n := fun i hi => (hb.cell (p := ⟨g, i, none⟩) hB).trans (h i hi)

set_option maxHeartbeats 1000000 in
set_option maxRecDepth 100000 in
theorem refTorCheck_any (t : Nat → ByteArray) (w : World) (hs : ∀ i, i < 6 → (t i).size ≤ 90000) :
    Calls Tryz.prog 24 #[.agg #[.string (t 0), .string (t 1), .string (t 2), .string (t 3), .string (t 4), .string (t 5)]] w fun e w' => e = .returned (.int .i64 (fe t 6 : Nat)) ∧ Below w.heap.size w w' := by
  have C : Hid (∀ (g : Nat) (w' : World), TextsAt w' g t 6 → Calls Tryz.prog 73 #[.slice (some ⟨g, 0, none⟩) 6 6] w' fun e w'' => e = .returned (.int .i64 (fe t 6 : Nat)) ∧ Below w'.heap.size w' w'') := Lib.hid (fun g w' h => refNumbers_any g 6 t w' (by decide) h hs)
  have N := Lib.hid (refTorNumbers_any t)
  clear hs
  go_enter Tryz.func24, Tryz.ntmps24
  go_wp2_with fail
  refine (N.out _).mono ?_
  rintro e w1 ⟨g, rfl, hg, ht, hgl, hb1⟩
  have HB1 := Lib.hid ((below_one w (.cells #[.string (t 0), .string (t 1), .string (t 2), .string (t 3), .string (t 4), .string (t 5)] 25)).trans (hb1.mono (by simp)))
  have HT := Lib.hid ht
  clear hb1 ht hg hgl
  go_wp2_with fail
  refine (C.out _ _ HT.out).mono ?_
  rintro e w2 ⟨rfl, hb2⟩
  have HB2 := Lib.hid (HB1.out.trans (hb2.mono HB1.out.size))
  clear hb2
  go_wp2_with fail
  go_ret
  exact ⟨rfl, HB2.out⟩

set_option maxHeartbeats 1000000 in
set_option maxRecDepth 100000 in
theorem refTorShort_any (t : Nat → ByteArray) (w : World) :
    Calls Tryz.prog 19 #[.agg #[.string (t 0), .string (t 1), .string (t 2), .string (t 3), .string (t 4), .string (t 5)]] w fun e w' => ShortR t 6 e ∧ Below w.heap.size w w' := by
  have C : Hid (∀ (g : Nat) (w' : World), TextsAt w' g t 6 → Calls Tryz.prog 57 #[.slice (some ⟨g, 0, none⟩) 6 6] w' fun e w'' => ShortR t 6 e ∧ w'' = w') := Lib.hid (fun g w' h => refShort_any g 6 t w' (by decide) h)
  have N := Lib.hid (refTorNumbers_any t)
  go_enter Tryz.func19, Tryz.ntmps19
  go_wp2_with fail
  refine (N.out _).mono ?_
  rintro e w1 ⟨g, rfl, hg, ht, hgl, hb1⟩
  have HB1 := Lib.hid ((below_one w (.cells #[.string (t 0), .string (t 1), .string (t 2), .string (t 3), .string (t 4), .string (t 5)] 25)).trans (hb1.mono (by simp)))
  have HT := Lib.hid ht
  clear hb1 ht hg hgl
  go_wp2_with fail
  refine (C.out _ _ HT.out).mono ?_
  rintro e w2 ⟨⟨b, hbb, rfl⟩, rfl⟩
  have HBB := Lib.hid hbb
  clear hbb
  go_wp2_with fail
  go_ret
  exact ⟨⟨b, HBB.out, rfl⟩, HB1.out⟩
end Go.Proofs.YtbpegjgpdgeadaaGreatDoor
