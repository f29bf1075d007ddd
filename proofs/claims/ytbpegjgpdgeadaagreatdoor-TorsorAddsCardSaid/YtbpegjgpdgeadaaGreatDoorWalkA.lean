/- A part of the proof: WalkA. Conditions: none. -/
import Derived.Test.YtbpegjgpdgeadaaGreatDoorNumQt
import Derived.Lib.IndexMore
import Derived.Lib.SlTrimSet
import Derived.Lib.Strings
import Derived.Lib.Bytealg
import Derived.WalkKit
import Derived.WalkSpells
import Derived.Outline
import Derived.BigQuiet
import Derived.Deep.QuietTactic
import Derived.Deep.DeepFit
import Derived.KernelRfl
import Derived.Deep.LoopGhost
import Derived.Lib.Hide
import Derived.Deep.RegionWith
import Derived.Deep.RegionHeld3
import Derived.Deep.DeepCutAuto
import Derived.Test.YtbpegjgpdgeadaaGreatDoorProg
/-! The library's functions on texts, as the numerals want them. No program. -/
namespace Metro

theorem index_slash (l : List UInt8) : Go.Lib.index l [47] = if l.contains 47 then ((l.takeWhile (· != 47)).length : Int) else -1 := by
  induction l with
  | nil => rfl
  | cons c l ih =>
    rw [Go.Lib.index, ih]
    by_cases h : c = 47
    · subst h; simp
    · have h1 : ([47] : List UInt8).isPrefixOf (c :: l) = false := by
        simp [List.isPrefixOf]; exact fun e => h e.symm
      have h2 : (c :: l).contains 47 = l.contains 47 := by
        rw [List.contains_cons]
        have : (47 == c) = false := by simpa using fun e => h e.symm
        rw [this, Bool.false_or]
      have h3 : (c != 47) = true := by simpa using h
      rw [h1, h2, if_neg Bool.false_ne_true, List.takeWhile_cons, if_pos h3]
      by_cases hc : l.contains 47 = true
      · rw [if_pos hc, if_pos hc, if_neg]
        · simp
        · simp
      · rw [if_neg hc, if_neg hc, if_pos (by simp)]

theorem takeWhile_len (l : List UInt8) : l.take (l.takeWhile (· != 47)).length = l.takeWhile (· != 47) ∧ l.drop (l.takeWhile (· != 47)).length = l.dropWhile (· != 47) := by
  have e := List.takeWhile_append_dropWhile (p := (· != 47)) (l := l)
  constructor
  · conv => lhs; arg 2; rw [← e]
    rw [List.take_left]
  · conv => lhs; arg 2; rw [← e]
    rw [List.drop_left]

theorem cut_slash (l : List UInt8) : Go.Lib.cut l [47] = (cutA l, (l.dropWhile (· != 47)).tail, cutW l) := by
  unfold Go.Lib.cut cutA cutW
  rw [index_slash]
  by_cases h : l.contains 47 = true
  · rw [if_pos h, if_pos (by omega), Int.toNat_natCast, (takeWhile_len l).1, h, List.length_singleton, ← List.drop_drop, (takeWhile_len l).2, List.drop_one]
  · have hf : l.contains 47 = false := by simpa using h
    rw [if_neg h, if_neg (by omega), hf]
    have h1 : ∀ c ∈ l, c ≠ 47 := fun c hc e => h (by subst e; simpa using hc)
    rw [takeWhile_all h1]
    have := List.takeWhile_append_dropWhile (p := (· != 47)) (l := l)
    rw [takeWhile_all h1] at this
    have h2 : l.dropWhile (· != 47) = [] := by
      have h3 := congrArg List.length this
      rw [List.length_append] at h3
      exact List.eq_nil_of_length_eq_zero (by omega)
    rw [h2]; rfl

/-- The digits. -/
def digs : List UInt8 := [48, 49, 50, 51, 52, 53, 54, 55, 56, 57]

theorem digs_contains (c : UInt8) : digs.contains c = isDig c := by
  have h : ∀ c : UInt8, digs.contains c = isDig c := by
    intro c
    rw [Bool.eq_iff_iff]
    constructor
    · intro h
      have : c ∈ digs := by simpa using h
      simp only [digs, List.mem_cons, List.not_mem_nil, or_false] at this
      rcases this with rfl | rfl | rfl | rfl | rfl | rfl | rfl | rfl | rfl | rfl <;> rfl
    · intro h
      rw [isDig_iff] at h
      have : c = UInt8.ofNat (48 + (c.toNat - 48)) := by
        apply UInt8.toNat_inj.1
        rw [toNat_dig (by omega)]; omega
      rw [this]
      have hh : c.toNat - 48 < 10 := by omega
      generalize c.toNat - 48 = k at hh
      match k, hh with
      | 0, _ => rfl
      | 1, _ => rfl
      | 2, _ => rfl
      | 3, _ => rfl
      | 4, _ => rfl
      | 5, _ => rfl
      | 6, _ => rfl
      | 7, _ => rfl
      | 8, _ => rfl
      | 9, _ => rfl
  exact h c

theorem dropWhile_nil {l : List UInt8} {p : UInt8 → Bool} : l.dropWhile p = [] ↔ ∀ c ∈ l, p c = true := by
  induction l with
  | nil => simp
  | cons c l ih =>
    rw [List.dropWhile_cons]
    by_cases h : p c = true
    · rw [if_pos h, ih]
      simp [h]
    · rw [if_neg h]
      simp [h]

theorem trim_digs (l : List UInt8) : Go.Lib.trimS l digs = [] ↔ AllDig l := by
  unfold Go.Lib.trimS Go.Lib.trimLeftS Go.Lib.trimRightS
  rw [dropWhile_nil]
  constructor
  · intro h
    -- the first byte from the right that is none would stand there
    have e : l.reverse.dropWhile (digs.contains ·) = [] := by
      cases hd : l.reverse.dropWhile (digs.contains ·) with
      | nil => rfl
      | cons c r =>
        exfalso
        have h1 := h c (by rw [hd]; simp)
        have h2 := List.head?_dropWhile_not (digs.contains ·) l.reverse
        rw [hd] at h2
        simp only [List.head?_cons] at h2
        rw [h1] at h2
        exact Bool.noConfusion h2
    intro c hc
    rw [← digs_contains]
    exact dropWhile_nil.1 e c (by simpa using hc)
  · intro h c hc
    rw [digs_contains]
    have : c ∈ l.reverse.dropWhile (digs.contains ·) := by simpa using hc
    have := (List.dropWhile_sublist (digs.contains ·)).subset this
    exact h c (by simpa using this)

theorem trim_minus (l : List UInt8) : Go.Lib.trimPrefix l [45] = bare l := by
  unfold Go.Lib.trimPrefix Go.Lib.hasPrefix bare
  cases l with
  | nil => rfl
  | cons c l =>
    simp only [List.isPrefixOf, List.head?_cons, Option.some.injEq, List.length_singleton, List.drop_one, List.tail_cons]
    by_cases h : c = 45
    · subst h; simp
    · have h2 : (45 == c) = false := by simpa using fun e => h e.symm
      rw [h2, if_neg h]; simp

end Metro
/-! The order of digits. No program. -/
namespace Metro
open Go.Lib (decDigits nDigits)

theorem compare_digs : ∀ (a b : List UInt8), AllDig a → AllDig b → a.length = b.length → Go.Lib.compareBytes a b = ((dval a : Int) - dval b).sign := by
  intro a
  induction a with
  | nil =>
    intro b _ _ h
    cases b with
    | nil => rfl
    | cons c b => simp at h
  | cons x a ih =>
    intro b ha hb h
    cases b with
    | nil => simp at h
    | cons y b =>
      have hl : a.length = b.length := by simpa using h
      have hx := isDig_iff.1 (ha x (List.mem_cons_self ..))
      have hy := isDig_iff.1 (hb y (List.mem_cons_self ..))
      have ha' : AllDig a := fun c hc => ha c (List.mem_cons_of_mem _ hc)
      have hb' : AllDig b := fun c hc => hb c (List.mem_cons_of_mem _ hc)
      have la := dval_lt ha'
      have lb := dval_lt hb'
      rw [hl] at la
      rw [Go.Lib.compareBytes, dval_cons, dval_cons, hl, ih b ha' hb' hl]
      have hP : 0 < 10 ^ b.length := Nat.pow_pos (by decide)
      generalize 10 ^ b.length = P at *
      by_cases h1 : x < y
      · rw [if_pos h1]
        have h2 : x.toNat < y.toNat := UInt8.lt_iff_toNat_lt.1 h1
        have h3 : dv x + 1 ≤ dv y := by unfold dv; omega
        have h4 := Nat.mul_le_mul_right P h3
        rw [Nat.add_mul, Nat.one_mul] at h4
        rw [Int.sign_eq_neg_one_of_neg (by omega)]
      · rw [if_neg h1]
        by_cases h2 : y < x
        · rw [if_pos h2]
          have h2 : y.toNat < x.toNat := UInt8.lt_iff_toNat_lt.1 h2
          have h3 : dv y + 1 ≤ dv x := by unfold dv; omega
          have h4 := Nat.mul_le_mul_right P h3
          rw [Nat.add_mul, Nat.one_mul] at h4
          rw [Int.sign_eq_one_of_pos (by omega)]
        · rw [if_neg h2]
          have h3 : ¬ x.toNat < y.toNat := fun e => h1 (UInt8.lt_iff_toNat_lt.2 e)
          have h4 : ¬ y.toNat < x.toNat := fun e => h2 (UInt8.lt_iff_toNat_lt.2 e)
          have h5 : dv x = dv y := by unfold dv; omega
          rw [h5]
          congr 1
          omega

theorem lt_of_shorter {n m : Nat} (h : nDigits n < nDigits m) : n < m := by
  rcases Nat.lt_or_ge n m with h1 | h1
  · exact h1
  · have := nDigits_mono h1
    omega

theorem zt_bare (z : Int) : (⟨(bare (zl z)).toArray⟩ : ByteArray) = zt (z.natAbs : Int) := by
  unfold zt
  rw [bare_zl, zl_ofNat]

theorem zt_nat_size (n : Nat) : (zt (n : Int)).size = nDigits n := by
  rw [zt_size, zl_ofNat, Go.Lib.decDigits_length]

theorem compare_zt {n m : Nat} (h : nDigits n = nDigits m) : Go.Lib.compareBytes (zt (n : Int)).data.toList (zt (m : Int)).data.toList = ((n : Int) - m).sign := by
  rw [zt_toList, zt_toList, zl_ofNat, zl_ofNat, compare_digs _ _ (allDig_decDigits n) (allDig_decDigits m) (by rw [Go.Lib.decDigits_length, Go.Lib.decDigits_length, h]), dval_decDigits, dval_decDigits]

theorem sign_sub_cases (a b : Int) : (a - b).sign = if a.sign < b.sign then -1 else if b.sign < a.sign then 1 else a.sign * ((a.natAbs : Int) - b.natAbs).sign := by
  rcases Int.lt_trichotomy a 0 with ha | ha | ha <;> rcases Int.lt_trichotomy b 0 with hb | hb | hb
  · rw [Int.sign_eq_neg_one_of_neg ha, Int.sign_eq_neg_one_of_neg hb, if_neg (by omega), if_neg (by omega)]
    have : (a.natAbs : Int) - b.natAbs = -(a - b) := by omega
    rw [this, Int.sign_neg]; omega
  · subst hb; rw [Int.sign_eq_neg_one_of_neg ha, Int.sign_zero, if_pos (by omega), Int.sign_eq_neg_one_of_neg (by omega)]
  · rw [Int.sign_eq_neg_one_of_neg ha, Int.sign_eq_one_of_pos hb, if_pos (by omega), Int.sign_eq_neg_one_of_neg (by omega)]
  · subst ha; rw [Int.sign_zero, Int.sign_eq_neg_one_of_neg hb, if_neg (by omega), if_pos (by omega), Int.sign_eq_one_of_pos (by omega)]
  · subst ha; subst hb; rfl
  · subst ha; rw [Int.sign_zero, Int.sign_eq_one_of_pos hb, if_pos (by omega), Int.sign_eq_neg_one_of_neg (by omega)]
  · rw [Int.sign_eq_one_of_pos ha, Int.sign_eq_neg_one_of_neg hb, if_neg (by omega), if_pos (by omega), Int.sign_eq_one_of_pos (by omega)]
  · subst hb; rw [Int.sign_eq_one_of_pos ha, Int.sign_zero, if_neg (by omega), if_pos (by omega), Int.sign_eq_one_of_pos (by omega)]
  · rw [Int.sign_eq_one_of_pos ha, Int.sign_eq_one_of_pos hb, if_neg (by omega), if_neg (by omega)]
    have : (a.natAbs : Int) - b.natAbs = a - b := by omega
    rw [this]; omega

end Metro
/-! A number in words, as it lies in memory. -/
namespace Metro
open Go Go.RowKit

/-- The cells of a wide. -/
def wideCells (less : Bool) (n : Nat) (f : Nat → Int) : Array Value := (Value.bool less :: Value.int .i64 n :: (List.range 232).map fun i => Value.int .i64 (f i)).toArray

theorem wideCells_size (less : Bool) (n : Nat) (f : Nat → Int) : (wideCells less n f).size = 234 := by simp [wideCells]
theorem wideCells_less (less : Bool) (n : Nat) (f : Nat → Int) : (wideCells less n f)[0]? = some (.bool less) := by simp [wideCells]
theorem wideCells_n (less : Bool) (n : Nat) (f : Nat → Int) : (wideCells less n f)[1]? = some (.int .i64 n) := by simp [wideCells]
theorem wideCells_word (less : Bool) (n : Nat) (f : Nat → Int) {i : Nat} (h : i < 232) : (wideCells less n f)[2 + i]? = some (.int .i64 (f i)) := by
  rw [show 2 + i = i + 2 from by omega]
  simp [wideCells, h]

theorem wideCells_setN (less : Bool) (n m : Nat) (f : Nat → Int) : (wideCells less n f).setIfInBounds 1 (.int .i64 m) = wideCells less m f := by
  apply Array.ext'
  simp [wideCells]
theorem wideCells_setLess (less b : Bool) (n : Nat) (f : Nat → Int) : (wideCells less n f).setIfInBounds 0 (.bool b) = wideCells b n f := by
  apply Array.ext'
  simp [wideCells]
theorem wideCells_setWord (less : Bool) (n : Nat) (f : Nat → Int) {i : Nat} (v : Int) : (wideCells less n f).setIfInBounds (2 + i) (.int .i64 v) = wideCells less n (upd f i v) := by
  apply Array.ext'
  rw [show 2 + i = i + 2 from by omega]
  simp only [wideCells, Array.toList_setIfInBounds, List.set_cons_succ]
  congr 2
  apply List.ext_getElem
  · simp
  · intro j h1 h2
    rw [List.getElem_set]
    by_cases e : i = j
    · subst e; simp [upd]
    · simp [e, upd, Ne.symm e]

/-- The words f, of which n count, and the sign lie in block b. -/
def WideAt (T : Nat) (w : World) (b : Nat) (less : Bool) (n : Nat) (f : Nat → Int) : Prop := w.heap[b]? = some (.cells (wideCells less n f) T (0, 0))

section
variable {T : Nat} {w : World} {b : Nat} {less : Bool} {n : Nat} {f : Nat → Int}
theorem WideAt.lt (h : WideAt T w b less n f) : b < w.heap.size := (Array.getElem?_eq_some_iff.1 h).1
theorem WideAt.cell (h : WideAt T w b less n f) (i : Nat) : w.cell? ⟨b, i, none⟩ = (wideCells less n f)[i]? := by
  unfold World.cell?
  rw [show w.heap[b]? = _ from h]
  simp
theorem WideAt.cell_less (h : WideAt T w b less n f) : w.cell? ⟨b, 0, none⟩ = some (.bool less) := by rw [h.cell, wideCells_less]
theorem WideAt.cell_n (h : WideAt T w b less n f) : w.cell? ⟨b, 1, none⟩ = some (.int .i64 n) := by rw [h.cell, wideCells_n]
theorem WideAt.cell_word (h : WideAt T w b less n f) {i : Nat} (hi : i < 232) : w.cell? ⟨b, 2 + i, none⟩ = some (.int .i64 (f i)) := by rw [h.cell, wideCells_word _ _ _ hi]
theorem WideAt.free (h : WideAt T w b less n f) (i : Nat) : w.frozen? ⟨b, i, none⟩ = false := by
  unfold World.frozen?
  rw [show w.heap[b]? = _ from h]
  simp
theorem WideAt.setCell (h : WideAt T w b less n f) (i : Nat) (v : Value) : (w.setCell ⟨b, i, none⟩ v).heap[b]? = some (.cells ((wideCells less n f).setIfInBounds i v) T (0, 0)) := by
  unfold World.setCell
  simp only [Array.getElem?_modify, if_true]
  rw [show w.heap[b]? = _ from h]
  simp
theorem WideAt.setN (h : WideAt T w b less n f) (m : Nat) : WideAt T (w.setCell ⟨b, 1, none⟩ (.int .i64 m)) b less m f := by
  unfold WideAt; rw [h.setCell, wideCells_setN]
theorem WideAt.setLess (h : WideAt T w b less n f) (l : Bool) : WideAt T (w.setCell ⟨b, 0, none⟩ (.bool l)) b l n f := by
  unfold WideAt; rw [h.setCell, wideCells_setLess]
theorem WideAt.setWord (h : WideAt T w b less n f) (i : Nat) (v : Int) : WideAt T (w.setCell ⟨b, 2 + i, none⟩ (.int .i64 v)) b less n (upd f i v) := by
  unfold WideAt; rw [h.setCell, wideCells_setWord]
theorem WideAt.other (h : WideAt T w b less n f) {a : Addr} (ha : a.block ≠ b) (v : Value) : WideAt T (w.setCell a v) b less n f := by
  unfold WideAt
  rw [Below.heap_setCell _ _ _ _ (Ne.symm ha)]
  exact h
theorem WideAt.drew (h : WideAt T w b less n f) : WideAt T w.drew b less n f := h
theorem WideAt.drewN (h : WideAt T w b less n f) (m : Nat) : WideAt T (w.drewN m) b less n f := h
theorem WideAt.alloc (h : WideAt T w b less n f) (o : Obj) : WideAt T (w.alloc o) b less n f := by
  unfold WideAt
  rw [Below.heap_alloc _ _ _ h.lt]
  exact h
theorem WideAt.below {B : Nat} {w' : World} (h : WideAt T w b less n f) (hb : Below B w w') (hB : b < B) : WideAt T w' b less n f := by
  unfold WideAt
  rw [hb.block b hB]
  exact h
end
end Metro
namespace Metro
open Go Go.RowKit
theorem grown_refl (w : World) (row : Option Nat) : w.grownBy w row := ⟨rfl, rfl, rfl, Nat.le_refl _, fun _ _ _ => rfl⟩
theorem grown_trans {a b c : World} {row : Option Nat} (h : a.grownBy b row) (k : b.grownBy c row) : a.grownBy c row :=
  ⟨k.os.trans h.os, k.tape.trans h.tape, k.output.trans h.output, Nat.le_trans h.size k.size, fun i hi hr => (k.block i (Nat.lt_of_lt_of_le hi h.size) hr).trans (h.block i hi hr)⟩
theorem grown_set {w w' : World} {b : Nat} (h : w.grownBy w' (some b)) (i : Nat) (v : Value) : w.grownBy (w'.setCell ⟨b, i, none⟩ v) (some b) :=
  grown_trans h ⟨rfl, rfl, rfl, by simp [World.setCell], fun k _ hr => Below.heap_setCell _ _ _ _ (fun e => hr (by rw [e]))⟩
theorem grown_drewN {w w' : World} {row : Option Nat} (h : w.grownBy w' row) (n : Nat) : w.grownBy (w'.drewN n) row := ⟨h.os, h.tape, h.output, h.size, h.block⟩
theorem grown_drew {w w' : World} {row : Option Nat} (h : w.grownBy w' row) : w.grownBy w'.drew row := ⟨h.os, h.tape, h.output, h.size, h.block⟩
theorem WideAt.grown {T : Nat} {w w' : World} {b c : Nat} {less : Bool} {n : Nat} {f : Nat → Int} (h : WideAt T w b less n f) (hg : w.grownBy w' (some c)) (hne : b ≠ c) : WideAt T w' b less n f := by
  unfold WideAt
  rw [hg.block b h.lt (fun e => hne (Option.some.inj e))]
  exact h
end Metro
namespace Metro
open Go Go.RowKit
theorem upd_comm_idx (f : Nat → Int) (a b : Nat) (v : Int) : upd f (a + b) v = upd f (b + a) v := by rw [Nat.add_comm]

/-- A round of carry has been gone through. -/
theorem carry_round {fx fy f : Nat → Int} {factor r d r' S : Int} {up k n m : Nat} {w wr : World} {T b1 : Nat} {lx : Bool} (hC : Carry fx fy factor up k r f) (hy : InR fy) (h1 : -BB < factor) (h2 : factor < BB)
    (hz : ∀ j, n ≤ j → f j = 0) (hw : WideAt T wr b1 lx n f) (hg : w.grownBy wr (some b1)) (hS : S = f (up + k) + r + factor * fy k) (hd : S = r' * BB + d) (hd0 : 0 ≤ d) (hd1 : d < BB) (hm : n ≤ m) (hm' : up + k < m) (a : Nat) (ha : a = 2 + (k + up)) :
    (∀ j, m ≤ j → upd f (up + k) d j = 0) ∧ Carry fx fy factor up (k + 1) r' (upd f (up + k) d) ∧ WideAt T ((wr.setCell ⟨b1, a, none⟩ (.int .i64 d)).setCell ⟨b1, 1, none⟩ (.int .i64 m)) b1 lx m (upd f (up + k) d) ∧ w.grownBy ((wr.setCell ⟨b1, a, none⟩ (.int .i64 d)).setCell ⟨b1, 1, none⟩ (.int .i64 m)) (some b1) := by
  subst ha
  refine ⟨fun j hj => ?_, hC.step hy h1 h2 hS hd hd0 hd1, ?_, grown_set (grown_set hg _ _) _ _⟩
  · rw [upd_other _ _ (by omega)]; exact hz j (by omega)
  · rw [← upd_comm_idx f k up d]
    exact (hw.setWord _ _).setN _

theorem tdiv_neg {S : Int} (h : S < 0) : ∃ q e : Int, S.tdiv 1000000000 = q ∧ S = q * 1000000000 - e ∧ 0 ≤ e ∧ e < 1000000000 := by
  have h1 := Int.tdiv_mul_add_tmod S 1000000000
  have h2 := Int.lt_tmod_of_pos S (b := 1000000000) (by omega)
  have h3 : S.tmod 1000000000 ≤ 0 := by
    have a1 := Int.neg_tmod S 1000000000
    have a2 := Int.tmod_nonneg (a := -S) 1000000000 (by omega)
    omega
  exact ⟨_, -(S.tmod 1000000000), rfl, by omega, by omega, by omega⟩
end Metro
namespace Metro
open Go Go.RowKit
theorem wideCells_one (less : Bool) (n : Nat) (f : Nat → Int) : (wideCells less n f).all (·.oneCell') = true := by
  rw [Array.all_eq_true_iff_forall_mem]
  intro x hx
  simp only [wideCells, List.mem_toArray, List.mem_cons, List.mem_map] at hx
  rcases hx with rfl | rfl | ⟨i, _, rfl⟩ <;> rfl
theorem WideAt.setRow {T : Nat} {w : World} {b : Nat} {less l2 : Bool} {n n2 : Nat} {f f2 : Nat → Int} (h : WideAt T w b less n f) : WideAt T (w.setRow b (wideCells l2 n2 f2)) b l2 n2 f2 := setRow_heap w b _ _ _ _ h
theorem WideAt.setRow_other {T : Nat} {w : World} {b c : Nat} {less : Bool} {n : Nat} {f : Nat → Int} (h : WideAt T w b less n f) (hne : b ≠ c) (cs : Array Value) : WideAt T (w.setRow c cs) b less n f := by
  unfold WideAt; rw [Go.setRow_other _ _ _ _ hne]; exact h
theorem grown_setRow {w w' : World} {b : Nat} (h : w.grownBy w' (some b)) (cs : Array Value) : w.grownBy (w'.setRow b cs) (some b) :=
  grown_trans h ⟨rfl, rfl, rfl, by simp [World.setRow], fun k _ hr => Go.setRow_other _ _ _ _ (fun e => hr (by rw [e]))⟩
theorem grown_setRow_new {w w' : World} {b c : Nat} (h : w.grownBy w' (some b)) (hc : w.heap.size ≤ c) (cs : Array Value) : w.grownBy (w'.setRow c cs) (some b) :=
  ⟨h.os, h.tape, h.output, by simp [World.setRow]; exact h.size, fun k hk hr => (Go.setRow_other _ _ _ _ (by omega)).trans (h.block k hk hr)⟩
theorem grown_other {w w1 w2 : World} {b c : Nat} (h : w.grownBy w1 (some b)) (hc : w.heap.size ≤ c) (k : w1.grownBy w2 (some c)) : w.grownBy w2 (some b) :=
  ⟨k.os.trans h.os, k.tape.trans h.tape, k.output.trans h.output, Nat.le_trans h.size k.size, fun i hi hr => (k.block i (Nat.lt_of_lt_of_le hi h.size) (fun e => by have := Option.some.inj e; omega)).trans (h.block i hi hr)⟩
theorem grown_alloc {w w' : World} {row : Option Nat} (h : w.grownBy w' row) (o : Obj) : w.grownBy (w'.alloc o) row := grown_trans h (World.grownBy_alloc _ _ _)
theorem wideAt_new (T : Nat) (w : World) (less : Bool) (n : Nat) (f : Nat → Int) : WideAt T (w.alloc (.cells (wideCells less n f) T)) w.heap.size less n f := heap_alloc_new w _
end Metro
namespace Metro
open Go Go.RowKit
theorem heap_drewN' (w : World) (k : Nat) : (w.drewN k).heap = w.heap := rfl
theorem alloc_drewN_at (w : World) (k : Nat) (o : Obj) : ((w.drewN k).alloc o).heap[w.heap.size]? = some o := by
  have := heap_alloc_new (w.drewN k) o
  exact this
end Metro
namespace Metro
open Go Go.RowKit
/-- The number with a sign and a magnitude. -/
def sv (l : Bool) (v : Int) : Int := if l then -v else v
/-- In block b lies the number z. -/
def NumAt (T : Nat) (w : World) (b : Nat) (z : Int) : Prop := ∃ l m f v, Trim f m v ∧ m ≤ 232 ∧ WideAt T w b l m f ∧ sv l v = z
theorem NumAt.mk {T : Nat} {w : World} {b : Nat} {z : Int} {l : Bool} {m : Nat} {f : Nat → Int} {v : Int} (h1 : Trim f m v) (h2 : v < BB ^ 232) (h3 : WideAt T w b l m f) (h4 : sv l v = z) : NumAt T w b z := ⟨l, m, f, v, h1, h1.n_le h2, h3, h4⟩
theorem NumAt.grown {T : Nat} {w w' : World} {b c : Nat} {z : Int} (h : NumAt T w b z) (hg : w.grownBy w' (some c)) (hne : b ≠ c) : NumAt T w' b z := by
  obtain ⟨l, m, f, v, h1, h2, h3, h4⟩ := h
  exact ⟨l, m, f, v, h1, h2, h3.grown hg hne, h4⟩
end Metro
namespace Go.Proofs.YtbpegjgpdgeadaaGreatDoor
open Go Go.RowKit Metro

set_option maxHeartbeats 400000 in
theorem trimmed_any (b n : Nat) (less : Bool) (f : Nat → Int) (v : Int) (w : World) (hn : n ≤ 232) (hx : WideAt 267 w b less n f) (hs : Spells f n v) :
    Calls Tryz.prog 251 #[.pointer (some ⟨b, 0, none⟩)] w fun e w' => ∃ m, e = .returned (.pointer (some ⟨b, 0, none⟩)) ∧ Trim f m v ∧ WideAt 267 w' b less m f ∧ w.grownBy w' (some b) := by
  go_enter Tryz.func251, Tryz.ntmps251
  go_wp2
  go_loopg [] n (fun m wr => m ≤ n ∧ Spells f m v ∧ WideAt 267 wr b less m f ∧ w.grownBy wr (some b))
  case atStart => exact ⟨Nat.le_refl _, hs, hx, grown_refl _ _⟩
  case round =>
    obtain ⟨h1, h2, h3, h4⟩ := hrel
    have c1 := h3.cell_n
    have f1 := h3.free 1
    by_cases hg : gk = 0
    · have hd : decide ((gk : Int) > 0) = false := by simp; omega
      go_wp2
      go_quiet (fail)
      go_wp2
      go_ret
      exact ⟨gk, rfl, ⟨h2, .inl hg⟩, h3.drewN _, grown_drewN h4 _⟩
    · have hd : 0 < gk := by omega
      have hi : 0 ≤ (gk : Int) - 1 := by omega
      have hi2 : ((gk : Int) - 1).toNat = gk - 1 := by omega
      have hi3 : (gk : Int) - 1 < 232 := by omega
      have c2 := h3.cell_word (i := gk - 1) (by omega)
      by_cases hz : f (gk - 1) = 0
      · have hz' : (f (gk - 1) == 0) = true := by simp [hz]
        go_wp2
        go_quiet (fail)
        go_wp2
        go_roundg (gk - 1)
        case measure => omega
        case rel =>
          rw [show ((gk : Int) - 1) = ((gk - 1 : Nat) : Int) from by omega]
          obtain ⟨g, rfl⟩ : ∃ g, gk = g + 1 := ⟨gk - 1, by omega⟩
          exact ⟨by omega, h2.shrink hz, (h3.drewN _).setN _, grown_set (grown_drewN h4 _) _ _⟩
      · have hz' : (f (gk - 1) == 0) = false := by simp [hz]
        go_wp2
        go_quiet (fail)
        go_wp2
        go_ret
        exact ⟨gk, rfl, ⟨h2, .inr hz⟩, h3.drewN _, grown_drewN h4 _⟩
end Go.Proofs.YtbpegjgpdgeadaaGreatDoor
namespace Go.Proofs.YtbpegjgpdgeadaaGreatDoor
open Go Go.RowKit Metro

set_option maxHeartbeats 1000000 in
set_option maxRecDepth 100000 in
theorem carry_any (b1 b2 nx ny up : Nat) (lx ly : Bool) (fx fy : Nat → Int) (vx vy factor : Int) (w : World) (hb : b1 ≠ b2) (hnx : nx ≤ 232) (hup : up + ny ≤ 232) (hf1 : -1000000000 < factor) (hf2 : factor < 1000000000)
    (hx : WideAt 267 w b1 lx nx fx) (hy : WideAt 267 w b2 ly ny fy) (hsx : Spells fx nx vx) (hsy : Spells fy ny vy) (hlo : 0 ≤ vx + factor * BB ^ up * vy) (hhi : vx + factor * BB ^ up * vy < BB ^ 232) :
    Calls Tryz.prog 252 #[.pointer (some ⟨b1, 0, none⟩), .pointer (some ⟨b2, 0, none⟩), .int .i64 factor, .int .i64 up] w fun e w' => e = .returned (.tuple #[]) ∧ ∃ m f, Trim f m (vx + factor * BB ^ up * vy) ∧ WideAt 267 w' b1 lx m f ∧ w.grownBy w' (some b1) := by
  have HX := Lib.hid hsx; have HY := Lib.hid hsy; have HL := Lib.hid hlo; have HH := Lib.hid hhi
  clear hsx hsy hlo hhi
  go_enter Tryz.func252, Tryz.ntmps252
  go_wp2
  go_loopg [8, 9] 233 (fun d rest i wr => ∃ (k n : Nat) (r : Int) (f : Nat → Int), i = .int .i64 k ∧ rest = .int .i64 r ∧ k ≤ 232 ∧ d = 233 - k ∧ n ≤ 232 ∧ (∀ j, n ≤ j → f j = 0) ∧ Carry fx fy factor up k r f ∧ WideAt 267 wr b1 lx n f ∧ w.grownBy wr (some b1))
  case atStart => exact ⟨0, nx, 0, fx, rfl, rfl, by omega, rfl, hnx, HX.out.zero, Carry.start fy HX.out.inr factor up, hx, grown_refl _ _⟩
  case round =>
    obtain ⟨k, n, r, f, rfl, rfl, hk, rfl, hn, hz, hc, hw, hg⟩ := hrel
    have hy' := hy.grown hg (Ne.symm hb)
    have c1 := hy'.cell_n
    by_cases hA : k < ny
    · have hi := hc.inr (up + k)
      have cx := hw.cell_word (i := k + up) (by omega)
      have fr := hw.free (2 + (k + up))
      have fr1 := hw.free 1
      have cn := hw.cell_n
      have cy := hy'.cell_word (i := k) (by omega)
      obtain ⟨s1, s2, s3, s4⟩ := hc.bounds HY.out.inr (by rw [BB_eq]; exact hf1) (by rw [BB_eq]; exact hf2)
      have hlo := hc.lo
      have hhi := hc.hi
      have hyk := HY.out.inr k
      rw [BB_eq] at hlo hhi hi hyk
      rw [Nat.add_comm k up] at cx
      obtain ⟨X, hX⟩ : ∃ X, X = f (up + k) := ⟨_, rfl⟩
      obtain ⟨Y, hY⟩ : ∃ Y, Y = fy k := ⟨_, rfl⟩
      rw [← hX] at cx hi s1 s2
      rw [← hY] at cy hyk s1 s2 s3 s4
      rw [Nat.add_comm up k] at cx
      have HC := Lib.hid hc; have HZ := Lib.hid hz; have HX' := Lib.hid hX; have HY' := Lib.hid hY; clear hc hz hX hY
      have hlt : ((k : Int) + up < 232) := by omega
      have hfb1 : -BB < factor := by rw [BB_eq]; exact hf1
      have hfb2 : factor < BB := by rw [BB_eq]; exact hf2
      by_cases hS : 0 ≤ X + r + factor * Y
      · go_wp2
        all_goals
          go_roundg (233 - (k + 1))
          case measure => omega
          case rel =>
            have R := fun m => carry_round (S := X + r + factor * Y) (r' := (X + r + factor * Y) / 1000000000) (d := X + r + factor * Y - (X + r + factor * Y) / 1000000000 * 1000000000) (m := m) HC.out HY.out.inr hfb1 hfb2 HZ.out hw hg (by rw [HX'.out, HY'.out]) (by rw [BB_eq]; omega) (by omega) (by rw [BB_eq]; omega)
            first
              | (obtain ⟨R1, R2, R3, R4⟩ := R (k + up + 1) (by omega) (by omega) _ rfl
                 exact ⟨k + 1, k + up + 1, _, upd f (up + k) _, by go_num, rfl, by omega, rfl, by omega, R1, R2, R3, R4⟩)
              | (obtain ⟨R1, R2, R3, R4⟩ := R n (by omega) (by omega) _ rfl
                 exact ⟨k + 1, n, _, upd f (up + k) _, by go_num, rfl, by omega, rfl, by omega, R1, R2, R3, R4⟩)
      · obtain ⟨q, e, hq, he, he0, he1⟩ := tdiv_neg (S := X + r + factor * Y) (by omega)
        have hq1 : -1000000000 ≤ q := by omega
        have hq2 : q ≤ 0 := by omega
        by_cases hez : e = 0
        · have hh : ¬ (X + r + factor * Y - q * 1000000000 < 0) := by omega
          have HE := Lib.hid he; have HZ0 := Lib.hid hez; clear he hez
          go_wp2
          all_goals
            go_roundg (233 - (k + 1))
            case measure => omega
            case rel =>
              have he := HE.out
              have hez := HZ0.out
              have R := fun m => carry_round (S := X + r + factor * Y) (r' := q) (d := X + r + factor * Y - q * 1000000000) (m := m) HC.out HY.out.inr hfb1 hfb2 HZ.out hw hg (by rw [HX'.out, HY'.out]) (by rw [BB_eq]; omega) (by omega) (by rw [BB_eq]; omega)
              first
                | (obtain ⟨R1, R2, R3, R4⟩ := R (k + up + 1) (by omega) (by omega) _ rfl
                   exact ⟨k + 1, k + up + 1, _, upd f (up + k) _, by go_num, rfl, by omega, rfl, by omega, R1, R2, R3, R4⟩)
                | (obtain ⟨R1, R2, R3, R4⟩ := R n (by omega) (by omega) _ rfl
                   exact ⟨k + 1, n, _, upd f (up + k) _, by go_num, rfl, by omega, rfl, by omega, R1, R2, R3, R4⟩)
        · have hh : X + r + factor * Y - q * 1000000000 < 0 := by omega
          have HE := Lib.hid he; clear he
          go_wp2
          all_goals
            go_roundg (233 - (k + 1))
            case measure => omega
            case rel =>
              have he := HE.out
              have R := fun m => carry_round (S := X + r + factor * Y) (r' := q - 1) (d := X + r + factor * Y - q * 1000000000 + 1000000000) (m := m) HC.out HY.out.inr hfb1 hfb2 HZ.out hw hg (by rw [HX'.out, HY'.out]) (by rw [BB_eq]; omega) (by omega) (by rw [BB_eq]; omega)
              first
                | (obtain ⟨R1, R2, R3, R4⟩ := R (k + up + 1) (by omega) (by omega) _ rfl
                   exact ⟨k + 1, k + up + 1, _, upd f (up + k) _, by go_num, rfl, by omega, rfl, by omega, R1, R2, R3, R4⟩)
                | (obtain ⟨R1, R2, R3, R4⟩ := R n (by omega) (by omega) _ rfl
                   exact ⟨k + 1, n, _, upd f (up + k) _, by go_num, rfl, by omega, rfl, by omega, R1, R2, R3, R4⟩)
    · by_cases hr : r = 0
      · subst hr
        have hr' : ((0 : Int) != 0) = false := rfl
        have hsp : Spells f n (vx + factor * BB ^ up * vy) := by
          have h1 := hc.done HX.out HY.out (by omega)
          refine ⟨h1.inr, hz, ?_⟩
          rw [← h1.val]
          rcases Nat.le_total n (max nx (up + k)) with h2 | h2
          · exact (bs_more hz h2).symm
          · exact bs_more h1.zero h2
        have HSP := Lib.hid hsp; clear hsp hc hz
        go_wp2_with (go_at_call 251; refine (trimmed_any b1 n lx f _ _ hn (by assumption) HSP.out).mono ?_; rintro e w' ⟨m, rfl, ht, hw', hg'⟩)
        go_end0
        exact ⟨rfl, m, f, ht, hw', grown_trans hg hg'⟩
      · have hr' : (r != 0) = true := by simp [hr]
        have hroom := hc.room HX.out HY.out hnx HL.out HH.out (by omega) hr
        have hi := hc.inr (up + k)
        have cx := hw.cell_word (i := k + up) (by omega)
        have fr := hw.free (2 + (k + up))
        have fr1 := hw.free 1
        have cn := hw.cell_n
        have hlo := hc.lo
        have hhi := hc.hi
        rw [BB_eq] at hlo hhi hi
        rw [Nat.add_comm k up] at cx
        obtain ⟨X, hX⟩ : ∃ X, X = f (up + k) := ⟨_, rfl⟩
        rw [← hX] at cx hi
        rw [Nat.add_comm up k] at cx
        have hYZ : fy k = 0 := HY.out.zero k (by omega)
        have HC := Lib.hid hc; have HZ := Lib.hid hz; have HX' := Lib.hid hX; have HYZ := Lib.hid hYZ; clear hc hz hX hYZ
        have hlt : ((k : Int) + up < 232) := by omega
        have hfb1 : -BB < factor := by rw [BB_eq]; exact hf1
        have hfb2 : factor < BB := by rw [BB_eq]; exact hf2
        by_cases hS : 0 ≤ X + r
        · go_wp2
          all_goals
            go_roundg (233 - (k + 1))
            case measure => omega
            case rel =>
              have R := fun m => carry_round (S := X + r) (r' := (X + r) / 1000000000) (d := X + r - (X + r) / 1000000000 * 1000000000) (m := m) HC.out HY.out.inr hfb1 hfb2 HZ.out hw hg (by rw [HX'.out, HYZ.out]; simp) (by rw [BB_eq]; omega) (by omega) (by rw [BB_eq]; omega)
              first
                | (obtain ⟨R1, R2, R3, R4⟩ := R (k + up + 1) (by omega) (by omega) _ rfl
                   exact ⟨k + 1, k + up + 1, _, upd f (up + k) _, by go_num, rfl, by omega, rfl, by omega, R1, R2, R3, R4⟩)
                | (obtain ⟨R1, R2, R3, R4⟩ := R n (by omega) (by omega) _ rfl
                   exact ⟨k + 1, n, _, upd f (up + k) _, by go_num, rfl, by omega, rfl, by omega, R1, R2, R3, R4⟩)

        · obtain ⟨q, e, hq, he, he0, he1⟩ := tdiv_neg (S := X + r) (by omega)
          have hq1 : -1000000000 ≤ q := by omega
          have hq2 : q ≤ 0 := by omega
          by_cases hez : e = 0
          · have hh : ¬ (X + r - q * 1000000000 < 0) := by omega
            have HE := Lib.hid he; have HZ0 := Lib.hid hez; clear he hez
            go_wp2
            all_goals
              go_roundg (233 - (k + 1))
              case measure => omega
              case rel =>
                have he := HE.out
                have hez := HZ0.out
                have R := fun m => carry_round (S := X + r) (r' := q) (d := X + r - q * 1000000000) (m := m) HC.out HY.out.inr hfb1 hfb2 HZ.out hw hg (by rw [HX'.out, HYZ.out]; simp) (by rw [BB_eq]; omega) (by omega) (by rw [BB_eq]; omega)
                first
                  | (obtain ⟨R1, R2, R3, R4⟩ := R (k + up + 1) (by omega) (by omega) _ rfl
                     exact ⟨k + 1, k + up + 1, _, upd f (up + k) _, by go_num, rfl, by omega, rfl, by omega, R1, R2, R3, R4⟩)
                  | (obtain ⟨R1, R2, R3, R4⟩ := R n (by omega) (by omega) _ rfl
                     exact ⟨k + 1, n, _, upd f (up + k) _, by go_num, rfl, by omega, rfl, by omega, R1, R2, R3, R4⟩)

          · have hh : X + r - q * 1000000000 < 0 := by omega
            have HE := Lib.hid he; clear he
            go_wp2
            all_goals
              go_roundg (233 - (k + 1))
              case measure => omega
              case rel =>
                have he := HE.out
                have R := fun m => carry_round (S := X + r) (r' := q - 1) (d := X + r - q * 1000000000 + 1000000000) (m := m) HC.out HY.out.inr hfb1 hfb2 HZ.out hw hg (by rw [HX'.out, HYZ.out]; simp) (by rw [BB_eq]; omega) (by omega) (by rw [BB_eq]; omega)
                first
                  | (obtain ⟨R1, R2, R3, R4⟩ := R (k + up + 1) (by omega) (by omega) _ rfl
                     exact ⟨k + 1, k + up + 1, _, upd f (up + k) _, by go_num, rfl, by omega, rfl, by omega, R1, R2, R3, R4⟩)
                  | (obtain ⟨R1, R2, R3, R4⟩ := R n (by omega) (by omega) _ rfl
                     exact ⟨k + 1, n, _, upd f (up + k) _, by go_num, rfl, by omega, rfl, by omega, R1, R2, R3, R4⟩)
end Go.Proofs.YtbpegjgpdgeadaaGreatDoor
