/- A part of the proof: NumQt. Conditions: none. -/
import Derived.Lib.ItoaNum
import Derived.Lib.Atoi
/-! Plain numerals: the decimal texts of integers and what they spell. No program, no memory. -/
namespace Metro
open Go.Lib (itoa decDigits nDigits digitVal decFrom)

/-- A decimal digit. -/
def isDig (c : UInt8) : Bool := decide (48 ≤ c.toNat ∧ c.toNat ≤ 57)

theorem isDig_iff {c : UInt8} : isDig c = true ↔ 48 ≤ c.toNat ∧ c.toNat ≤ 57 := by simp [isDig]

/-- A digit's value. -/
def dv (c : UInt8) : Nat := c.toNat - 48

/-- The number that digits spell, behind an accumulator. -/
def dacc (a : Nat) (l : List UInt8) : Nat := l.foldl (fun a c => a * 10 + dv c) a
theorem dacc_nil (a : Nat) : dacc a [] = a := rfl
theorem dacc_cons (a : Nat) (c : UInt8) (l : List UInt8) : dacc a (c :: l) = dacc (a * 10 + dv c) l := by unfold dacc; rw [List.foldl_cons]

/-- The number that digits spell. -/
def dval (l : List UInt8) : Nat := dacc 0 l

theorem dacc_eq (l : List UInt8) : ∀ a, dacc a l = a * 10 ^ l.length + dval l := by
  unfold dval
  induction l with
  | nil => intro a; simp [dacc_nil]
  | cons c l ih =>
    intro a
    rw [dacc_cons, dacc_cons, List.length_cons]
    rw [ih, ih (0 * 10 + dv c), Nat.pow_succ, Nat.add_mul, Nat.zero_mul, Nat.zero_add, Nat.mul_assoc, Nat.mul_comm 10, Nat.add_assoc]

theorem dval_nil : dval [] = 0 := rfl
theorem dval_cons (c : UInt8) (l : List UInt8) : dval (c :: l) = dv c * 10 ^ l.length + dval l := by
  show dacc _ l = _
  rw [dacc_eq]; simp
theorem dval_append (a b : List UInt8) : dval (a ++ b) = dval a * 10 ^ b.length + dval b := by
  induction a with
  | nil => simp [dval_nil]
  | cons c a ih =>
    rw [List.cons_append, dval_cons, dval_cons, ih, List.length_append, Nat.pow_add, Nat.add_mul, Nat.mul_assoc, Nat.add_assoc]

def AllDig (l : List UInt8) : Prop := ∀ c ∈ l, isDig c = true

theorem AllDig.nil : AllDig [] := fun _ h => nomatch h
theorem AllDig.cons {c : UInt8} {l : List UInt8} (h : isDig c = true) (k : AllDig l) : AllDig (c :: l) := fun x hx => by
  rcases List.mem_cons.1 hx with rfl | hx
  · exact h
  · exact k x hx
theorem AllDig.append {a b : List UInt8} (h : AllDig a) (k : AllDig b) : AllDig (a ++ b) := fun c hc => by
  rcases List.mem_append.1 hc with hc | hc
  · exact h c hc
  · exact k c hc
theorem AllDig.left {a b : List UInt8} (h : AllDig (a ++ b)) : AllDig a := fun c hc => h c (List.mem_append_left _ hc)
theorem AllDig.right {a b : List UInt8} (h : AllDig (a ++ b)) : AllDig b := fun c hc => h c (List.mem_append_right _ hc)
theorem AllDig.drop {a : List UInt8} (h : AllDig a) (n : Nat) : AllDig (a.drop n) := fun c hc => h c (List.mem_of_mem_drop hc)
theorem AllDig.take {a : List UInt8} (h : AllDig a) (n : Nat) : AllDig (a.take n) := fun c hc => h c (List.mem_of_mem_take hc)

theorem dval_lt {l : List UInt8} (h : AllDig l) : dval l < 10 ^ l.length := by
  induction l with
  | nil => simp [dval_nil]
  | cons c l ih =>
    have h1 := isDig_iff.1 (h c (List.mem_cons_self ..))
    have h2 := ih fun x hx => h x (List.mem_cons_of_mem _ hx)
    rw [dval_cons, List.length_cons, Nat.pow_succ]
    have h3 : dv c ≤ 9 := by unfold dv; omega
    have h4 := Nat.mul_le_mul_right (10 ^ l.length) h3
    omega

theorem toNat_dig {n : Nat} (h : n < 10) : (UInt8.ofNat (48 + n)).toNat = 48 + n := by
  simp [UInt8.toNat_ofNat']; omega
theorem isDig_ofNat {n : Nat} (h : n < 10) : isDig (UInt8.ofNat (48 + n)) = true := by
  rw [isDig_iff, toNat_dig h]; omega

theorem decDigits_small {u : Nat} (h : u < 10) : decDigits u = [UInt8.ofNat (48 + u)] := by rw [decDigits, dif_pos h]
theorem decDigits_big {u : Nat} (h : ¬ u < 10) : decDigits u = decDigits (u / 10) ++ [UInt8.ofNat (48 + u % 10)] := by rw [decDigits, dif_neg h]

theorem allDig_decDigits (u : Nat) : AllDig (decDigits u) := by
  induction u using Nat.strongRecOn with
  | ind u ih =>
    by_cases h : u < 10
    · rw [decDigits_small h]; exact AllDig.cons (isDig_ofNat h) AllDig.nil
    · rw [decDigits_big h]; exact (ih (u / 10) (by omega)).append (AllDig.cons (isDig_ofNat (by omega)) AllDig.nil)

theorem dval_one {n : Nat} (h : n < 10) : dval [UInt8.ofNat (48 + n)] = n := by
  rw [dval_cons, dval_nil, dv, toNat_dig h]; simp

theorem dval_decDigits (u : Nat) : dval (decDigits u) = u := by
  induction u using Nat.strongRecOn with
  | ind u ih =>
    by_cases h : u < 10
    · rw [decDigits_small h, dval_one h]
    · rw [decDigits_big h, dval_append, ih (u / 10) (by omega), dval_one (by omega)]; simp; omega

theorem decDigits_ne_nil (u : Nat) : decDigits u ≠ [] := by
  by_cases h : u < 10
  · rw [decDigits_small h]; simp
  · rw [decDigits_big h]; simp

theorem decDigits_inj {u v : Nat} (h : decDigits u = decDigits v) : u = v := by
  rw [← dval_decDigits u, h, dval_decDigits]

theorem nDigits_le {u k : Nat} (hk : 1 ≤ k) : nDigits u ≤ k ↔ u < 10 ^ k := by
  constructor
  · intro h
    exact Nat.lt_of_lt_of_le (Go.Lib.lt_pow_nDigits u) (Nat.pow_le_pow_right (by decide) h)
  · intro h
    rcases Nat.lt_or_ge u 10 with hu | hu
    · rw [Go.Lib.nDigits_small hu]; exact hk
    · induction k generalizing u with
      | zero => omega
      | succ k ih =>
        rw [Go.Lib.nDigits_big (by omega)]
        rcases Nat.lt_or_ge (u / 10) 10 with h1 | h1
        · rw [Go.Lib.nDigits_small h1]
          rcases Nat.eq_zero_or_pos k with rfl | hk0
          · simp at h; omega
          · omega
        · have hk0 : 1 ≤ k := by
            rcases Nat.eq_zero_or_pos k with rfl | hk0
            · simp at h; omega
            · exact hk0
          have := ih hk0 (u := u / 10) (by rw [Nat.pow_succ] at h; omega) h1
          omega

/-- Digits without zeros in front, but for 0 itself. -/
def Lean0 (l : List UInt8) : Prop := l ≠ [] ∧ AllDig l ∧ (l.head? = some 48 → l.length = 1)

theorem decDigits_head (u : Nat) : (decDigits u).head? = some 48 → u = 0 := by
  induction u using Nat.strongRecOn with
  | ind u ih =>
    intro hh
    by_cases h : u < 10
    · rw [decDigits_small h] at hh
      simp only [List.head?_cons, Option.some.injEq] at hh
      have := congrArg UInt8.toNat hh
      rw [toNat_dig h] at this
      simp at this; omega
    · rw [decDigits_big h, List.head?_append] at hh
      have hne := decDigits_ne_nil (u / 10)
      have e : (decDigits (u / 10)).head? = some 48 := by
        cases hd : (decDigits (u / 10)).head? with
        | none => exact absurd (List.head?_eq_none_iff.1 hd) hne
        | some c => rw [hd] at hh; simpa using hh
      have := ih (u / 10) (by omega) e
      omega

theorem lean0_decDigits (u : Nat) : Lean0 (decDigits u) :=
  ⟨decDigits_ne_nil u, allDig_decDigits u, fun h => by
    have := decDigits_head u h
    subst this
    rw [decDigits_small (by decide)]; rfl⟩

theorem dval_pos_of_head {l : List UInt8} (hl : l ≠ []) (hd : AllDig l) (hh : l.head? ≠ some 48) : 10 ^ (l.length - 1) ≤ dval l := by
  cases l with
  | nil => exact absurd rfl hl
  | cons c l =>
    have h1 := isDig_iff.1 (hd c (List.mem_cons_self ..))
    have h2 : c.toNat ≠ 48 := fun e => hh (by
      simp only [List.head?_cons, Option.some.injEq]
      exact UInt8.toNat_inj.1 (by rw [e]; rfl))
    rw [dval_cons]
    simp only [List.length_cons, Nat.add_sub_cancel]
    have : 1 ≤ dv c := by unfold dv; omega
    have := Nat.mul_le_mul_right (10 ^ l.length) this
    omega

theorem decDigits_dval : ∀ (l : List UInt8), Lean0 l → decDigits (dval l) = l := by
  intro l
  induction h : l.length using Nat.strongRecOn generalizing l with
  | ind n ih =>
    intro hl
    obtain ⟨hne, hd, hz⟩ := hl
    rcases List.eq_nil_or_concat l with rfl | ⟨a, c, rfl⟩
    · exact absurd rfl hne
    · rw [List.concat_eq_append] at *
      have hc := isDig_iff.1 (hd c (by simp))
      have ec : c = UInt8.ofNat (48 + (c.toNat - 48)) := by
        apply UInt8.toNat_inj.1
        rw [toNat_dig (by omega)]; omega
      have e1 : dval [c] = c.toNat - 48 := by rw [dval_cons, dval_nil, dv]; simp
      cases a with
      | nil =>
        rw [List.nil_append, e1, decDigits_small (by omega), ← ec]
      | cons b a =>
        have hb : (b :: a).head? ≠ some 48 := fun e => by
          have := hz (by simpa using e)
          simp at this
        have hla : Lean0 (b :: a) := ⟨by simp, hd.left, fun e => absurd e hb⟩
        have hpos := dval_pos_of_head (l := b :: a) (by simp) hd.left hb
        have hp : 1 ≤ 10 ^ ((b :: a).length - 1) := Nat.one_le_pow _ _ (by decide)
        have hv : dval (b :: a ++ [c]) = dval (b :: a) * 10 + (c.toNat - 48) := by
          rw [dval_append, e1]; simp
        rw [hv, decDigits_big (by omega)]
        rw [show (dval (b :: a) * 10 + (c.toNat - 48)) / 10 = dval (b :: a) from by omega,
          show (dval (b :: a) * 10 + (c.toNat - 48)) % 10 = c.toNat - 48 from by omega, ← ec,
          ih (b :: a).length (by rw [← h]; simp) (b :: a) rfl hla]

/-- The zeros in front of digits count for nothing. -/
theorem dval_zeros (n : Nat) (l : List UInt8) : dval (List.replicate n 48 ++ l) = dval l := by
  induction n with
  | zero => rfl
  | succ n ih => rw [List.replicate_succ, List.cons_append, dval_cons, ih, show dv 48 = 0 from rfl, Nat.zero_mul, Nat.zero_add]

theorem dval_replicate (n : Nat) : dval (List.replicate n 48) = 0 := by
  have := dval_zeros n []
  simpa [dval_nil] using this

theorem allDig_replicate (n : Nat) : AllDig (List.replicate n 48) := fun c hc => by
  have := List.eq_of_mem_replicate hc
  subst this; rfl

theorem digitVal_dig {c : UInt8} (h : isDig c = true) : digitVal c = some (c.toNat - 48) := by
  rw [isDig_iff] at h
  simp [digitVal, h]

theorem decFrom_dacc {l : List UInt8} (h : AllDig l) : ∀ a, decFrom a l = some (dacc a l) := by
  induction l with
  | nil => intro a; rfl
  | cons c l ih =>
    intro a
    simp only [decFrom, digitVal_dig (h c (List.mem_cons_self ..)), dacc_cons]
    rw [show c.toNat - 48 = dv c from rfl]
    exact ih (fun x hx => h x (List.mem_cons_of_mem _ hx)) _

theorem decNat_dval {l : List UInt8} (hne : l ≠ []) (h : AllDig l) : Go.Lib.decNat l = some (dval l) := by
  unfold Go.Lib.decNat
  rw [if_neg (by simpa using hne)]
  exact decFrom_dacc h 0

/-- strconv.Atoi at digits. -/
theorem atoi_dval {l : List UInt8} (hne : l ≠ []) (h : AllDig l) : Go.Lib.atoi l = some (dval l : Int) := by
  cases l with
  | nil => exact absurd rfl hne
  | cons c l =>
    have h1 := isDig_iff.1 (h c (List.mem_cons_self ..))
    have n45 : (c == 45) = false := by
      rw [beq_eq_false_iff_ne]; rintro rfl; simp at h1
    have n43 : (c == 43) = false := by
      rw [beq_eq_false_iff_ne]; rintro rfl; simp at h1
    simp only [Go.Lib.atoi, n45, n43, decNat_dval hne h]
    rfl

/-! ### Texts of integers -/

/-- The text of an integer, as bytes. -/
def zl (z : Int) : List UInt8 := itoa z
/-- The text of an integer. -/
def zt (z : Int) : ByteArray := ⟨(zl z).toArray⟩

theorem zl_neg {z : Int} (h : z < 0) : zl z = 45 :: decDigits z.natAbs := by simp [zl, itoa, h]
theorem zl_nonneg {z : Int} (h : 0 ≤ z) : zl z = decDigits z.natAbs := by
  unfold zl itoa
  rw [if_neg (by omega)]
  congr 1
  omega
theorem zl_ofNat (n : Nat) : zl (n : Int) = decDigits n := by rw [zl_nonneg (by omega)]; simp

theorem zt_toList (z : Int) : (zt z).data.toList = zl z := by simp [zt]
theorem zt_size (z : Int) : (zt z).size = (zl z).length := by simp [zt, ByteArray.size]

theorem dig_ne_minus {c : UInt8} (h : isDig c = true) : c ≠ 45 := by
  rintro rfl; simp [isDig] at h

/-- A text without the minus in front. -/
def bare (l : List UInt8) : List UInt8 := if l.head? = some 45 then l.tail else l

theorem head_ne_minus {l : List UInt8} (h : AllDig l) : l.head? ≠ some 45 := by
  cases l with
  | nil => simp
  | cons c l =>
    intro e
    simp only [List.head?_cons, Option.some.injEq] at e
    exact dig_ne_minus (h c (List.mem_cons_self ..)) e

theorem bare_dig {l : List UInt8} (h : AllDig l) : bare l = l := by
  unfold bare; rw [if_neg (head_ne_minus h)]
theorem bare_minus (l : List UInt8) : bare (45 :: l) = l := by simp [bare]

theorem bare_zl (z : Int) : bare (zl z) = decDigits z.natAbs := by
  by_cases h : z < 0
  · rw [zl_neg h, bare_minus]
  · rw [zl_nonneg (by omega), bare_dig (allDig_decDigits _)]

theorem zl_head (z : Int) : (zl z).head? = some 45 ↔ z < 0 := by
  by_cases h : z < 0
  · rw [zl_neg h]; simp [h]
  · rw [zl_nonneg (by omega)]
    constructor
    · intro e; exact absurd e (head_ne_minus (allDig_decDigits _))
    · intro e; exact absurd e h

theorem zl_inj {a b : Int} (h : zl a = zl b) : a = b := by
  have e1 : decDigits a.natAbs = decDigits b.natAbs := by rw [← bare_zl, h, bare_zl]
  have e2 := decDigits_inj e1
  have e3 : a < 0 ↔ b < 0 := by rw [← zl_head, h, zl_head]
  omega

theorem zt_inj {a b : Int} (h : zt a = zt b) : a = b := by
  apply zl_inj
  rw [← zt_toList, h, zt_toList]

theorem zl_ne_nil (z : Int) : zl z ≠ [] := by
  by_cases h : z < 0
  · rw [zl_neg h]; simp
  · rw [zl_nonneg (by omega)]; exact decDigits_ne_nil _

theorem zl_zero : zl 0 = [48] := by rw [zl_nonneg (by omega)]; exact decDigits_small (by decide)
theorem zl_eq_zero {z : Int} : zl z = [48] ↔ z = 0 := by
  constructor
  · intro h; exact zl_inj (by rw [h, zl_zero])
  · rintro rfl; exact zl_zero

theorem zl_length (z : Int) : (zl z).length = nDigits z.natAbs + if z < 0 then 1 else 0 := by
  by_cases h : z < 0
  · rw [zl_neg h, List.length_cons, Go.Lib.decDigits_length, if_pos h]
  · rw [zl_nonneg (by omega), Go.Lib.decDigits_length, if_neg h]; rfl

/-- The error of a text as an integer: 3 for a text that is none, 11 for one that is too long, 0 else. -/
def chkL (l : List UInt8) : Nat :=
  if bare l = [] ∨ (bare l).any (fun c => !isDig c) = true then 3
  else if (bare l).head? = some 48 ∧ l ≠ [48] then 3
  else if 1024 < (bare l).length then 11 else 0

theorem any_nondig {l : List UInt8} : l.any (fun c => !isDig c) = false ↔ AllDig l := by
  constructor
  · intro h c hc
    have := List.any_eq_false.1 h c hc
    simpa using this
  · intro h
    rw [List.any_eq_false]
    intro c hc
    simp [h c hc]

/-- A text is one of an integer just if it is none that has the error 3. -/
theorem chkL_cases (l : List UInt8) : (chkL l = 3 ∧ ∀ z, l ≠ zl z) ∨ (∃ z, l = zl z ∧ chkL l = if 1024 < nDigits z.natAbs then 11 else 0) := by
  unfold chkL
  by_cases h1 : bare l = [] ∨ (bare l).any (fun c => !isDig c) = true
  · rw [if_pos h1]
    refine .inl ⟨rfl, ?_⟩
    rintro z rfl
    rw [bare_zl] at h1
    rcases h1 with h1 | h1
    · exact decDigits_ne_nil _ h1
    · rw [any_nondig.2 (allDig_decDigits _)] at h1; exact Bool.false_ne_true h1
  · rw [if_neg h1]
    rw [not_or] at h1
    obtain ⟨h1, h2⟩ := h1
    have hd : AllDig (bare l) := any_nondig.1 (by simpa using h2)
    by_cases h3 : (bare l).head? = some 48 ∧ l ≠ [48]
    · rw [if_pos h3]
      refine .inl ⟨rfl, ?_⟩
      rintro z rfl
      rw [bare_zl] at h3
      have h4 := decDigits_head _ h3.1
      have h5 : z = 0 := by omega
      exact h3.2 (by rw [h5, zl_zero])
    · rw [if_neg h3]
      right
      have hL : Lean0 (bare l) := ⟨h1, hd, fun e => by
        have : l = [48] := Classical.byContradiction fun h => h3 ⟨e, h⟩
        subst this
        rfl⟩
      have e := decDigits_dval _ hL
      by_cases hm : l.head? = some 45
      · have el : l = 45 :: bare l := by
          cases l with
          | nil => simp at hm
          | cons c l =>
            simp only [List.head?_cons, Option.some.injEq] at hm
            subst hm
            rw [bare_minus]
        have hv : dval (bare l) ≠ 0 := fun h0 => by
          rw [h0] at e
          have : (bare l).head? = some 48 := by rw [← e, decDigits_small (by decide)]; rfl
          exact h3 ⟨this, fun e2 => by rw [e2] at hm; simp at hm⟩
        refine ⟨-(dval (bare l) : Int), ?_, ?_⟩
        · rw [zl_neg (by omega), show (-(dval (bare l) : Int)).natAbs = dval (bare l) from by omega, e]
          exact el
        · rw [show (-(dval (bare l) : Int)).natAbs = dval (bare l) from by omega, ← Go.Lib.decDigits_length, e]
      · have el : bare l = l := by unfold bare; rw [if_neg hm]
        refine ⟨(dval (bare l) : Int), ?_, ?_⟩
        · rw [zl_ofNat, e, el]
        · rw [show (dval (bare l) : Int).natAbs = dval (bare l) from by omega, ← Go.Lib.decDigits_length, e]

theorem chkL_zl (z : Int) : chkL (zl z) = if 1024 < nDigits z.natAbs then 11 else 0 := by
  rcases chkL_cases (zl z) with h | ⟨z', h, h'⟩
  · exact absurd rfl (h.2 z)
  · rw [h', zl_inj h]

theorem chkL_zero {l : List UInt8} (h : chkL l = 0) : ∃ z, l = zl z ∧ nDigits z.natAbs ≤ 1024 := by
  rcases chkL_cases l with h1 | ⟨z, h1, h2⟩
  · omega
  · refine ⟨z, h1, ?_⟩
    rw [h] at h2
    split at h2 <;> omega

theorem chkL_small {z : Int} (h : nDigits z.natAbs ≤ 1024) : chkL (zl z) = 0 := by
  rw [chkL_zl, if_neg]
  omega

end Metro
/-! Texts of rational numbers. No program, no memory. -/
namespace Metro
open Go.Lib (nDigits decDigits)

/-- The integer that a text spells. -/
def zv (l : List UInt8) : Int := if l.head? = some 45 then -(dval (bare l) : Int) else (dval (bare l) : Int)

theorem zv_zl (z : Int) : zv (zl z) = z := by
  unfold zv
  rw [bare_zl, dval_decDigits]
  by_cases h : z < 0
  · rw [if_pos ((zl_head z).2 h)]; omega
  · rw [if_neg (fun e => h ((zl_head z).1 e))]; omega

/-- The text of a rational number, as bytes. -/
def ql (q : Rat) : List UInt8 := if q.den = 1 then zl q.num else zl q.num ++ 47 :: zl (q.den : Int)
/-- The text of a rational number. -/
def qt (q : Rat) : ByteArray := ⟨(ql q).toArray⟩

theorem qt_toList (q : Rat) : (qt q).data.toList = ql q := by simp [qt]

/-- What stands before the first slash. -/
def cutA (l : List UInt8) : List UInt8 := l.takeWhile (· != 47)
/-- Is there a slash? -/
def cutW (l : List UInt8) : Bool := l.contains 47
/-- What stands behind it, or 1. -/
def cutB (l : List UInt8) : List UInt8 := if cutW l then (l.dropWhile (· != 47)).tail else [49]

theorem zl_no_slash (z : Int) : ∀ c ∈ zl z, c ≠ 47 := by
  intro c hc
  by_cases h : z < 0
  · rw [zl_neg h] at hc
    rcases List.mem_cons.1 hc with rfl | hc
    · decide
    · rintro rfl; exact absurd (allDig_decDigits _ _ hc) (by decide)
  · rw [zl_nonneg (by omega)] at hc
    rintro rfl; exact absurd (allDig_decDigits _ _ hc) (by decide)

theorem takeWhile_no {l r : List UInt8} (h : ∀ c ∈ l, c ≠ 47) : (l ++ 47 :: r).takeWhile (· != 47) = l ∧ (l ++ 47 :: r).dropWhile (· != 47) = 47 :: r := by
  induction l with
  | nil => simp
  | cons c l ih =>
    have hc : (c != 47) = true := by rw [bne_iff_ne]; exact h c (List.mem_cons_self ..)
    have := ih fun x hx => h x (List.mem_cons_of_mem _ hx)
    simp only [List.cons_append, List.takeWhile_cons, List.dropWhile_cons, hc, if_true]
    exact ⟨by rw [this.1], this.2⟩

theorem takeWhile_all {l : List UInt8} (h : ∀ c ∈ l, c ≠ 47) : l.takeWhile (· != 47) = l := by
  induction l with
  | nil => rfl
  | cons c l ih =>
    have hc : (c != 47) = true := by rw [bne_iff_ne]; exact h c (List.mem_cons_self ..)
    rw [List.takeWhile_cons, hc, if_pos rfl, ih fun x hx => h x (List.mem_cons_of_mem _ hx)]

theorem contains_no {l : List UInt8} (h : ∀ c ∈ l, c ≠ 47) : l.contains 47 = false := by
  rw [List.contains_eq_any_beq, List.any_eq_false]
  intro c hc e
  exact h c hc (by rw [beq_iff_eq] at e; exact e.symm)

theorem cut_whole {l : List UInt8} (h : ∀ c ∈ l, c ≠ 47) : cutA l = l ∧ cutW l = false ∧ cutB l = [49] := by
  have hw : cutW l = false := contains_no h
  refine ⟨takeWhile_all h, hw, ?_⟩
  unfold cutB; rw [hw]; simp

theorem cut_parts {l r : List UInt8} (h : ∀ c ∈ l, c ≠ 47) : cutA (l ++ 47 :: r) = l ∧ cutW (l ++ 47 :: r) = true ∧ cutB (l ++ 47 :: r) = r := by
  have hw : cutW (l ++ 47 :: r) = true := by simp [cutW]
  refine ⟨(takeWhile_no h).1, hw, ?_⟩
  unfold cutB; rw [hw, if_pos rfl, (takeWhile_no h).2]; rfl

theorem zl_one : zl 1 = [49] := by rw [zl_nonneg (by omega)]; exact decDigits_small (by decide)

theorem cutA_ql (q : Rat) : cutA (ql q) = zl q.num := by
  unfold ql
  split
  · exact (cut_whole (zl_no_slash _)).1
  · exact (cut_parts (zl_no_slash _)).1
theorem cutB_ql (q : Rat) : cutB (ql q) = zl (q.den : Int) := by
  unfold ql
  split
  · rename_i h
    rw [(cut_whole (zl_no_slash _)).2.2, h]; exact zl_one.symm
  · exact (cut_parts (zl_no_slash _)).2.2
theorem cutW_ql (q : Rat) : cutW (ql q) = decide (q.den ≠ 1) := by
  unfold ql
  split
  · rename_i h
    rw [(cut_whole (zl_no_slash _)).2.1]; simp [h]
  · rename_i h
    rw [(cut_parts (zl_no_slash _)).2.1]; simp [h]

theorem ql_inj {p q : Rat} (h : ql p = ql q) : p = q := by
  have h1 : p.num = q.num := zl_inj (by rw [← cutA_ql, h, cutA_ql])
  have h2 : (p.den : Int) = q.den := zl_inj (by rw [← cutB_ql, h, cutB_ql])
  exact Rat.ext h1 (by omega)

theorem qt_inj {p q : Rat} (h : qt p = qt q) : p = q := by
  apply ql_inj
  rw [← qt_toList, h, qt_toList]

/-- A number whose numerator and denominator are not too long. -/
def Fits (q : Rat) : Prop := nDigits q.num.natAbs ≤ 1024 ∧ nDigits q.den ≤ 1024

/-- The error of a text as a rational number. -/
def chkQ (l : List UInt8) : Nat :=
  if chkL (cutA l) = 3 ∨ chkL (cutB l) = 3 then 3
  else if chkL (cutA l) ≠ 0 ∨ chkL (cutB l) ≠ 0 then 11
  else if cutW l = true ∧ (zv (cutB l) ≤ 1 ∨ Int.gcd (zv (cutA l)) (zv (cutB l)) ≠ 1) then 3 else 0

theorem chkL_le (l : List UInt8) : chkL l = 0 ∨ chkL l = 3 ∨ chkL l = 11 := by
  unfold chkL
  split
  · simp
  · split
    · simp
    · split <;> simp
theorem chkQ_le (l : List UInt8) : chkQ l = 0 ∨ chkQ l = 3 ∨ chkQ l = 11 := by
  unfold chkQ
  split
  · simp
  · split
    · simp
    · split <;> simp

theorem chkQ_ql {q : Rat} (h : Fits q) : chkQ (ql q) = 0 := by
  unfold chkQ
  rw [cutA_ql, cutB_ql, cutW_ql, zv_zl, zv_zl]
  have h1 : chkL (zl q.num) = 0 := chkL_small h.1
  have h2 : chkL (zl (q.den : Int)) = 0 := chkL_small h.2
  rw [h1, h2, if_neg (by simp), if_neg (by simp), if_neg]
  rintro ⟨h3, h4⟩
  have hd : q.den ≠ 1 := by simpa using h3
  have hp := q.den_nz
  have hr := q.reduced
  rcases h4 with h4 | h4
  · omega
  · apply h4
    show Nat.gcd q.num.natAbs (q.den : Int).natAbs = 1
    rw [Int.natAbs_natCast]
    exact hr

theorem mem_takeWhile_no {l : List UInt8} {c : UInt8} (h : c ∈ l.takeWhile (· != 47)) : c ≠ 47 := by
  induction l with
  | nil => simp at h
  | cons d l ih =>
    rw [List.takeWhile_cons] at h
    split at h
    · rename_i hd
      rcases List.mem_cons.1 h with rfl | h
      · exact bne_iff_ne.1 hd
      · exact ih h
    · simp at h

theorem cut_join (l : List UInt8) (h : cutW l = true) : l = cutA l ++ 47 :: cutB l := by
  unfold cutB
  rw [h, if_pos rfl]
  unfold cutA
  have hm : (47 : UInt8) ∈ l := by simpa [cutW] using h
  clear h
  induction l with
  | nil => simp at hm
  | cons c l ih =>
    by_cases hc : c = 47
    · subst hc; simp
    · have hb : (c != 47) = true := bne_iff_ne.2 hc
      rw [List.takeWhile_cons, List.dropWhile_cons, if_pos hb, if_pos hb]
      have : (47 : UInt8) ∈ l := by
        rcases List.mem_cons.1 hm with e | hm
        · exact absurd e.symm hc
        · exact hm
      rw [List.cons_append, ← ih this]

theorem cutA_whole {l : List UInt8} (h : cutW l = false) : cutA l = l := by
  apply takeWhile_all
  intro c hc e
  subst e
  have : l.contains 47 = true := by simpa using hc
  unfold cutW at h
  rw [h] at this
  exact Bool.false_ne_true this

theorem chkQ_zero {l : List UInt8} (h : chkQ l = 0) : ∃ q : Rat, l = ql q ∧ Fits q := by
  unfold chkQ at h
  split at h
  · omega
  · rename_i h1
    split at h
    · omega
    · rename_i h2
      split at h
      · omega
      · rename_i h3
        rw [not_or] at h1 h2
        have ha := Classical.not_not.1 h2.1
        have hb := Classical.not_not.1 h2.2
        obtain ⟨n, en, hn⟩ := chkL_zero ha
        obtain ⟨d, ed, hd⟩ := chkL_zero hb
        cases hw : cutW l with
        | false =>
          refine ⟨(n : Rat), ?_, ?_⟩
          · unfold ql
            rw [Rat.den_intCast, if_pos rfl, Rat.num_intCast, ← en, cutA_whole hw]
          · refine ⟨by rw [Rat.num_intCast]; exact hn, ?_⟩
            rw [Rat.den_intCast]
            rw [Go.Lib.nDigits_small (by decide)]; decide
        | true =>
          have h4 : ¬ (d ≤ 1 ∨ Int.gcd n d ≠ 1) := by
            intro e
            apply h3
            refine ⟨hw, ?_⟩
            rw [en, ed, zv_zl, zv_zl]
            exact e
          rw [not_or] at h4
          have hd1 : 1 < d := by omega
          have hg : Int.gcd n d = 1 := Classical.not_not.1 h4.2
          refine ⟨⟨n, d.toNat, by omega, ?_⟩, ?_, ?_⟩
          · change Nat.gcd n.natAbs d.natAbs = 1 at hg
            have : d.natAbs = d.toNat := by omega
            rw [this] at hg
            exact hg
          · unfold ql
            dsimp only
            rw [if_neg (by omega), show ((d.toNat : Nat) : Int) = d from by omega, ← en, ← ed]
            exact cut_join l hw
          · refine ⟨hn, ?_⟩
            dsimp only
            rw [show d.toNat = d.natAbs from by omega]
            exact hd

/-- A text is right just if its error is 0. -/
theorem chkQ_iff (l : List UInt8) : chkQ l = 0 ↔ ∃ q : Rat, l = ql q ∧ Fits q :=
  ⟨chkQ_zero, fun ⟨_, h, hf⟩ => by rw [h]; exact chkQ_ql hf⟩

end Metro
/-! Numbers in words of nine digits: sums, products, quotients word by word. No program, no memory. -/
namespace Metro

/-- The base of the words. -/
def BB : Int := 1000000000
theorem BB_eq : BB = 1000000000 := rfl
theorem BB_pos : 0 < BB := by rw [BB_eq]; omega
theorem BB_pow_pos (n : Nat) : 0 < BB ^ n := Int.pow_pos BB_pos

/-- What the first n words spell. -/
def bs (f : Nat → Int) : Nat → Int
  | 0 => 0
  | n + 1 => bs f n + f n * BB ^ n

theorem bs_zero (f : Nat → Int) : bs f 0 = 0 := by rw [bs]
theorem bs_succ (f : Nat → Int) (n : Nat) : bs f (n + 1) = bs f n + f n * BB ^ n := by rw [bs]

theorem bs_congr {f g : Nat → Int} {n : Nat} (h : ∀ j, j < n → f j = g j) : bs f n = bs g n := by
  induction n with
  | zero => rw [bs_zero, bs_zero]
  | succ n ih => rw [bs_succ, bs_succ, ih fun j hj => h j (by omega), h n (by omega)]

/-- One word turned. -/
def upd (f : Nat → Int) (p : Nat) (v : Int) : Nat → Int := fun j => if j = p then v else f j
theorem upd_same (f : Nat → Int) (p : Nat) (v : Int) : upd f p v p = v := by simp [upd]
theorem upd_other (f : Nat → Int) {p j : Nat} (v : Int) (h : j ≠ p) : upd f p v j = f j := by simp [upd, h]

def InR (f : Nat → Int) : Prop := ∀ j, 0 ≤ f j ∧ f j < BB

theorem bs_nonneg {f : Nat → Int} (h : InR f) (n : Nat) : 0 ≤ bs f n := by
  induction n with
  | zero => rw [bs_zero]; omega
  | succ n ih =>
    rw [bs_succ]
    have := Int.mul_nonneg (h n).1 (Int.le_of_lt (BB_pow_pos n))
    omega

theorem bs_lt {f : Nat → Int} (h : InR f) (n : Nat) : bs f n < BB ^ n := by
  induction n with
  | zero => rw [bs_zero]; simp
  | succ n ih =>
    rw [bs_succ, Int.pow_succ]
    have h1 : f n + 1 ≤ BB := (h n).2
    have h2 := Int.mul_le_mul_of_nonneg_right h1 (Int.le_of_lt (BB_pow_pos n))
    rw [Int.add_mul, Int.one_mul] at h2
    rw [Int.mul_comm (BB ^ n)]
    omega

theorem bs_more {f : Nat → Int} {n m : Nat} (hz : ∀ j, n ≤ j → f j = 0) (h : n ≤ m) : bs f m = bs f n := by
  induction m with
  | zero => rw [show n = 0 from by omega]
  | succ m ih =>
    by_cases e : n = m + 1
    · rw [e]
    · rw [bs_succ, ih (by omega), hz m (by omega), Int.zero_mul, Int.add_zero]

theorem bs_ge {f : Nat → Int} (h : InR f) {n j : Nat} (hj : j < n) : f j * BB ^ j ≤ bs f n := by
  induction n with
  | zero => omega
  | succ n ih =>
    rw [bs_succ]
    by_cases e : j = n
    · subst e
      have := bs_nonneg h j
      omega
    · have := ih (by omega)
      have := Int.mul_nonneg (h n).1 (Int.le_of_lt (BB_pow_pos n))
      omega

/-- The words f, of which the first n count, spell v. -/
structure Spells (f : Nat → Int) (n : Nat) (v : Int) : Prop where
  inr : InR f
  zero : ∀ j, n ≤ j → f j = 0
  val : bs f n = v

/-- .. and the n-th is none of 0. -/
structure Trim (f : Nat → Int) (n : Nat) (v : Int) : Prop extends Spells f n v where
  top : n = 0 ∨ f (n - 1) ≠ 0

theorem Spells.nonneg {f : Nat → Int} {n : Nat} {v : Int} (h : Spells f n v) : 0 ≤ v := by rw [← h.val]; exact bs_nonneg h.inr n
theorem Spells.lt {f : Nat → Int} {n : Nat} {v : Int} (h : Spells f n v) : v < BB ^ n := by rw [← h.val]; exact bs_lt h.inr n
theorem Spells.at_ {f : Nat → Int} {n : Nat} {v : Int} (h : Spells f n v) {m : Nat} (hm : n ≤ m) : bs f m = v := by rw [bs_more h.zero hm, h.val]
theorem Spells.more {f : Nat → Int} {n : Nat} {v : Int} (h : Spells f n v) {m : Nat} (hm : n ≤ m) : Spells f m v := ⟨h.inr, fun j hj => h.zero j (by omega), h.at_ hm⟩

theorem pow_le_of_lt {n m : Nat} (h : BB ^ n < BB ^ m) : n < m := by
  rcases Nat.lt_or_ge n m with h1 | h1
  · exact h1
  · have : BB ^ m ≤ BB ^ n := by
      rw [show n = m + (n - m) from by omega, Int.pow_add]
      have h2 : 1 ≤ BB ^ (n - m) := BB_pow_pos _
      have := Int.mul_le_mul_of_nonneg_left h2 (Int.le_of_lt (BB_pow_pos m))
      omega
    omega

theorem pow_mono {n m : Nat} (h : n ≤ m) : BB ^ n ≤ BB ^ m := by
  rw [show m = n + (m - n) from by omega, Int.pow_add]
  have h2 : 1 ≤ BB ^ (m - n) := BB_pow_pos _
  have := Int.mul_le_mul_of_nonneg_left h2 (Int.le_of_lt (BB_pow_pos n))
  omega

theorem Trim.ge {f : Nat → Int} {n : Nat} {v : Int} (h : Trim f n v) (hn : 0 < n) : BB ^ (n - 1) ≤ v := by
  have h1 : f (n - 1) ≠ 0 := h.top.resolve_left (by omega)
  have h2 := h.inr (n - 1)
  have h3 : 1 ≤ f (n - 1) := by omega
  have h4 := bs_ge h.inr (n := n) (j := n - 1) (by omega)
  rw [h.val] at h4
  have := Int.mul_le_mul_of_nonneg_right h3 (Int.le_of_lt (BB_pow_pos (n - 1)))
  omega

theorem Trim.zero_iff {f : Nat → Int} {n : Nat} {v : Int} (h : Trim f n v) : n = 0 ↔ v = 0 := by
  constructor
  · rintro rfl; rw [← h.val, bs_zero]
  · intro e
    rcases Nat.eq_zero_or_pos n with h0 | h0
    · exact h0
    · have := h.ge h0
      have := BB_pow_pos (n - 1)
      omega

theorem Trim.n_le {f : Nat → Int} {n : Nat} {v : Int} (h : Trim f n v) {m : Nat} (hm : v < BB ^ m) : n ≤ m := by
  rcases Nat.eq_zero_or_pos n with h0 | h0
  · omega
  · have := h.ge h0
    have := pow_le_of_lt (n := n - 1) (m := m) (by omega)
    omega

/-! ### Leaving out words of 0 -/

theorem Spells.shrink {f : Nat → Int} {n : Nat} {v : Int} (h : Spells f (n + 1) v) (hz : f n = 0) : Spells f n v :=
  ⟨h.inr, fun j hj => by
    by_cases e : j = n
    · rw [e, hz]
    · exact h.zero j (by omega), by rw [← h.val, bs_succ, hz]; omega⟩

/-! ### Carry -/

/-- Behind k rounds of carry: f holds what is made of f0, the carry is r. -/
structure Carry (f0 y : Nat → Int) (factor : Int) (up k : Nat) (r : Int) (f : Nat → Int) : Prop where
  same : ∀ j, j < up ∨ up + k ≤ j → f j = f0 j
  inr : InR f
  sum : bs f (up + k) + r * BB ^ (up + k) = bs f0 (up + k) + factor * BB ^ up * bs y k
  lo : -BB ≤ r
  hi : r ≤ BB

theorem Carry.start {f0 : Nat → Int} (y : Nat → Int) (h : InR f0) (factor : Int) (up : Nat) : Carry f0 y factor up 0 0 f0 :=
  ⟨fun _ _ => rfl, h, by rw [bs_zero]; omega, by have := BB_pos; omega, by have := BB_pos; omega⟩

/-- The sum that a round makes. -/
theorem Carry.bounds {f0 y : Nat → Int} {factor : Int} {up k : Nat} {r : Int} {f : Nat → Int} (h : Carry f0 y factor up k r f) (hy : InR y) (h1 : -BB < factor) (h2 : factor < BB) :
    -1000000000000000000 ≤ f (up + k) + r + factor * y k ∧ f (up + k) + r + factor * y k ≤ 1000000000000000000 ∧
    -1000000000000000000 ≤ factor * y k ∧ factor * y k ≤ 1000000000000000000 := by
  have a := h.inr (up + k)
  have b := hy k
  have c := h.lo
  have d := h.hi
  rw [BB_eq] at *
  have e1 : factor * y k ≤ 999999999 * 999999999 := by
    rcases Int.le_total 0 factor with hf | hf
    · exact Int.mul_le_mul (by omega) (by omega) (by omega) (by omega)
    · have := Int.mul_nonneg (show (0 : Int) ≤ -factor by omega) b.1
      rw [Int.neg_mul] at this
      omega
  have e2 : -(999999999 * 999999999) ≤ factor * y k := by
    rcases Int.le_total 0 factor with hf | hf
    · have := Int.mul_nonneg hf b.1
      omega
    · have : (-factor) * y k ≤ 999999999 * 999999999 := Int.mul_le_mul (by omega) (by omega) (by omega) (by omega)
      rw [Int.neg_mul] at this
      omega
  omega

theorem Carry.step {f0 y : Nat → Int} {factor : Int} {up k : Nat} {r : Int} {f : Nat → Int} (h : Carry f0 y factor up k r f) (hy : InR y) (h1 : -BB < factor) (h2 : factor < BB)
    {s d r' : Int} (hs : s = f (up + k) + r + factor * y k) (hd : s = r' * BB + d) (hd0 : 0 ≤ d) (hd1 : d < BB) :
    Carry f0 y factor up (k + 1) r' (upd f (up + k) d) := by
  have hb := h.bounds hy h1 h2
  refine ⟨fun j hj => ?_, fun j => ?_, ?_, ?_, ?_⟩
  · rw [upd_other _ _ (by omega)]
    exact h.same j (by omega)
  · by_cases e : j = up + k
    · subst e; rw [upd_same]; exact ⟨hd0, hd1⟩
    · rw [upd_other _ _ e]; exact h.inr j
  · have e1 : bs (upd f (up + k) d) (up + k) = bs f (up + k) := bs_congr fun j hj => upd_other _ _ (by omega)
    have e2 : f (up + k) = f0 (up + k) := h.same _ (by omega)
    have e3 := h.sum
    rw [show up + (k + 1) = up + k + 1 from by omega, bs_succ, bs_succ, bs_succ, upd_same, e1, Int.pow_succ, Int.mul_add]
    have e4 : d = f (up + k) + r + factor * y k - r' * BB := by omega
    rw [e4, e2]
    have e5 : BB ^ (up + k) = BB ^ up * BB ^ k := Int.pow_add ..
    have e6 : factor * BB ^ up * (y k * BB ^ k) = factor * y k * BB ^ (up + k) := by rw [e5]; grind
    rw [e6]
    generalize BB ^ (up + k) = P at *
    generalize factor * BB ^ up * bs y k = S at *
    generalize factor * y k = T at *
    grind
  · rw [BB_eq] at *; omega
  · rw [BB_eq] at *; omega

theorem spell_unique {p r : Int} {n : Nat} (h0 : 0 ≤ p) (h1 : p < BB ^ n) (h2 : 0 ≤ p + r * BB ^ n) (h3 : p + r * BB ^ n < BB ^ n) : r = 0 := by
  rcases Int.lt_trichotomy r 0 with h | h | h
  · have := Int.mul_le_mul_of_nonneg_right (show r ≤ -1 by omega) (Int.le_of_lt (BB_pow_pos n))
    omega
  · exact h
  · have := Int.mul_le_mul_of_nonneg_right (show 1 ≤ r by omega) (Int.le_of_lt (BB_pow_pos n))
    omega

/-- The words that are left over are there, as long as there is a carry. -/
theorem Carry.room {f0 y : Nat → Int} {factor : Int} {up k n0 ny : Nat} {r v0 vy : Int} {f : Nat → Int} (h : Carry f0 y factor up k r f) (h0 : Spells f0 n0 v0) (hy : Spells y ny vy)
    {m : Nat} (hn0 : n0 ≤ m) (hlo : 0 ≤ v0 + factor * BB ^ up * vy) (hhi : v0 + factor * BB ^ up * vy < BB ^ m) (hk : ny ≤ k) (hr : r ≠ 0) : up + k < m := by
  rcases Nat.lt_or_ge (up + k) m with h1 | h1
  · exact h1
  · exfalso
    apply hr
    have e := h.sum
    rw [h0.at_ (by omega), hy.at_ hk] at e
    refine spell_unique (n := up + k) (bs_nonneg h.inr _) (bs_lt h.inr _) (by rw [e]; exact hlo) ?_
    rw [e]
    exact Int.lt_of_lt_of_le hhi (pow_mono h1)

theorem Carry.done {f0 y : Nat → Int} {factor : Int} {up k n0 ny : Nat} {v0 vy : Int} {f : Nat → Int} (h : Carry f0 y factor up k 0 f) (h0 : Spells f0 n0 v0) (hy : Spells y ny vy) (hk : ny ≤ k) :
    Spells f (max n0 (up + k)) (v0 + factor * BB ^ up * vy) := by
  have hz : ∀ j, max n0 (up + k) ≤ j → f j = 0 := fun j hj => by rw [h.same j (by omega)]; exact h0.zero j (by omega)
  refine ⟨h.inr, hz, ?_⟩
  have e := h.sum
  rw [hy.at_ hk, Int.zero_mul, Int.add_zero] at e
  -- what stands above up + k is that of f0
  have key : ∀ m, up + k ≤ m → bs f m - bs f (up + k) = bs f0 m - bs f0 (up + k) := by
    intro m hm
    induction m with
    | zero => rw [show up + k = 0 from by omega]; omega
    | succ m ih =>
      by_cases e : up + k = m + 1
      · rw [e]; omega
      · have := ih (by omega)
        rw [bs_succ, bs_succ, h.same m (by omega)]
        omega
  have := key (max n0 (up + k)) (by omega)
  rw [h0.at_ (by omega)] at this
  omega

/-! ### Which one is greater -/

theorem bs_top_lt {f g : Nat → Int} (hf : InR f) (hg : InR g) {n i : Nat} (hi : i < n) (he : ∀ j, i < j → j < n → f j = g j) (h : f i < g i) : bs f n < bs g n := by
  induction n with
  | zero => omega
  | succ n ih =>
    rw [bs_succ, bs_succ]
    by_cases e : i = n
    · subst e
      have h1 := bs_lt hf i
      have h2 := bs_nonneg hg i
      have h3 := Int.mul_le_mul_of_nonneg_right (show f i + 1 ≤ g i by omega) (Int.le_of_lt (BB_pow_pos i))
      rw [Int.add_mul, Int.one_mul] at h3
      omega
    · rw [he n (by omega) (by omega)]
      have := ih (by omega) fun j h1 h2 => he j h1 (by omega)
      omega

theorem Trim.lt_of_n {f g : Nat → Int} {n m : Nat} {u v : Int} (hf : Trim f n u) (hg : Trim g m v) (h : n < m) : u < v := by
  have h1 := hf.lt
  have h2 := hg.ge (by omega)
  have := pow_mono (show n ≤ m - 1 by omega)
  omega

/-! ### Long division -/

/-- The words of rest are moved up by one, and x's next one goes below. -/
def push (f : Nat → Int) (v : Int) : Nat → Int
  | 0 => v
  | j + 1 => f j

theorem bs_push (f : Nat → Int) (v : Int) (n : Nat) : bs (push f v) (n + 1) = v + BB * bs f n := by
  induction n with
  | zero => rw [bs_succ, bs_zero, bs_zero]; simp [push]
  | succ n ih =>
    rw [bs_succ, ih, bs_succ]
    show v + BB * bs f n + f n * BB ^ (n + 1) = _
    rw [Int.pow_succ]
    grind

theorem Spells.push {f : Nat → Int} {n : Nat} {v w : Int} (h : Spells f n v) (h0 : 0 ≤ w) (h1 : w < BB) : Spells (push f w) (n + 1) (w + BB * v) := by
  refine ⟨fun j => ?_, fun j hj => ?_, by rw [bs_push, h.val]⟩
  · cases j with
    | zero => exact ⟨h0, h1⟩
    | succ j => exact h.inr j
  · cases j with
    | zero => omega
    | succ j => exact h.zero j (by omega)

theorem bs_pred (f : Nat → Int) {m : Nat} (h : 0 < m) : bs f m = bs f (m - 1) + f (m - 1) * BB ^ (m - 1) := by
  obtain ⟨k, rfl⟩ : ∃ k, m = k + 1 := ⟨m - 1, by omega⟩
  exact bs_succ f k
theorem pow_pred {m : Nat} (h : 0 < m) : BB ^ m = BB ^ (m - 1) * BB := by
  obtain ⟨k, rfl⟩ : ∃ k, m = k + 1 := ⟨m - 1, by omega⟩
  exact Int.pow_succ ..

/-- The two words on top of x, as estimate reads them at y's length. -/
theorem two_top {f : Nat → Int} {n : Nat} {v : Int} (h : Spells f n v) {m : Nat} (hm : 0 < m) (hn : n ≤ m + 1) :
    (f m * BB + f (m - 1)) * BB ^ (m - 1) ≤ v ∧ v < (f m * BB + f (m - 1) + 1) * BB ^ (m - 1) := by
  have e := h.at_ hn
  have e2 : bs f (m + 1) = bs f (m - 1) + f (m - 1) * BB ^ (m - 1) + f m * BB ^ m := by
    rw [bs_succ, bs_pred f hm]
  have e3 : BB ^ m = BB ^ (m - 1) * BB := pow_pred hm
  have h1 := bs_nonneg h.inr (m - 1)
  have h2 := bs_lt h.inr (m - 1)
  rw [e3] at e2
  constructor
  · rw [← e, e2]
    have : (f m * BB + f (m - 1)) * BB ^ (m - 1) = f (m - 1) * BB ^ (m - 1) + f m * (BB ^ (m - 1) * BB) := by grind
    omega
  · rw [← e, e2]
    have : (f m * BB + f (m - 1) + 1) * BB ^ (m - 1) = BB ^ (m - 1) + f (m - 1) * BB ^ (m - 1) + f m * (BB ^ (m - 1) * BB) := by grind
    omega

/-- What estimate returns is at least 1 and not too much. -/
theorem estimate_ok {f g : Nat → Int} {n m : Nat} {u v : Int} (hf : Spells f n u) (hg : Trim g m v) (hm : 0 < m) (hn : n ≤ m + 1) (huv : v ≤ u)
    {a b k : Int} (ha : a = f m * BB + f (m - 1)) (hb : b = if 1 < m then g (m - 1) + 1 else g (m - 1)) (hk : k = a / b) :
    0 < b ∧ 0 ≤ a ∧ (if 0 < k then min k 999999999 else 1) * v ≤ u ∧ 1 ≤ (if 0 < k then min k 999999999 else 1) := by
  have g1 : g (m - 1) ≠ 0 := hg.top.resolve_left (by omega)
  have g2 := hg.inr (m - 1)
  have hb0 : 0 < b := by
    rw [hb]; split <;> omega
  have a0 : 0 ≤ a := by
    rw [ha]
    have := Int.mul_nonneg (hf.inr m).1 (Int.le_of_lt BB_pos)
    have := (hf.inr (m - 1)).1
    omega
  have hv0 := hg.toSpells.nonneg
  refine ⟨hb0, a0, ?_, by split <;> omega⟩
  split
  · rename_i hk0
    -- k v <= u
    have key : k * v ≤ u := by
      have h1 := (two_top hf hm hn).1
      rw [← ha] at h1
      have h2 : v ≤ b * BB ^ (m - 1) := by
        have e := hg.val
        rw [bs_pred g hm] at e
        have h3 := bs_lt hg.inr (m - 1)
        by_cases h4 : 1 < m
        · rw [hb, if_pos h4, Int.add_mul, Int.one_mul]
          omega
        · rw [hb, if_neg h4]
          rw [show m - 1 = 0 from by omega] at *
          rw [bs_zero] at e
          omega
      have h5 : k * b ≤ a := by rw [hk]; exact Int.ediv_mul_le a (by omega)
      have h6 := Int.mul_le_mul_of_nonneg_left h2 (Int.le_of_lt hk0)
      have h7 := Int.mul_le_mul_of_nonneg_right h5 (Int.le_of_lt (BB_pow_pos (m - 1)))
      rw [Int.mul_assoc] at h7
      omega
    have h8 := Int.mul_le_mul_of_nonneg_right (show min k 999999999 ≤ k by omega) hv0
    omega
  · omega

end Metro
/-! Words read from digits, and digits written from words. No program, no memory. -/
namespace Metro
open Go.Lib (decDigits nDigits)

theorem BB_ten : BB = ((10 ^ 9 : Nat) : Int) := rfl

/-! ### Writing -/

/-- A word with zeros in front. -/
def pad9 (w : Nat) : List UInt8 := List.replicate (9 - (decDigits w).length) 48 ++ decDigits w

theorem decDigits_len9 {w : Nat} (h : w < 1000000000) : (decDigits w).length ≤ 9 := by
  rw [Go.Lib.decDigits_length]
  exact (nDigits_le (k := 9) (by decide)).2 h
theorem decDigits_len_pos (w : Nat) : 1 ≤ (decDigits w).length := by
  rw [Go.Lib.decDigits_length]; exact Go.Lib.nDigits_pos w

theorem pad9_length {w : Nat} (h : w < 1000000000) : (pad9 w).length = 9 := by
  have := decDigits_len9 h
  simp [pad9]; omega
theorem pad9_dig (w : Nat) : AllDig (pad9 w) := (allDig_replicate _).append (allDig_decDigits w)
theorem pad9_val (w : Nat) : dval (pad9 w) = w := by
  unfold pad9
  rw [dval_zeros, dval_decDigits]

/-- The first c words below the m-th, from the top, padded. -/
def pads (f : Nat → Int) (m : Nat) : Nat → List UInt8
  | 0 => []
  | c + 1 => pads f m c ++ pad9 (f (m - 1 - c)).toNat

theorem pads_zero (f : Nat → Int) (m : Nat) : pads f m 0 = [] := by rw [pads]
theorem pads_succ (f : Nat → Int) (m c : Nat) : pads f m (c + 1) = pads f m c ++ pad9 (f (m - 1 - c)).toNat := by rw [pads]

theorem pads_dig (f : Nat → Int) (m c : Nat) : AllDig (pads f m c) := by
  induction c with
  | zero => rw [pads_zero]; exact AllDig.nil
  | succ c ih => rw [pads_succ]; exact ih.append (pad9_dig _)

theorem pads_length {f : Nat → Int} (h : InR f) (m c : Nat) : (pads f m c).length = 9 * c := by
  induction c with
  | zero => rw [pads_zero]; rfl
  | succ c ih =>
    have h1 := h (m - 1 - c)
    rw [BB_eq] at h1
    rw [pads_succ, List.length_append, ih, pad9_length (by omega)]; omega

theorem pads_val {f : Nat → Int} (h : InR f) (d : List UInt8) (m : Nat) : ∀ c, c ≤ m → (dval (d ++ pads f m c) : Int) * BB ^ (m - c) + bs f (m - c) = (dval d : Int) * BB ^ m + bs f m := by
  intro c
  induction c with
  | zero => intro _; rw [pads_zero, List.append_nil]; rfl
  | succ c ih =>
    intro hc
    rw [← ih (by omega)]
    have h1 := h (m - 1 - c)
    rw [pads_succ, ← List.append_assoc, dval_append, pad9_val, pad9_length (by rw [BB_eq] at h1; omega)]
    rw [bs_pred f (show 0 < m - c by omega), pow_pred (show 0 < m - c by omega)]
    rw [show m - c - 1 = m - (c + 1) from by omega, show m - 1 - c = m - (c + 1) from by omega]
    have h2 : ((f (m - (c + 1))).toNat : Int) = f (m - (c + 1)) := by
      have := (h (m - (c + 1))).1
      omega
    rw [Int.natCast_add, Int.natCast_mul, h2, ← BB_ten]
    generalize (dval (d ++ pads f m c) : Int) = D
    generalize BB ^ (m - (c + 1)) = P
    grind

/-- What text writes is the number's own text. -/
theorem text_words {f : Nat → Int} {n : Nat} {v : Int} (h : Trim f n v) (hn : 0 < n) : decDigits (f (n - 1)).toNat ++ pads f (n - 1) (n - 1) = decDigits v.natAbs := by
  have htop : f (n - 1) ≠ 0 := h.top.resolve_left (by omega)
  have hr := h.inr (n - 1)
  have hv := pads_val h.inr (decDigits (f (n - 1)).toNat) (n - 1) (n - 1) (Nat.le_refl _)
  rw [Nat.sub_self, bs_zero, Int.pow_zero, dval_decDigits] at hv
  have e : bs f n = bs f (n - 1) + f (n - 1) * BB ^ (n - 1) := bs_pred f hn
  rw [h.val] at e
  have e2 : ((f (n - 1)).toNat : Int) = f (n - 1) := by omega
  rw [e2] at hv
  have e3 : (dval (decDigits (f (n - 1)).toNat ++ pads f (n - 1) (n - 1)) : Int) = v := by omega
  have L : Lean0 (decDigits (f (n - 1)).toNat ++ pads f (n - 1) (n - 1)) := by
    refine ⟨by simp [decDigits_ne_nil], (allDig_decDigits _).append (pads_dig f (n - 1) (n - 1)), fun hh => ?_⟩
    exfalso
    have hne := decDigits_ne_nil (f (n - 1)).toNat
    have : (decDigits (f (n - 1)).toNat).head? = some 48 := by
      rw [List.head?_append] at hh
      cases hd : (decDigits (f (n - 1)).toNat).head? with
      | none => exact absurd (List.head?_eq_none_iff.1 hd) hne
      | some c => rw [hd] at hh; simpa using hh
    have := decDigits_head _ this
    omega
  rw [← decDigits_dval _ L]
  congr 1
  omega

/-! ### Reading -/

/-- Behind n words read: the digits s are left. -/
structure Reading (s0 : List UInt8) (n : Nat) (s : List UInt8) (f : Nat → Int) : Prop where
  dig : AllDig s
  inr : InR f
  zero : ∀ j, n ≤ j → f j = 0
  val : (dval s0 : Int) = dval s * BB ^ n + bs f n

theorem Reading.start {s : List UInt8} (h : AllDig s) : Reading s 0 s (fun _ => 0) :=
  ⟨h, fun _ => ⟨Int.le_refl _, BB_pos⟩, fun _ _ => rfl, by rw [bs_zero]; simp⟩

theorem dval_lt9 {s : List UInt8} (h : AllDig s) (hl : s.length ≤ 9) : (dval s : Int) < BB := by
  have h1 := dval_lt h
  have h2 : 10 ^ s.length ≤ 10 ^ 9 := Nat.pow_le_pow_right (by decide) hl
  rw [BB_ten]
  omega

theorem Reading.step {s0 s : List UInt8} {n : Nat} {f : Nat → Int} (h : Reading s0 n s f) :
    Reading s0 (n + 1) (s.take (s.length - 9)) (upd f n (dval (s.drop (s.length - 9)) : Int)) := by
  have hd : AllDig (s.drop (s.length - 9)) := h.dig.drop _
  have hlen : (s.drop (s.length - 9)).length ≤ 9 := by rw [List.length_drop]; omega
  refine ⟨h.dig.take _, fun j => ?_, fun j hj => ?_, ?_⟩
  · by_cases e : j = n
    · subst e; rw [upd_same]; exact ⟨by omega, dval_lt9 hd hlen⟩
    · rw [upd_other _ _ e]; exact h.inr j
  · rw [upd_other _ _ (by omega)]; exact h.zero j (by omega)
  · rw [bs_succ, upd_same, bs_congr (g := f) (fun j hj => upd_other _ _ (by omega)), h.val]
    have e : dval s = dval (s.take (s.length - 9)) * 10 ^ (s.drop (s.length - 9)).length + dval (s.drop (s.length - 9)) := by
      rw [← dval_append, List.take_append_drop]
    by_cases h9 : 9 ≤ s.length
    · have e9 : (s.drop (s.length - 9)).length = 9 := by rw [List.length_drop]; omega
      rw [e, e9, Int.natCast_add, Int.natCast_mul, ← BB_ten, Int.pow_succ]
      generalize (dval (s.take (s.length - 9)) : Int) = D
      generalize (dval (s.drop (s.length - 9)) : Int) = E
      generalize BB ^ n = P
      grind
    · have e0 : s.length - 9 = 0 := by omega
      rw [e0, List.take_zero, List.drop_zero, dval_nil]
      simp; omega

theorem Reading.done {s0 : List UInt8} {n : Nat} {f : Nat → Int} (h : Reading s0 n [] f) : Spells f n (dval s0 : Int) :=
  ⟨h.inr, h.zero, by have := h.val; rw [dval_nil] at this; simp at this; omega⟩

end Metro
/-! Quotients in lowest terms. No program, no memory. -/
namespace Metro
open Go.Lib (decDigits nDigits)

/-- The divisor by which numerator and denominator are brought to lowest terms: with the sign of the denominator. -/
def lowG (n d : Int) : Int := if d < 0 then -(Int.gcd n d : Int) else (Int.gcd n d : Int)

theorem gcd_pos {n d : Int} (hd : d ≠ 0) : 0 < Int.gcd n d := by
  rcases Nat.eq_zero_or_pos (Int.gcd n d) with h | h
  · have := (Int.gcd_eq_zero_iff.1 h).2
    exact absurd this hd
  · exact h

theorem lowG_ne {n d : Int} (hd : d ≠ 0) : lowG n d ≠ 0 := by
  have := gcd_pos (n := n) hd
  unfold lowG; split <;> omega

theorem low_num {n d : Int} (hd : d ≠ 0) : n.fdiv (lowG n d) = (Rat.divInt n d).num := by
  have hg := gcd_pos (n := n) hd
  obtain ⟨n1, hn⟩ : (Int.gcd n d : Int) ∣ n := Int.gcd_dvd_left ..
  rw [Rat.num_divInt, Int.gcd_comm d n]
  generalize hG : (Int.gcd n d : Int) = G at *
  have hG0 : 0 < G := by omega
  have e : n.fdiv (lowG n d) = d.sign * n1 := by
    unfold lowG
    rw [hG]
    by_cases h : d < 0
    · rw [if_pos h, Int.sign_eq_neg_one_of_neg h, hn, show G * n1 = (-1 * n1) * (-G) from by grind]
      exact Int.mul_fdiv_cancel _ (by omega)
    · rw [if_neg h, Int.sign_eq_one_of_pos (by omega), hn, Int.one_mul, Int.mul_comm]
      exact Int.mul_fdiv_cancel _ (by omega)
  rw [e]
  have : d.sign * n = (d.sign * n1) * G := by rw [hn]; grind
  rw [this, Int.mul_ediv_cancel _ (by omega)]

theorem low_den {n d : Int} (hd : d ≠ 0) : d.fdiv (lowG n d) = ((Rat.divInt n d).den : Int) := by
  have hg := gcd_pos (n := n) hd
  obtain ⟨d1, hn⟩ : (Int.gcd n d : Int) ∣ d := Int.gcd_dvd_right ..
  rw [Rat.den_divInt, if_neg hd, Int.gcd_comm d n]
  generalize hG : Int.gcd n d = G at *
  have hG0 : (0 : Int) < G := by omega
  have e2 : ((d.natAbs / G : Nat) : Int) = (d.natAbs : Int) / (G : Int) := by simp
  rw [e2]
  unfold lowG
  rw [hG]
  by_cases h : d < 0
  · rw [if_pos h]
    have e3 : (d.natAbs : Int) = (-d1) * G := by rw [Int.neg_mul, Int.mul_comm d1, ← hn]; omega
    rw [e3, Int.mul_ediv_cancel _ (by omega)]
    have e4 : d = (-d1) * (-(G : Int)) := by rw [hn]; grind
    conv => lhs; arg 1; rw [e4]
    exact Int.mul_fdiv_cancel _ (by omega)
  · rw [if_neg h]
    have e3 : (d.natAbs : Int) = d1 * G := by rw [Int.mul_comm d1, ← hn]; omega
    rw [e3, Int.mul_ediv_cancel _ (by omega)]
    have e4 : d = d1 * (G : Int) := by rw [hn]; grind
    conv => lhs; arg 1; rw [e4]
    exact Int.mul_fdiv_cancel _ (by omega)

theorem low_num_le {n d : Int} (hd : d ≠ 0) : (Rat.divInt n d).num.natAbs ≤ n.natAbs := by
  have hg := gcd_pos (n := n) hd
  rw [Rat.num_divInt, Int.gcd_comm d n]
  obtain ⟨n1, hn⟩ : (Int.gcd n d : Int) ∣ n := Int.gcd_dvd_left ..
  generalize Int.gcd n d = G at *
  have : d.sign * n = (d.sign * n1) * G := by rw [hn]; grind
  rw [this, Int.mul_ediv_cancel _ (by omega), Int.natAbs_mul, Int.natAbs_sign_of_ne_zero hd, Nat.one_mul, hn, Int.natAbs_mul, Int.natAbs_natCast]
  exact Nat.le_mul_of_pos_left _ hg

theorem low_den_le {n d : Int} (hd : d ≠ 0) : (Rat.divInt n d).den ≤ d.natAbs := by
  rw [Rat.den_divInt, if_neg hd]
  exact Nat.div_le_self _ _

theorem nDigits_mono {a b : Nat} (h : a ≤ b) : nDigits a ≤ nDigits b := by
  rw [nDigits_le (Go.Lib.nDigits_pos b)]
  exact Nat.lt_of_le_of_lt h (Go.Lib.lt_pow_nDigits b)

theorem nDigits_mul (a b : Nat) : nDigits (a * b) ≤ nDigits a + nDigits b := by
  have ha := Go.Lib.nDigits_pos a
  rw [nDigits_le (by omega), Nat.pow_add]
  have h1 := Go.Lib.lt_pow_nDigits a
  have h2 := Go.Lib.lt_pow_nDigits b
  exact Nat.mul_lt_mul'' h1 h2

theorem nDigits_add {a b k : Nat} (ha : nDigits a ≤ k) (hb : nDigits b ≤ k) : nDigits (a + b) ≤ k + 1 := by
  have h0 := Go.Lib.nDigits_pos a
  rw [nDigits_le (by omega)] at *
  rw [Nat.pow_succ]
  omega

theorem Fits.of_divInt {n d : Int} (hd : d ≠ 0) (h1 : nDigits n.natAbs ≤ 1024) (h2 : nDigits d.natAbs ≤ 1024) : Fits (Rat.divInt n d) :=
  ⟨Nat.le_trans (nDigits_mono (low_num_le hd)) h1, Nat.le_trans (nDigits_mono (low_den_le hd)) h2⟩

/-- Quotients over 1 have no slash. -/
theorem ql_joined (q : Rat) : ql q = if zl (q.den : Int) = [49] then zl q.num else zl q.num ++ 47 :: zl (q.den : Int) := by
  unfold ql
  by_cases h : q.den = 1
  · rw [if_pos h, if_pos]; rw [h]; exact zl_one
  · rw [if_neg h, if_neg]
    intro e
    rw [← zl_one] at e
    have := zl_inj e
    omega

theorem den_ne (q : Rat) : (q.den : Int) ≠ 0 := by have := q.den_nz; omega

/-! ### The operations by numerators and denominators -/

theorem add_parts (a b : Rat) : a + b = Rat.divInt (a.num * b.den + b.num * a.den) (a.den * b.den) := by
  have h := Rat.divInt_add_divInt a.num b.num (den_ne a) (den_ne b)
  rw [Rat.num_divInt_den, Rat.num_divInt_den] at h
  exact h
theorem sub_parts (a b : Rat) : a - b = Rat.divInt (a.num * b.den - b.num * a.den) (a.den * b.den) := by
  rw [Rat.sub_eq_add_neg, add_parts, Rat.neg_num, Rat.neg_den, Int.neg_mul, ← Int.sub_eq_add_neg]
theorem mul_parts (a b : Rat) : a * b = Rat.divInt (a.num * b.num) (a.den * b.den) := by
  have h := Rat.divInt_mul_divInt a.num b.num (d₁ := a.den) (d₂ := b.den)
  rw [Rat.num_divInt_den, Rat.num_divInt_den] at h
  exact h
theorem num_ne {b : Rat} (h : b ≠ 0) : b.num ≠ 0 := fun e => h (Rat.num_eq_zero.1 e)
theorem div_parts {a b : Rat} (h : b ≠ 0) : a / b = Rat.divInt (a.num * b.den) (a.den * b.num) := by
  have hb := num_ne h
  have e1 : a = Rat.divInt a.num a.den := (Rat.num_divInt_den a).symm
  have e2 : b = Rat.divInt b.num b.den := (Rat.num_divInt_den b).symm
  have h3 : Rat.divInt (a.num * b.den) (a.den * b.num) * b = a := by
    conv => lhs; arg 2; rw [e2]
    rw [Rat.divInt_mul_divInt]
    conv => rhs; rw [e1]
    rw [Rat.divInt_eq_divInt_iff (Int.mul_ne_zero (Int.mul_ne_zero (den_ne a) hb) (den_ne b)) (den_ne a)]
    grind
  generalize Rat.divInt (a.num * b.den) (a.den * b.num) = q at *
  rw [← h3]
  grind

theorem lt_parts (a b : Rat) : a < b ↔ a.num * b.den < b.num * a.den := Rat.lt_iff a b
theorem le_parts (a b : Rat) : a ≤ b ↔ a.num * b.den ≤ b.num * a.den := Rat.le_iff a b
theorem eq_parts (a b : Rat) : a = b ↔ a.num * b.den = b.num * a.den := by
  constructor
  · rintro rfl; rfl
  · intro h
    have e1 : a = Rat.divInt a.num a.den := (Rat.num_divInt_den a).symm
    have e2 : b = Rat.divInt b.num b.den := (Rat.num_divInt_den b).symm
    rw [e1, e2]
    exact (Rat.divInt_eq_divInt_iff (den_ne a) (den_ne b)).2 h

end Metro
