/- A part of the proof: PaperTor. Conditions: none. -/
import Derived.Test.YtbpegjgpdgeadaaGreatDoorNumQt
import Derived.Test.YtbpegjgpdgeadaaGreatDoorDetMat
/-! Long division, as the words show it. -/
namespace Metro

theorem bs_upd (f : Nat → Int) (g : Nat) (v : Int) : ∀ n, g < n → bs (upd f g v) n = bs f n + (v - f g) * BB ^ g := by
  intro n
  induction n with
  | zero => intro h; omega
  | succ n ih =>
    intro h
    rw [bs_succ, bs_succ]
    by_cases e : g = n
    · subst e
      rw [upd_same, bs_congr (f := upd f g v) (g := f) (fun j hj => upd_other _ _ (by omega))]
      grind
    · rw [ih (by omega), upd_other _ _ (by omega)]
      omega

/-- How far the division has come: d words are left. -/
structure Dived (fx fq : Nat → Int) (nx d : Nat) (vx vy vr : Int) : Prop where
  val : vx = bs fx d + bs fq nx * vy + vr * BB ^ d
  lo : 0 ≤ vr
  hi : vr < vy
  low : ∀ j, j < d → fq j = 0
  inr : InR fq

theorem Dived.start {fx : Nat → Int} {nx : Nat} {vx vy : Int} (h : bs fx nx = vx) (hy : 0 < vy) : Dived fx (fun _ => 0) nx nx vx vy 0 := by
  have e : ∀ n, bs (fun _ => 0) n = 0 := by
    intro n; induction n with
    | zero => rw [bs_zero]
    | succ n ih => rw [bs_succ, ih]; simp
  exact ⟨by rw [h, e]; simp, Int.le_refl _, hy, fun _ _ => rfl, fun _ => ⟨Int.le_refl _, BB_pos⟩⟩

theorem Dived.digit {fx fq : Nat → Int} {nx g : Nat} {vx vy vr D r : Int} (h : Dived fx fq nx (g + 1) vx vy vr) (hx : InR fx) (he : fx g + BB * vr = D * vy + r) (h0 : 0 ≤ r) : D < BB := by
  have h1 := h.hi
  have h2 := h.lo
  have h3 := hx g
  rw [BB_eq] at *
  rcases Int.lt_or_le D 1000000000 with h4 | h4
  · exact h4
  · have h5 : 1000000000 * vy ≤ D * vy := Int.mul_le_mul_of_nonneg_right h4 (by omega)
    omega

theorem Dived.step {fx fq : Nat → Int} {nx g : Nat} {vx vy vr D r : Int} (h : Dived fx fq nx (g + 1) vx vy vr) (hx : InR fx) (hg : g < nx) (hD : 0 ≤ D) (he : fx g + BB * vr = D * vy + r) (h0 : 0 ≤ r) (h1 : r < vy) :
    Dived fx (upd fq g D) nx g vx vy r := by
  have hDB := h.digit hx he h0
  refine ⟨?_, h0, h1, fun j hj => ?_, fun j => ?_⟩
  · have hv := h.val
    rw [bs_upd _ _ _ _ hg, h.low g (by omega)]
    rw [bs_succ, Int.pow_succ] at hv
    have e : (D * vy + r) * BB ^ g = (fx g + BB * vr) * BB ^ g := by rw [he]
    grind
  · rw [upd_other _ _ (by omega)]; exact h.low j (by omega)
  · by_cases e : j = g
    · subst e; rw [upd_same]; exact ⟨hD, hDB⟩
    · rw [upd_other _ _ e]; exact h.inr j

theorem Dived.done {fx fq : Nat → Int} {nx : Nat} {vx vy vr : Int} (h : Dived fx fq nx 0 vx vy vr) : bs fq nx = vx / vy ∧ vr = vx % vy := by
  have hv := h.val
  rw [bs_zero, Int.pow_zero] at hv
  have h1 := h.lo
  have h2 := h.hi
  have e0 : vx = vr + vy * bs fq nx := by rw [Int.mul_comm vy]; omega
  constructor
  · rw [e0, Int.add_mul_ediv_left _ _ (by omega), Int.ediv_eq_zero_of_lt h1 h2]; omega
  · rw [e0, Int.add_mul_emod_self_left, Int.emod_eq_of_lt h1 h2]
end Metro
/-! Sums and differences on paper. -/
namespace Metro

/-- How far a sum or difference of digits has come: the digits from place d on are done. -/
structure Papered (A B l : List UInt8) (sg : Int) (d : Nat) (c : Int) : Prop where
  lb : B.length = A.length
  ll : l.length = A.length
  c0 : 0 ≤ c
  c1 : c ≤ 1
  dig : AllDig (l.drop d)
  val : (dval (A.drop d) : Int) + sg * dval (B.drop d) = dval (l.drop d) + sg * c * (10 ^ (A.length - d) : Nat)

theorem Papered.start {A B l : List UInt8} (h1 : B.length = A.length) (h2 : l.length = A.length) (sg : Int) : Papered A B l sg A.length 0 := by
  refine ⟨h1, h2, Int.le_refl _, by decide, ?_, ?_⟩
  · rw [List.drop_of_length_le (by omega)]; exact AllDig.nil
  · rw [List.drop_of_length_le (Nat.le_refl _), List.drop_of_length_le (by omega), List.drop_of_length_le (by omega), dval_nil]; simp

theorem dval_drop (l : List UInt8) (i : Nat) (h : i < l.length) : dval (l.drop i) = dv l[i] * 10 ^ (l.length - (i + 1)) + dval (l.drop (i + 1)) := by
  rw [List.drop_eq_getElem_cons h, dval_cons, List.length_drop]

theorem drop_set_same (l : List UInt8) (i : Nat) (r : UInt8) (h : i < l.length) : (l.set i r).drop i = r :: l.drop (i + 1) := by
  rw [List.drop_eq_getElem_cons (by simpa using h), List.getElem_set_self, List.drop_set_of_lt (by omega)]

theorem Papered.step {A B l : List UInt8} {sg c r c' : Int} {i : Nat} (h : Papered A B l sg (i + 1) c) (hi : i < A.length) (hr0 : 0 ≤ r) (hr1 : r < 10) (k0 : 0 ≤ c') (k1 : c' ≤ 1)
    (hN : (dv (A[i]'hi) : Int) + sg * (dv (B[i]'(by rw [h.lb]; exact hi)) + c) = r + sg * 10 * c') : Papered A B (l.set i (UInt8.ofNat (48 + r.toNat))) sg i c' := by
  have hb : i < B.length := by rw [h.lb]; exact hi
  have hl : i < l.length := by rw [h.ll]; exact hi
  have hdv : dv (UInt8.ofNat (48 + r.toNat)) = r.toNat := by
    have := dval_one (n := r.toNat) (by omega)
    rw [dval_cons] at this
    simpa [dval_nil] using this
  refine ⟨h.lb, by rw [List.length_set]; exact h.ll, k0, k1, ?_, ?_⟩
  · rw [drop_set_same _ _ _ hl]
    intro x hx
    rcases List.mem_cons.1 hx with rfl | hx
    · rw [isDig_iff]
      simp
      omega
    · exact h.dig x hx
  · rw [drop_set_same _ _ _ hl, dval_cons, hdv, List.length_drop, dval_drop A i hi, dval_drop B i hb, h.ll, h.lb]
    have hv := h.val
    have e : A.length - i = (A.length - (i + 1)) + 1 := by omega
    rw [e, Nat.pow_succ]
    generalize (10 ^ (A.length - (i + 1)) : Nat) = P at *
    push_cast
    have er : (r.toNat : Int) = r := by omega
    rw [er]
    generalize (dv A[i] : Int) = x at *
    generalize (dv B[i] : Int) = y at *
    generalize (dval (A.drop (i + 1)) : Int) = a at *
    generalize (dval (B.drop (i + 1)) : Int) = b at *
    generalize (dval (l.drop (i + 1)) : Int) = m at *
    have e1 : (x + sg * (y + c)) * P = (r + sg * 10 * c') * P := by rw [hN]
    grind

theorem Papered.done {A B l : List UInt8} {sg c : Int} (h : Papered A B l sg 0 c) (v : Nat) (hv : (dval A : Int) + sg * dval B = v) (hs : sg = 1 ∨ sg = -1) (hlt : v < 10 ^ A.length) : dval l = v := by
  have h1 := h.val
  rw [List.drop_zero, List.drop_zero, List.drop_zero, Nat.sub_zero, hv] at h1
  have h2 := dval_lt (l := l) (by simpa using h.dig)
  rw [h.ll] at h2
  have h3 := h.c0
  have h4 := h.c1
  generalize (10 ^ A.length : Nat) = P at *
  rcases (by omega : c = 0 ∨ c = 1) with rfl | rfl
  · simp at h1; omega
  · rcases hs with rfl | rfl <;> simp at h1 <;> omega
end Metro
/-! Products on paper: columns of products of digits. -/
namespace Metro

/-- The value of L columns. -/
def cval (C : Nat → Int) (L : Nat) : Nat → Int
  | 0 => 0
  | n + 1 => cval C L n + C n * (10 ^ (L - 1 - n) : Nat)

theorem cval_upd (C : Nat → Int) (L p : Nat) (v : Int) : ∀ n, p < n → cval (upd C p v) L n = cval C L n + (v - C p) * (10 ^ (L - 1 - p) : Nat) := by
  intro n
  induction n with
  | zero => intro h; omega
  | succ n ih =>
    intro h
    rw [cval, cval]
    by_cases e : p = n
    · subst e
      have hc : ∀ m, m ≤ p → cval (upd C p v) L m = cval C L m := by
        intro m
        induction m with
        | zero => intro _; rfl
        | succ m ihm =>
          intro hm
          rw [cval, cval, ihm (by omega), upd_other _ _ (by omega)]
      rw [hc p (Nat.le_refl _), upd_same]
      generalize ((10 ^ (L - 1 - p) : Nat) : Int) = P
      grind
    · rw [ih (by omega), upd_other _ _ (by omega)]
      omega

theorem cval_zero (L : Nat) : ∀ n, cval (fun _ => 0) L n = 0 := by
  intro n; induction n with
  | zero => rfl
  | succ n ih => rw [cval, ih]; simp

/-- The columns once i digits of a are through, and k digits of b with the next one. -/
structure Cols (A B : List UInt8) (C : Nat → Int) (i k : Nat) : Prop where
  val : cval C (A.length + B.length) (A.length + B.length) = ((dval (A.take i) * 10 ^ (A.length - i) * dval B : Nat) : Int) + (if h : i < A.length then ((dv (A[i]'h) * 10 ^ (A.length - 1 - i) * (dval (B.take k) * 10 ^ (B.length - k)) : Nat) : Int) else 0)
  lo : ∀ j, 0 ≤ C j
  hi : ∀ j, C j ≤ 81 * ((i : Int) + 1)
  later : ∀ j, i + k + 1 ≤ j → C j ≤ 81 * i

theorem Cols.start (A B : List UInt8) : Cols A B (fun _ => 0) 0 0 := by
  refine ⟨?_, fun _ => Int.le_refl _, fun _ => by show (0 : Int) ≤ _; omega, fun _ _ => by show (0 : Int) ≤ _; omega⟩
  rw [cval_zero, List.take_zero, List.take_zero, dval_nil]
  simp

theorem take_dval (l : List UInt8) (k : Nat) (h : k < l.length) : dval (l.take (k + 1)) * 10 ^ (l.length - (k + 1)) = dval (l.take k) * 10 ^ (l.length - k) + dv l[k] * 10 ^ (l.length - 1 - k) := by
  rw [List.take_succ_eq_append_getElem h, dval_append, dval_cons, dval_nil]
  have e : l.length - k = (l.length - (k + 1)) + 1 := by omega
  have e2 : l.length - 1 - k = l.length - (k + 1) := by omega
  rw [e, e2, Nat.pow_succ]
  simp only [List.length_singleton, List.length_nil, Nat.pow_zero, Nat.mul_one, Nat.add_zero, Nat.pow_one]
  generalize 10 ^ (l.length - (k + 1)) = P
  grind

theorem Cols.cell {A B : List UInt8} {C : Nat → Int} {i k : Nat} (h : Cols A B C i k) (hi : i < A.length) (hk : k < B.length) (dA : dv (A[i]'hi) < 10) (dB : dv (B[k]'hk) < 10) :
    Cols A B (upd C (i + k + 1) (C (i + k + 1) + dv (A[i]'hi) * dv (B[k]'hk))) i (k + 1) := by
  have hm : dv (A[i]'hi) * dv (B[k]'hk) ≤ 9 * 9 := Nat.mul_le_mul (by omega) (by omega)
  refine ⟨?_, fun j => ?_, fun j => ?_, fun j hj => ?_⟩
  · rw [cval_upd _ _ _ _ _ (by omega), h.val, dif_pos hi, dif_pos hi]
    have e1 := take_dval B k hk
    have e2 : A.length + B.length - 1 - (i + k + 1) = (A.length - 1 - i) + (B.length - 1 - k) := by omega
    rw [e2, Nat.pow_add]
    generalize dval (B.take (k + 1)) * 10 ^ (B.length - (k + 1)) = u at *
    generalize dval (B.take k) * 10 ^ (B.length - k) = u' at *
    generalize 10 ^ (A.length - 1 - i) = P at *
    generalize 10 ^ (B.length - 1 - k) = Q at *
    subst e1
    push_cast
    grind
  · by_cases e : j = i + k + 1
    · subst e; rw [upd_same]; have := h.lo (i + k + 1); omega
    · rw [upd_other _ _ e]; exact h.lo j
  · by_cases e : j = i + k + 1
    · subst e; rw [upd_same]; have := h.later (i + k + 1) (Nat.le_refl _); omega
    · rw [upd_other _ _ e]; exact h.hi j
  · rw [upd_other _ _ (by omega)]; exact h.later j (by omega)

theorem Cols.next {A B : List UInt8} {C : Nat → Int} {i : Nat} (h : Cols A B C i B.length) (hi : i < A.length) : Cols A B C (i + 1) 0 := by
  refine ⟨?_, h.lo, fun j => by have := h.hi j; push_cast; omega, fun j _ => by have := h.hi j; push_cast; omega⟩
  rw [h.val, dif_pos hi, List.take_zero, dval_nil]
  have e1 := take_dval A i hi
  rw [List.take_length, Nat.sub_self, Nat.pow_zero, Nat.mul_one, e1]
  simp
  generalize (dval (A.take i) : Int) = a
  generalize (dv A[i] : Int) = x
  grind

theorem Cols.done {A B : List UInt8} {C : Nat → Int} (h : Cols A B C A.length 0) : cval C (A.length + B.length) (A.length + B.length) = ((dval A * dval B : Nat) : Int) := by
  rw [h.val, dif_neg (by omega), List.take_length, Nat.sub_self]
  simp

/-- The digits of the columns from place d on, and what is carried. -/
structure Carried (C : Nat → Int) (L : Nat) (l : List UInt8) (d : Nat) (c : Int) : Prop where
  ll : l.length = L
  c0 : 0 ≤ c
  dig : AllDig (l.drop d)
  val : cval C L L = cval C L d + (dval (l.drop d) : Int) + c * (10 ^ (L - d) : Nat)

theorem Carried.start (C : Nat → Int) (L : Nat) (l : List UInt8) (h : l.length = L) : Carried C L l L 0 := by
  refine ⟨h, Int.le_refl _, ?_, ?_⟩
  · rw [List.drop_of_length_le (by omega)]; exact AllDig.nil
  · rw [List.drop_of_length_le (by omega), dval_nil]; simp

theorem Carried.step {C : Nat → Int} {L : Nat} {l : List UInt8} {i : Nat} {c : Int} (h : Carried C L l (i + 1) c) (hi : i < L) (hC : 0 ≤ C i) : Carried C L (l.set i (UInt8.ofNat (48 + ((c + C i) % 10).toNat))) i ((c + C i) / 10) := by
  have hl : i < l.length := by rw [h.ll]; exact hi
  have h0 := h.c0
  have hr0 : 0 ≤ (c + C i) % 10 := by omega
  have hdv : dv (UInt8.ofNat (48 + ((c + C i) % 10).toNat)) = ((c + C i) % 10).toNat := by
    have := dval_one (n := ((c + C i) % 10).toNat) (by omega)
    rw [dval_cons] at this
    simpa [dval_nil] using this
  refine ⟨by rw [List.length_set]; exact h.ll, by omega, ?_, ?_⟩
  · rw [drop_set_same _ _ _ hl]
    intro x hx
    rcases List.mem_cons.1 hx with rfl | hx
    · rw [isDig_iff]; simp; omega
    · exact h.dig x hx
  · rw [drop_set_same _ _ _ hl, dval_cons, hdv, List.length_drop, h.val, cval, h.ll]
    have e : L - i = (L - (i + 1)) + 1 := by omega
    have e2 : L - 1 - i = L - (i + 1) := by omega
    rw [e, e2, Nat.pow_succ]
    generalize (10 ^ (L - (i + 1)) : Nat) = P
    push_cast
    have er : ((((c + C i) % 10).toNat : Nat) : Int) = (c + C i) % 10 := by omega
    rw [er]
    have e3 := Int.emod_add_mul_ediv (c + C i) 10
    generalize (c + C i) % 10 = r at *
    generalize (c + C i) / 10 = q at *
    have e4 : (r + 10 * q) * (P : Int) = (c + C i) * P := by rw [e3]
    grind

theorem Carried.done {C : Nat → Int} {L : Nat} {l : List UInt8} {c : Int} (h : Carried C L l 0 c) (v : Nat) (hv : cval C L L = v) (hlt : v < 10 ^ L) : dval l = v := by
  have h1 := h.val
  rw [hv, List.drop_zero, Nat.sub_zero, cval] at h1
  have h2 := h.c0
  generalize (10 ^ L : Nat) = P at *
  rcases (by omega : c = 0 ∨ 1 ≤ c) with rfl | h3
  · simp at h1; omega
  · have : (1 : Int) * P ≤ c * P := Int.mul_le_mul_of_nonneg_right h3 (by omega)
    omega
end Metro
/-! Long division on paper: the digits of the quotient, one by one. No program, no memory. -/
namespace Metro
open Go.Lib (nDigits decDigits)

/-- The first i digits of A have been divided by b: q are the digits of the quotient, r is the rest. -/
structure Divs (A : List UInt8) (b : Nat) (q : List UInt8) (r i : Nat) : Prop where
  dig : AllDig q
  len : q.length = i
  lt : r < b
  val : dval (A.take i) = dval q * b + r

theorem Divs.start {A : List UInt8} {b : Nat} (hb : 0 < b) : Divs A b [] 0 0 := ⟨AllDig.nil, rfl, hb, by simp [dval_nil]⟩

theorem take_succ_dval (A : List UInt8) (i : Nat) (h : i < A.length) : dval (A.take (i + 1)) = dval (A.take i) * 10 + dv A[i] := by
  rw [List.take_succ_eq_append_getElem h, dval_append]
  simp [dval_cons, dval_nil]

theorem Divs.step {A : List UInt8} {b r i c r' : Nat} {q : List UInt8} (h : Divs A b q r i) (hi : i < A.length) (hc : c < 10) (he : 10 * r + dv A[i] = c * b + r') (hr : r' < b) : Divs A b (q ++ [UInt8.ofNat (48 + c)]) r' (i + 1) := by
  refine ⟨h.dig.append (AllDig.cons (isDig_ofNat hc) AllDig.nil), by simp [h.len], hr, ?_⟩
  rw [take_succ_dval A i hi, h.val, dval_append, dval_one hc]
  simp only [List.length_cons, List.length_nil, Nat.zero_add, Nat.pow_one]
  have : (dval q * 10 + c) * b = dval q * b * 10 + c * b := by rw [Nat.add_mul, Nat.mul_right_comm]
  omega

theorem Divs.done {A : List UInt8} {b r : Nat} {q : List UInt8} (h : Divs A b q r A.length) : dval q = dval A / b ∧ r = dval A % b := by
  have hv := h.val
  rw [List.take_length] at hv
  have hb : 0 < b := by have := h.lt; omega
  constructor
  · rw [hv, Nat.mul_comm, Nat.mul_add_div hb, Nat.div_eq_of_lt h.lt, Nat.add_zero]
  · rw [hv, Nat.mul_comm, Nat.mul_add_mod, Nat.mod_eq_of_lt h.lt]

end Metro
/-! Small displacements in rational numbers. No program, no memory. -/
namespace Metro

/-- The coordinates of a point by number. -/
def crd (x y z : Int) : Nat → Int | 0 => x | 1 => y | _ => z

/-- The coefficients of a coordinate of a point. -/
def frm (x y z : Int) : Nat → Nat → Int
  | 0, 0 => 1 | 0, 4 => z | 0, 5 => -y
  | 1, 1 => 1 | 1, 3 => -z | 1, 5 => x
  | 2, 2 => 1 | 2, 3 => y | 2, 4 => -x
  | _, _ => 0

/-- The sum of the products. -/
def dot6 (c : Nat → Int) (l : Nat → Rat) : Rat := rsum 6 fun i => (c i : Rat) * l i

theorem dot6_eq (c : Nat → Int) (l : Nat → Rat) : dot6 c l = (c 0 : Rat) * l 0 + (c 1 : Rat) * l 1 + (c 2 : Rat) * l 2 + (c 3 : Rat) * l 3 + (c 4 : Rat) * l 4 + (c 5 : Rat) * l 5 := by
  unfold dot6
  rw [rsum_succ, rsum_succ, rsum_succ, rsum_succ, rsum_succ, rsum_succ, rsum_zero]
  grind

/-- Where a coordinate goes. -/
def gone (t : Nat → Rat) (x y z : Int) (i : Nat) : Rat := (crd x y z i : Rat) + dot6 (frm x y z i) t

/-- The numbers of the turn about axis k through a point. -/
def around (k : Nat) (x y z : Int) (q : Rat) : Nat → Rat
  | 0 => -dot6 (frm x y z 0) (fun i => if i = 3 + k then q else 0)
  | 1 => -dot6 (frm x y z 1) (fun i => if i = 3 + k then q else 0)
  | 2 => -dot6 (frm x y z 2) (fun i => if i = 3 + k then q else 0)
  | i => if i = 3 + k then q else 0

/-- The points on the axis of a turn remain in place. -/
theorem gone_around (k : Nat) (hk : k < 3) (x y z x' y' z' : Int) (q : Rat) (h : ∀ i, i < 3 → i ≠ k → crd x' y' z' i = crd x y z i) (i : Nat) (hi : i < 3) :
    gone (around k x y z q) x' y' z' i = (crd x' y' z' i : Rat) := by
  unfold gone
  have h0 := h 0 (by omega); have h1 := h 1 (by omega); have h2 := h 2 (by omega)
  simp only [crd] at h0 h1 h2
  have hk' : k = 0 ∨ k = 1 ∨ k = 2 := by omega
  have hi' : i = 0 ∨ i = 1 ∨ i = 2 := by omega
  rcases hk' with rfl | rfl | rfl <;> rcases hi' with rfl | rfl | rfl <;> simp [dot6_eq, frm, around, crd] at h0 h1 h2 ⊢ <;> (try rw [h0]) <;> (try rw [h1]) <;> (try rw [h2]) <;> grind

/-- Displacements of two points differ by a vector square to their difference. -/
theorem keeps_sum (t : Nat → Rat) (x y z x' y' z' : Int) :
    (0 : Rat) + ((x - x' : Int) : Rat) * (gone t x y z 0 - gone t x' y' z' 0 - ((x - x' : Int) : Rat)) + ((y - y' : Int) : Rat) * (gone t x y z 1 - gone t x' y' z' 1 - ((y - y' : Int) : Rat)) + ((z - z' : Int) : Rat) * (gone t x y z 2 - gone t x' y' z' 2 - ((z - z' : Int) : Rat)) = 0 := by
  simp [gone, dot6_eq, frm, crd, Rat.intCast_sub, Rat.intCast_neg]
  grind
end Metro
