/- A part of the proof: DetMat. Conditions: none. -/
/-! Sums, and determinants by their first row, of rational numbers. No program, no memory. -/
namespace Metro

/-! ### Sums -/

def rsum : Nat → (Nat → Rat) → Rat
  | 0, _ => 0
  | n + 1, f => rsum n f + f n

theorem rsum_zero (f : Nat → Rat) : rsum 0 f = 0 := by rw [rsum]
theorem rsum_succ (n : Nat) (f : Nat → Rat) : rsum (n + 1) f = rsum n f + f n := by rw [rsum]

theorem rsum_congr {n : Nat} {f g : Nat → Rat} (h : ∀ j, j < n → f j = g j) : rsum n f = rsum n g := by
  induction n with
  | zero => rw [rsum_zero, rsum_zero]
  | succ n ih => rw [rsum_succ, rsum_succ, ih fun j hj => h j (by omega), h n (by omega)]

theorem rsum_add (n : Nat) (f g : Nat → Rat) : rsum n (fun j => f j + g j) = rsum n f + rsum n g := by
  induction n with
  | zero => rw [rsum_zero, rsum_zero, rsum_zero]; grind
  | succ n ih => rw [rsum_succ, rsum_succ, rsum_succ, ih]; grind

theorem rsum_sub (n : Nat) (f g : Nat → Rat) : rsum n (fun j => f j - g j) = rsum n f - rsum n g := by
  induction n with
  | zero => rw [rsum_zero, rsum_zero, rsum_zero]; grind
  | succ n ih => rw [rsum_succ, rsum_succ, rsum_succ, ih]; grind

theorem rsum_mul (n : Nat) (a : Rat) (f : Nat → Rat) : rsum n (fun j => a * f j) = a * rsum n f := by
  induction n with
  | zero => simp [rsum_zero]
  | succ n ih => rw [rsum_succ, rsum_succ, ih]; grind

theorem rsum_mul_right (n : Nat) (a : Rat) (f : Nat → Rat) : rsum n (fun j => f j * a) = rsum n f * a := by
  induction n with
  | zero => simp [rsum_zero]
  | succ n ih => rw [rsum_succ, rsum_succ, ih]; grind

theorem rsum_neg (n : Nat) (f : Nat → Rat) : rsum n (fun j => -f j) = -rsum n f := by
  induction n with
  | zero => simp [rsum_zero]
  | succ n ih => rw [rsum_succ, rsum_succ, ih]; grind

theorem rsum_none {n : Nat} {f : Nat → Rat} (h : ∀ j, j < n → f j = 0) : rsum n f = 0 := by
  induction n with
  | zero => exact rsum_zero f
  | succ n ih => rw [rsum_succ, ih fun j hj => h j (by omega), h n (by omega)]; grind

theorem rsum_one {n : Nat} {f : Nat → Rat} {i : Nat} (hi : i < n) (h : ∀ j, j < n → j ≠ i → f j = 0) : rsum n f = f i := by
  induction n with
  | zero => omega
  | succ n ih =>
    rw [rsum_succ]
    by_cases e : i = n
    · subst e
      rw [rsum_none fun j hj => h j (by omega) (by omega)]; grind
    · rw [ih (by omega) fun j hj => h j (by omega), h n (by omega) (by omega)]; grind

theorem rsum_head (n : Nat) (f : Nat → Rat) : rsum (n + 1) f = f 0 + rsum n fun j => f (j + 1) := by
  induction n with
  | zero => rw [rsum_succ, rsum_zero, rsum_zero]; grind
  | succ n ih => rw [rsum_succ, ih, rsum_succ]; grind

theorem rsum_comm (n m : Nat) (f : Nat → Nat → Rat) : rsum n (fun i => rsum m fun j => f i j) = rsum m fun j => rsum n fun i => f i j := by
  induction n with
  | zero => rw [rsum_zero]; exact (rsum_none fun j _ => rsum_zero _).symm
  | succ n ih =>
    rw [rsum_succ, ih, ← rsum_add]
    exact rsum_congr fun j _ => (rsum_succ n fun i => f i j).symm

/-- Two neighbours change places. -/
def sw (j c : Nat) : Nat := if c = j then j + 1 else if c = j + 1 then j else c

theorem rsum_sw {n j : Nat} (f : Nat → Rat) (h : j + 1 < n) : rsum n (fun c => f (sw j c)) = rsum n f := by
  induction n with
  | zero => omega
  | succ n ih =>
    by_cases e : j + 1 = n
    · subst e
      rw [rsum_succ, rsum_succ, rsum_succ, rsum_succ]
      rw [rsum_congr (g := f) fun c hc => by rw [show sw j c = c from by unfold sw; rw [if_neg (by omega), if_neg (by omega)]]]
      rw [show sw j j = j + 1 from by simp [sw], show sw j (j + 1) = j from by simp [sw]]
      grind
    · rw [rsum_succ, rsum_succ, ih (by omega), show sw j n = n from by unfold sw; rw [if_neg (by omega), if_neg (by omega)]]

/-! ### Determinants -/

def sgn (j : Nat) : Rat := if j % 2 = 0 then 1 else -1
theorem sgn_zero : sgn 0 = 1 := rfl
theorem sgn_succ (j : Nat) : sgn (j + 1) = -sgn j := by
  unfold sgn
  by_cases h : j % 2 = 0
  · rw [if_neg (by omega), if_pos h]
  · rw [if_pos (by omega), if_neg h]; simp

/-- The index that is the r-th without i. -/
def skip (i r : Nat) : Nat := if r < i then r else r + 1
theorem skip_zero (r : Nat) : skip 0 r = r + 1 := by simp [skip]
theorem skip_lt {i r : Nat} (h : r < i) : skip i r = r := by simp [skip, h]
theorem skip_ge {i r : Nat} (h : i ≤ r) : skip i r = r + 1 := by unfold skip; rw [if_neg (by omega)]
theorem skip_succ (i r : Nat) : skip (i + 1) (r + 1) = skip i r + 1 := by
  unfold skip
  by_cases h : r < i
  · rw [if_pos (by omega), if_pos h]
  · rw [if_neg (by omega), if_neg h]
theorem skip_le {i r n : Nat} (h : r < n) : skip i r < n + 1 := by unfold skip; split <;> omega

abbrev Mat := Nat → Nat → Rat

def minor (A : Mat) (i j : Nat) : Mat := fun r c => A (skip i r) (skip j c)

def det : Nat → Mat → Rat
  | 0, _ => 1
  | n + 1, A => rsum (n + 1) fun j => sgn j * A 0 j * det n (minor A 0 j)

theorem det_zero (A : Mat) : det 0 A = 1 := by rw [det]
theorem det_succ (n : Nat) (A : Mat) : det (n + 1) A = rsum (n + 1) fun j => sgn j * A 0 j * det n (minor A 0 j) := by rw [det]

theorem det_congr {n : Nat} : ∀ {A B : Mat}, (∀ r c, r < n → c < n → A r c = B r c) → det n A = det n B := by
  induction n with
  | zero => intro A B _; rw [det_zero, det_zero]
  | succ n ih =>
    intro A B h
    rw [det_succ, det_succ]
    refine rsum_congr fun j hj => ?_
    rw [h 0 j (by omega) hj, ih (A := minor A 0 j) (B := minor B 0 j) fun r c hr hc => h _ _ (skip_le hr) (skip_le hc)]

/-! ### Columns -/

def setCol (A : Mat) (j : Nat) (v : Nat → Rat) : Mat := fun r c => if c = j then v r else A r c
theorem setCol_same (A : Mat) (j : Nat) (v : Nat → Rat) (r : Nat) : setCol A j v r j = v r := by simp [setCol]
theorem setCol_other (A : Mat) {j c : Nat} (v : Nat → Rat) (r : Nat) (h : c ≠ j) : setCol A j v r c = A r c := by simp [setCol, h]

/-- Where column j lies once column c is gone. -/
def below (c j : Nat) : Nat := if j < c then j else j - 1

theorem minor_setCol_same (A : Mat) (j : Nat) (v : Nat → Rat) : minor (setCol A j v) 0 j = minor A 0 j := by
  funext r c
  unfold minor
  rw [setCol_other]
  unfold skip; split <;> omega

theorem skip_eq_iff {c j t : Nat} (h : c ≠ j) : skip c t = j ↔ t = below c j := by
  unfold skip below; grind

theorem minor_setCol_other (A : Mat) {j c : Nat} (v : Nat → Rat) (h : c ≠ j) : minor (setCol A j v) 0 c = setCol (minor A 0 c) (below c j) (fun r => v (r + 1)) := by
  funext r t
  unfold minor setCol
  rw [skip_zero]
  by_cases e : t = below c j
  · rw [if_pos e, if_pos ((skip_eq_iff h).2 e)]
  · rw [if_neg e, if_neg fun e2 => e ((skip_eq_iff h).1 e2)]
    show _ = A (skip 0 r) (skip c t)
    rw [skip_zero]

theorem below_lt {c j n : Nat} (h : c ≠ j) (hc : c < n + 1) (hj : j < n + 1) : below c j < n := by
  unfold below; split <;> omega

theorem det_col_lin {n : Nat} : ∀ (A : Mat) {j : Nat}, j < n → ∀ (a b : Rat) (u v : Nat → Rat),
    det n (setCol A j fun r => a * u r + b * v r) = a * det n (setCol A j u) + b * det n (setCol A j v) := by
  induction n with
  | zero => intro A j hj; omega
  | succ n ih =>
    intro A j hj a b u v
    rw [det_succ, det_succ, det_succ, ← rsum_mul, ← rsum_mul, ← rsum_add]
    refine rsum_congr fun c hc => ?_
    by_cases e : c = j
    · subst e
      rw [minor_setCol_same, minor_setCol_same, minor_setCol_same, setCol_same, setCol_same, setCol_same]
      grind
    · rw [minor_setCol_other _ _ e, minor_setCol_other _ _ e, minor_setCol_other _ _ e, setCol_other _ _ _ e, setCol_other _ _ _ e, setCol_other _ _ _ e]
      rw [ih (minor A 0 c) (below_lt e hc hj) a b (fun r => u (r + 1)) (fun r => v (r + 1))]
      grind

def swapCol (A : Mat) (j : Nat) : Mat := fun r c => A r (sw j c)

theorem sw_skip_at (j t : Nat) : sw j (skip j t) = skip (j + 1) t := by unfold sw skip; grind
theorem sw_skip_next (j t : Nat) : sw j (skip (j + 1) t) = skip j t := by unfold sw skip; grind
theorem sw_skip_other {j c : Nat} (t : Nat) (h : c ≠ j) (h' : c ≠ j + 1) : sw j (skip c t) = skip c (sw (below c j) t) := by unfold sw skip below; grind

theorem minor_swap_at (A : Mat) (j : Nat) : minor (swapCol A j) 0 j = minor A 0 (j + 1) := by
  funext r t
  unfold minor swapCol
  rw [sw_skip_at]
theorem minor_swap_next (A : Mat) (j : Nat) : minor (swapCol A j) 0 (j + 1) = minor A 0 j := by
  funext r t
  unfold minor swapCol
  rw [sw_skip_next]
theorem minor_swap_other (A : Mat) {j c : Nat} (h : c ≠ j) (h' : c ≠ j + 1) : minor (swapCol A j) 0 c = swapCol (minor A 0 c) (below c j) := by
  funext r t
  unfold minor swapCol
  rw [sw_skip_other t h h']

theorem det_swap {n : Nat} : ∀ (A : Mat) {j : Nat}, j + 1 < n → det n (swapCol A j) = -det n A := by
  induction n with
  | zero => intro A j hj; omega
  | succ n ih =>
    intro A j hj
    rw [det_succ, det_succ, ← rsum_neg, ← rsum_sw (fun c => -(sgn c * A 0 c * det n (minor A 0 c))) hj]
    refine rsum_congr fun c hc => ?_
    show sgn c * A 0 (sw j c) * _ = _
    by_cases e : c = j
    · subst e
      rw [minor_swap_at, show sw c c = c + 1 from by simp [sw], sgn_succ]; grind
    · by_cases e' : c = j + 1
      · subst e'
        rw [minor_swap_next, show sw j (j + 1) = j from by simp [sw], sgn_succ]; grind
      · have es : sw j c = c := by unfold sw; rw [if_neg e, if_neg e']
        have hb : below c j + 1 < n := by unfold below; split <;> omega
        rw [minor_swap_other A e e', es, ih _ hb]; grind

theorem det_same_col {n : Nat} : ∀ (d : Nat) (A : Mat) {i j : Nat}, j - i = d → i < j → j < n → (∀ r, r < n → A r i = A r j) → det n A = 0 := by
  intro d
  induction d with
  | zero => intro A i j hd hij; omega
  | succ d ih =>
    intro A i j hd hij hj h
    by_cases e : j = i + 1
    · subst e
      have h1 := det_swap A hj
      have h2 : det n (swapCol A i) = det n A := det_congr fun r c hr hc => by
        unfold swapCol sw
        split
        · rename_i e; rw [e]; exact (h r hr).symm
        · split
          · rename_i e; rw [e]; exact h r hr
          · rfl
      rw [h2] at h1
      grind
    · have h1 := det_swap (n := n) A (j := j - 1) (by omega)
      have h2 : det n (swapCol A (j - 1)) = 0 := ih (swapCol A (j - 1)) (i := i) (j := j - 1) (by omega) (by omega) (by omega) fun r hr => by
        unfold swapCol
        rw [show sw (j - 1) i = i from by unfold sw; rw [if_neg (by omega), if_neg (by omega)], show sw (j - 1) (j - 1) = j from by unfold sw; rw [if_pos rfl]; omega]
        exact h r hr
      rw [h2] at h1
      grind

theorem det_two_cols {n : Nat} (A : Mat) {i j : Nat} (hi : i < n) (hj : j < n) (hne : i ≠ j) (h : ∀ r, r < n → A r i = A r j) : det n A = 0 := by
  rcases Nat.lt_or_ge i j with h1 | h1
  · exact det_same_col (j - i) A rfl h1 hj h
  · exact det_same_col (i - j) A rfl (by omega) hi fun r hr => (h r hr).symm

/-! ### The first column; turned matrices -/

def tr (A : Mat) : Mat := fun r c => A c r

theorem det_first_col {n : Nat} : ∀ (A : Mat), det (n + 1) A = rsum (n + 1) fun i => sgn i * A i 0 * det n (minor A i 0) := by
  induction n with
  | zero => intro A; rw [det_succ, rsum_succ, rsum_succ, rsum_zero, rsum_zero, det_zero]
  | succ n ih =>
    intro A
    rw [det_succ, rsum_head (n + 1), rsum_head (n + 1) fun i => sgn i * A i 0 * det (n + 1) (minor A i 0)]
    congr 1
    have e1 : rsum (n + 1) (fun j => sgn (j + 1) * A 0 (j + 1) * det (n + 1) (minor A 0 (j + 1))) =
        rsum (n + 1) fun j => rsum (n + 1) fun i => sgn (j + 1) * A 0 (j + 1) * (sgn i * A (i + 1) 0 * det n (minor (minor A 0 (j + 1)) i 0)) := by
      refine rsum_congr fun j _ => ?_
      rw [ih, ← rsum_mul]
      rfl
    have e2 : rsum (n + 1) (fun i => sgn (i + 1) * A (i + 1) 0 * det (n + 1) (minor A (i + 1) 0)) =
        rsum (n + 1) fun i => rsum (n + 1) fun j => sgn (i + 1) * A (i + 1) 0 * (sgn j * A 0 (j + 1) * det n (minor (minor A (i + 1) 0) 0 j)) := by
      refine rsum_congr fun i _ => ?_
      rw [det_succ, ← rsum_mul]
      rfl
    rw [e1, e2, rsum_comm]
    refine rsum_congr fun i _ => rsum_congr fun j _ => ?_
    have e3 : minor (minor A 0 (j + 1)) i 0 = minor (minor A (i + 1) 0) 0 j := by
      funext r c
      unfold minor
      rw [skip_zero, skip_zero, skip_zero, skip_zero, skip_succ, skip_succ]
    rw [e3, sgn_succ, sgn_succ]; grind

theorem det_tr {n : Nat} : ∀ (A : Mat), det n (tr A) = det n A := by
  induction n with
  | zero => intro A; rw [det_zero, det_zero]
  | succ n ih =>
    intro A
    rw [det_succ, det_first_col]
    refine rsum_congr fun j _ => ?_
    rw [show minor (tr A) 0 j = tr (minor A j 0) from rfl, ih]
    rfl

/-! ### Rows -/

def setRow (A : Mat) (i : Nat) (v : Nat → Rat) : Mat := fun r c => if r = i then v c else A r c
theorem setRow_same (A : Mat) (i : Nat) (v : Nat → Rat) (c : Nat) : setRow A i v i c = v c := by simp [setRow]
theorem setRow_other (A : Mat) {i r : Nat} (v : Nat → Rat) (c : Nat) (h : r ≠ i) : setRow A i v r c = A r c := by simp [setRow, h]
theorem tr_setRow (A : Mat) (i : Nat) (v : Nat → Rat) : tr (setRow A i v) = setCol (tr A) i v := rfl

theorem det_row_lin {n : Nat} (A : Mat) {i : Nat} (hi : i < n) (a b : Rat) (u v : Nat → Rat) :
    det n (setRow A i fun c => a * u c + b * v c) = a * det n (setRow A i u) + b * det n (setRow A i v) := by
  rw [← det_tr, ← det_tr (setRow A i u), ← det_tr (setRow A i v), tr_setRow, tr_setRow, tr_setRow]
  exact det_col_lin _ hi a b u v

theorem det_two_rows {n : Nat} (A : Mat) {i j : Nat} (hi : i < n) (hj : j < n) (hne : i ≠ j) (h : ∀ c, c < n → A i c = A j c) : det n A = 0 := by
  rw [← det_tr]
  exact det_two_cols (tr A) hi hj hne h

theorem setRow_self (A : Mat) (i : Nat) : setRow A i (A i) = A := by
  funext r c
  unfold setRow
  split
  · rename_i e; rw [e]
  · rfl

/-- A row is multiplied. -/
theorem det_row_scale {n : Nat} (A : Mat) {i : Nat} (hi : i < n) (a : Rat) (u : Nat → Rat) : det n (setRow A i fun c => a * u c) = a * det n (setRow A i u) := by
  have h := det_row_lin A hi a 0 u u
  have e : (setRow A i fun c => a * u c + 0 * u c) = setRow A i fun c => a * u c := by
    congr 1; funext c; grind
  rw [e] at h
  rw [h]; grind

theorem det_row_zero {n : Nat} (A : Mat) {i : Nat} (hi : i < n) (h : ∀ c, c < n → A i c = 0) : det n A = 0 := by
  have e : det n A = det n (setRow A i fun c => 0 * (A i) c) := det_congr fun r c _ hc => by
    unfold setRow
    split
    · rename_i e; rw [e, h c hc]; grind
    · rfl
  rw [e, det_row_scale _ hi]; grind

/-- A multiple of a row is added to another one. -/
theorem det_row_plus {n : Nat} (A : Mat) {i j : Nat} (hi : i < n) (hj : j < n) (hne : i ≠ j) (a : Rat) : det n (setRow A i fun c => A i c + a * A j c) = det n A := by
  have h := det_row_lin A hi 1 a (A i) (A j)
  have e : (setRow A i fun c => 1 * A i c + a * A j c) = setRow A i fun c => A i c + a * A j c := by
    congr 1; funext c; grind
  have z : det n (setRow A i (A j)) = 0 := det_two_rows _ hi hj hne fun c _ => by
    rw [setRow_same, setRow_other _ _ _ (Ne.symm hne)]
  rw [e, z, setRow_self] at h
  rw [h]; grind

/-- Two rows change places. -/
def swapRow (A : Mat) (i j : Nat) : Mat := fun r c => A (if r = i then j else if r = j then i else r) c

theorem det_row_swap {n : Nat} (A : Mat) {i j : Nat} (hi : i < n) (hj : j < n) (hne : i ≠ j) : det n (swapRow A i j) = -det n A := by
  -- the rows u + v at both places
  have key : ∀ u v : Nat → Rat, det n (setRow (setRow A i u) j v) = -det n (setRow (setRow A i v) j u) := by
    intro u v
    have z : ∀ w : Nat → Rat, det n (setRow (setRow A i w) j w) = 0 := fun w => det_two_rows _ hi hj hne fun c _ => by
      rw [setRow_other _ _ _ hne, setRow_same, setRow_same]
    have h0 := z fun c => 1 * u c + 1 * v c
    rw [det_row_lin _ hj] at h0
    have comm : ∀ w x : Nat → Rat, setRow (setRow A i w) j x = setRow (setRow A j x) i w := fun w x => by
      funext r c
      unfold setRow
      split
      · rename_i e; subst e; rw [if_neg (Ne.symm hne)]
      · rfl
    rw [comm _ u, comm _ v, det_row_lin _ hi, det_row_lin _ hi, ← comm, ← comm, ← comm, ← comm, z, z] at h0
    grind
  have h := key (A j) (A i)
  have e1 : setRow (setRow A i (A j)) j (A i) = swapRow A i j := by
    funext r c
    unfold setRow swapRow
    by_cases a : r = j
    · rw [if_pos a, if_neg (by omega), if_pos a]
    · rw [if_neg a]
      by_cases b : r = i
      · rw [if_pos b, if_pos b]
      · rw [if_neg b, if_neg b, if_neg a]
  have e2 : setRow (setRow A i (A i)) j (A j) = A := by rw [setRow_self, setRow_self]
  rw [e1, e2] at h
  exact h

/-! ### Cramer's rule -/

theorem det_col_sum {n : Nat} (A : Mat) {j : Nat} (hj : j < n) (m : Nat) (x : Nat → Rat) (w : Nat → Nat → Rat) :
    det n (setCol A j fun r => rsum m fun c => x c * w c r) = rsum m fun c => x c * det n (setCol A j (w c)) := by
  induction m with
  | zero =>
    rw [rsum_zero]
    have h := det_col_lin A hj 0 0 (fun _ => 0) (fun _ => 0)
    have e : (setCol A j fun r => rsum 0 fun c => x c * w c r) = setCol A j fun r => 0 * (fun _ => (0 : Rat)) r + 0 * (fun _ => (0 : Rat)) r := by
      congr 1; funext r; rw [rsum_zero]; grind
    rw [e, h]; grind
  | succ m ih =>
    have h := det_col_lin A hj 1 (x m) (fun r => rsum m fun c => x c * w c r) (w m)
    have e : (setCol A j fun r => rsum (m + 1) fun c => x c * w c r) = setCol A j fun r => 1 * (rsum m fun c => x c * w c r) + x m * w m r := by
      congr 1; funext r; rw [rsum_succ]; grind
    rw [e, h, ih, rsum_succ]; grind

theorem cramer {n : Nat} (A : Mat) (x v : Nat → Rat) (h : ∀ r, r < n → rsum n (fun c => A r c * x c) = v r) {j : Nat} (hj : j < n) : det n (setCol A j v) = x j * det n A := by
  have e1 : det n (setCol A j v) = det n (setCol A j fun r => rsum n fun c => x c * A r c) := det_congr fun r c hr _ => by
    unfold setCol
    split
    · rw [← h r hr]; exact rsum_congr fun c _ => Rat.mul_comm _ _
    · rfl
  rw [e1, det_col_sum A hj n x fun c r => A r c, rsum_one hj]
  · congr 1
    apply det_congr
    intro r c _ _
    unfold setCol
    split
    · rename_i e; rw [e]
    · rfl
  · intro c hc hne
    rw [det_two_cols (setCol A j fun r => A r c) hc hj hne fun r _ => by rw [setCol_other _ _ _ hne, setCol_same]]
    grind

end Metro
/-! The elimination: rows brought to the reduced echelon form, column by column. No program, no memory. -/
namespace Metro

/-- What is worked on: the entries, the number of leading columns, these, and the determinant so far. -/
structure ES where
  cur : Mat
  n : Nat
  ld : Nat → Nat
  d : Rat

/-- The first row from i on with an entry in column k, of so many rows; the row behind them if there is none. -/
def piv (A : Mat) (k : Nat) : Nat → Nat → Nat
  | i, 0 => i
  | i, m + 1 => if A i k = 0 then piv A k (i + 1) m else i

theorem piv_zero (A : Mat) (k i : Nat) : piv A k i 0 = i := by rw [piv]
theorem piv_succ (A : Mat) (k i m : Nat) : piv A k i (m + 1) = if A i k = 0 then piv A k (i + 1) m else i := by rw [piv]

theorem piv_spec (A : Mat) (k : Nat) : ∀ m i, i ≤ piv A k i m ∧ piv A k i m ≤ i + m ∧ (∀ r, i ≤ r → r < piv A k i m → A r k = 0) ∧ (piv A k i m < i + m → A (piv A k i m) k ≠ 0) := by
  intro m
  induction m with
  | zero => intro i; rw [piv_zero]; exact ⟨by omega, by omega, fun r h1 h2 => by omega, fun h => by omega⟩
  | succ m ih =>
    intro i
    rw [piv_succ]
    by_cases h : A i k = 0
    · rw [if_pos h]
      obtain ⟨h1, h2, h3, h4⟩ := ih (i + 1)
      refine ⟨by omega, by omega, fun r hr1 hr2 => ?_, fun hh => h4 (by omega)⟩
      by_cases e : r = i
      · rw [e]; exact h
      · exact h3 r (by omega) hr2
    · rw [if_neg h]
      exact ⟨by omega, by omega, fun r h1 h2 => by omega, fun _ => h⟩

theorem swapRow_self (A : Mat) (i : Nat) : swapRow A i i = A := by
  funext r c
  unfold swapRow
  split
  · rename_i e; rw [e]
  · rfl

/-- The rows behind a pivot: row p, whose entry in column k is not 0, is divided by it, and taken from all others. -/
def clear (A : Mat) (p k : Nat) : Mat := fun r c => if r = p then A p c / A p k else A r c - A r k * (A p c / A p k)

/-- One column. -/
def estep (R : Nat) (s : ES) (k : Nat) : ES :=
  if piv s.cur k s.n (R - s.n) < R then
    { cur := clear (swapRow s.cur (piv s.cur k s.n (R - s.n)) s.n) s.n k
      n := s.n + 1
      ld := fun t => if t = s.n then k else s.ld t
      d := (if piv s.cur k s.n (R - s.n) ≠ s.n then 0 - s.d else s.d) * swapRow s.cur (piv s.cur k s.n (R - s.n)) s.n s.n k }
  else s

def estart (A : Mat) : ES := { cur := A, n := 0, ld := fun _ => 0, d := 1 }

/-- The first columns. -/
def ered (R : Nat) (A : Mat) : Nat → ES
  | 0 => estart A
  | k + 1 => estep R (ered R A k) k

theorem ered_zero (R : Nat) (A : Mat) : ered R A 0 = estart A := by rw [ered]
theorem ered_succ (R : Nat) (A : Mat) (k : Nat) : ered R A (k + 1) = estep R (ered R A k) k := by rw [ered]

/-! ### The shape -/

/-- The first k columns are in the reduced echelon form. -/
structure Shape (R k : Nat) (s : ES) : Prop where
  le : s.n ≤ R
  lt : ∀ t, t < s.n → s.ld t < k
  asc : ∀ t u, t < u → u < s.n → s.ld t < s.ld u
  unit : ∀ t r, t < s.n → r < R → s.cur r (s.ld t) = if r = t then 1 else 0
  low : ∀ r c, s.n ≤ r → r < R → c < k → s.cur r c = 0
  ech : ∀ t c, t < s.n → c < s.ld t → s.cur t c = 0

theorem Shape.start (R : Nat) (A : Mat) : Shape R 0 (estart A) :=
  ⟨Nat.zero_le _, fun _ h => absurd h (Nat.not_lt_zero _), fun _ _ _ h => absurd h (Nat.not_lt_zero _), fun _ _ h => absurd h (Nat.not_lt_zero _), fun _ _ _ _ h => absurd h (Nat.not_lt_zero _), fun _ _ h => absurd h (Nat.not_lt_zero _)⟩

theorem rat_div_self {a : Rat} (h : a ≠ 0) : a / a = 1 := by grind

theorem Shape.step {R k : Nat} {s : ES} (h : Shape R k s) : Shape R (k + 1) (estep R s k) := by
  obtain ⟨p1, p2, p3, p4⟩ := piv_spec s.cur k (R - s.n) s.n
  unfold estep
  generalize piv s.cur k s.n (R - s.n) = p at *
  have hle := h.le
  split
  · rename_i hp
    have hpk := p4 (by omega)
    -- the swapped rows
    have sw_at : ∀ c, swapRow s.cur p s.n s.n c = s.cur p c := fun c => by
      unfold swapRow
      by_cases e : s.n = p
      · rw [if_pos e, e]
      · rw [if_neg e, if_pos rfl]
    have sw_other : ∀ r c, r ≠ s.n → r ≠ p → swapRow s.cur p s.n r c = s.cur r c := fun r c h1 h2 => by
      unfold swapRow; rw [if_neg h2, if_neg h1]
    have sw_p : ∀ c, p ≠ s.n → swapRow s.cur p s.n p c = s.cur s.n c := fun c _ => by
      unfold swapRow; rw [if_pos rfl]
    have low : ∀ r c, s.n ≤ r → r < R → c < k → swapRow s.cur p s.n r c = 0 := fun r c h1 h2 h3 => by
      by_cases e1 : r = s.n
      · rw [e1, sw_at]; exact h.low p c p1 hp h3
      · by_cases e2 : r = p
        · rw [e2, sw_p c (by omega)]; exact h.low s.n c (by omega) (by omega) h3
        · rw [sw_other r c e1 e2]; exact h.low r c h1 h2 h3
    have top : ∀ t c, t < s.n → swapRow s.cur p s.n t c = s.cur t c := fun t c ht => sw_other t c (by omega) (by omega)
    have hf : swapRow s.cur p s.n s.n k ≠ 0 := by rw [sw_at]; exact hpk
    generalize hA : swapRow s.cur p s.n = A at *
    refine ⟨?_, ?_, ?_, ?_, ?_, ?_⟩
    · show s.n + 1 ≤ R; omega
    · intro t ht
      show (if t = s.n then k else s.ld t) < k + 1
      split
      · omega
      · have := h.lt t (by have : t < s.n + 1 := ht; omega); omega
    · intro t u htu hu
      show (if t = s.n then k else s.ld t) < (if u = s.n then k else s.ld u)
      have hu' : u < s.n + 1 := hu
      rw [if_neg (by omega)]
      split
      · exact h.lt t (by omega)
      · exact h.asc t u htu (by omega)
    · intro t r ht hr
      have ht' : t < s.n + 1 := ht
      show clear A s.n k r (if t = s.n then k else s.ld t) = _
      unfold clear
      by_cases e : t = s.n
      · subst e
        rw [if_pos rfl]
        by_cases e2 : r = s.n
        · rw [if_pos e2, if_pos e2, rat_div_self hf]
        · rw [if_neg e2, if_neg e2, rat_div_self hf]; grind
      · rw [if_neg e]
        have hz : A s.n (s.ld t) = 0 := low s.n _ (by omega) (by omega) (h.lt t (by omega))
        rw [hz]
        by_cases e2 : r = s.n
        · rw [if_pos e2, if_neg (by omega)]; grind
        · rw [if_neg e2]
          have : A r (s.ld t) = if r = t then 1 else 0 := by
            by_cases e3 : r < s.n
            · rw [top r _ e3]; exact h.unit t r (by omega) hr
            · rw [low r _ (by omega) hr (h.lt t (by omega)), if_neg (by omega)]
          rw [this]
          grind
    · intro r c hr1 hr2 hc
      have hr1' : s.n + 1 ≤ r := hr1
      show clear A s.n k r c = 0
      unfold clear
      rw [if_neg (by omega)]
      by_cases e : c = k
      · subst e; rw [rat_div_self hf]; grind
      · rw [low r c (by omega) hr2 (by omega), low s.n c (by omega) (by omega) (by omega)]
        grind
    · intro t c ht hc
      have ht' : t < s.n + 1 := ht
      have hc' : c < (if t = s.n then k else s.ld t) := hc
      show clear A s.n k t c = 0
      unfold clear
      by_cases e : t = s.n
      · rw [if_pos e]
        rw [if_pos e] at hc'
        rw [low s.n c (by omega) (by omega) hc']; grind
      · rw [if_neg e] at hc' ⊢
        have hlt := h.lt t (by omega)
        rw [low s.n c (by omega) (by omega) (by omega), top t c (by omega), h.ech t c (by omega) hc']
        grind
  · rename_i hp
    refine ⟨hle, fun t ht => by have := h.lt t ht; omega, h.asc, h.unit, fun r c h1 h2 h3 => ?_, h.ech⟩
    by_cases e : c = k
    · subst e; exact p3 r h1 (by omega)
    · exact h.low r c h1 h2 (by omega)

theorem ered_shape (R : Nat) (A : Mat) (k : Nat) : Shape R k (ered R A k) := by
  induction k with
  | zero => exact Shape.start R A
  | succ k ih => rw [ered_succ]; exact ih.step

/-! ### What the rows are made of -/

/-- Every row of X is a sum of multiples of rows of Y. -/
def Made (R : Nat) (X Y : Mat) : Prop := ∃ T : Mat, ∀ r c, r < R → X r c = rsum R fun i => T r i * Y i c

def unitM : Mat := fun r c => if r = c then 1 else 0

theorem rsum_unit {R r : Nat} (hr : r < R) (f : Nat → Rat) : rsum R (fun i => unitM r i * f i) = f r := by
  rw [rsum_one hr fun j _ hj => by unfold unitM; rw [if_neg (Ne.symm hj)]; grind]
  unfold unitM; rw [if_pos rfl]; grind

theorem Made.refl (R : Nat) (X : Mat) : Made R X X := ⟨unitM, fun _ c hr => (rsum_unit hr fun i => X i c).symm⟩
theorem Made.trans {R : Nat} {X Y Z : Mat} (h : Made R X Y) (k : Made R Y Z) : Made R X Z := by
  obtain ⟨T, hT⟩ := h
  obtain ⟨S, hS⟩ := k
  refine ⟨fun r j => rsum R fun i => T r i * S i j, fun r c hr => ?_⟩
  rw [hT r c hr]
  rw [rsum_congr (g := fun i => rsum R fun j => T r i * (S i j * Z j c)) fun i hi => by rw [hS i c hi, rsum_mul]]
  rw [rsum_comm]
  refine rsum_congr fun j _ => ?_
  rw [← rsum_mul_right]
  exact rsum_congr fun i _ => by grind

theorem made_swap {R : Nat} (A : Mat) {i j : Nat} (hi : i < R) (hj : j < R) : Made R (swapRow A i j) A :=
  ⟨fun r => unitM (if r = i then j else if r = j then i else r), fun r c hr => by
    rw [rsum_unit (by split <;> first | exact hj | (split <;> first | exact hi | exact hr))]
    rfl⟩
theorem swap_swap (A : Mat) (i j : Nat) : swapRow (swapRow A i j) i j = A := by
  funext r c
  unfold swapRow
  by_cases h1 : r = i
  · rw [if_pos h1]
    by_cases h2 : j = i
    · rw [if_pos h2, h2, h1]
    · rw [if_neg h2, if_pos rfl, h1]
  · rw [if_neg h1]
    by_cases h2 : r = j
    · rw [if_pos h2, if_pos rfl, h2]
    · rw [if_neg h2, if_neg h1, if_neg h2]

theorem rsum_pick {R r p : Nat} (hr : r < R) (hp : p < R) (a b : Rat) (f : Nat → Rat) : rsum R (fun i => (a * unitM r i + b * unitM p i) * f i) = a * f r + b * f p := by
  rw [← rsum_unit hr f, ← rsum_unit hp f, ← rsum_mul, ← rsum_mul, ← rsum_add]
  exact rsum_congr fun i _ => by grind

theorem made_clear {R : Nat} (A : Mat) {p k : Nat} (hp : p < R) : Made R (clear A p k) A :=
  ⟨fun r i => (if r = p then 0 else 1) * unitM r i + (if r = p then 1 / A p k else -(A r k / A p k)) * unitM p i, fun r c hr => by
    rw [rsum_pick hr hp]
    unfold clear
    split <;> grind⟩
theorem made_unclear {R : Nat} (A : Mat) {p k : Nat} (hp : p < R) (hf : A p k ≠ 0) : Made R A (clear A p k) :=
  ⟨fun r i => (if r = p then 0 else 1) * unitM r i + A r k * unitM p i, fun r c hr => by
    rw [rsum_pick hr hp]
    unfold clear
    rw [if_pos rfl]
    by_cases e : r = p
    · subst e; rw [if_pos rfl, if_pos rfl]; grind
    · rw [if_neg e, if_neg e]; grind⟩

theorem ered_made (R : Nat) (A : Mat) (k : Nat) : Made R (ered R A k).cur A ∧ Made R A (ered R A k).cur := by
  induction k with
  | zero => exact ⟨Made.refl _ _, Made.refl _ _⟩
  | succ k ih =>
    rw [ered_succ]
    have hle := (ered_shape R A k).le
    generalize ered R A k = s at *
    obtain ⟨p1, p2, p3, p4⟩ := piv_spec s.cur k (R - s.n) s.n
    unfold estep
    generalize piv s.cur k s.n (R - s.n) = p at *
    split
    · rename_i hp
      have hpk := p4 (by omega)
      have hn : s.n < R := by omega
      have hf : swapRow s.cur p s.n s.n k ≠ 0 := by
        unfold swapRow
        by_cases e : s.n = p
        · rw [if_pos e, e]; exact hpk
        · rw [if_neg e, if_pos rfl]; exact hpk
      refine ⟨((made_clear _ hn).trans (made_swap _ hp hn)).trans ih.1, ih.2.trans (Made.trans ?_ (made_unclear _ hn hf))⟩
      have := made_swap (swapRow s.cur p s.n) hp hn
      rw [swap_swap] at this
      exact this
    · exact ih

/-! ### The determinant -/

theorem det_clear {n : Nat} (A : Mat) {p k : Nat} (hp : p < n) (hf : A p k ≠ 0) : det n A = A p k * det n (clear A p k) := by
  -- row p is divided; then it is taken from the others, one after the other
  have h1 : det n (setRow A p fun c => A p c / A p k) = det n A / A p k := by
    have e : (setRow A p fun c => A p c / A p k) = setRow A p fun c => (1 / A p k) * A p c := by
      congr 1; funext c; grind
    rw [e, det_row_scale _ hp, setRow_self]; grind
  have h2 : ∀ m, m ≤ n → det n (fun r c => if r = p then A p c / A p k else if r < m then A r c - A r k * (A p c / A p k) else A r c) = det n (setRow A p fun c => A p c / A p k) := by
    intro m
    induction m with
    | zero => intro _; apply det_congr; intro r c _ _; unfold setRow; rw [if_neg (show ¬ r < 0 by omega)]
    | succ m ih =>
      intro hm
      rw [← ih (by omega)]
      by_cases e : m = p
      · apply det_congr
        intro r c _ _
        by_cases e2 : r = p
        · rw [if_pos e2, if_pos e2]
        · rw [if_neg e2, if_neg e2]
          by_cases e3 : r < m
          · rw [if_pos e3, if_pos (by omega)]
          · rw [if_neg e3, if_neg (by omega)]
      · rw [← det_row_plus (fun r c => if r = p then A p c / A p k else if r < m then A r c - A r k * (A p c / A p k) else A r c) (i := m) (j := p) (by omega) hp e (-(A m k))]
        apply det_congr
        intro r c _ _
        unfold setRow
        dsimp only
        by_cases e2 : r = p
        · rw [if_pos e2, if_neg (by omega), if_pos e2]
        · rw [if_neg e2]
          by_cases e3 : r = m
          · rw [if_pos (by omega), if_pos e3, if_neg e, if_neg (by omega), if_pos rfl, e3]; grind
          · rw [if_neg e3, if_neg e2]
            by_cases e4 : r < m
            · rw [if_pos e4, if_pos (by omega)]
            · rw [if_neg e4, if_neg (by omega)]
  have h3 := h2 n (Nat.le_refl _)
  have h4 : det n (clear A p k) = det n (fun r c => if r = p then A p c / A p k else if r < n then A r c - A r k * (A p c / A p k) else A r c) := det_congr fun r c hr _ => by
    unfold clear; rw [if_pos hr]
  rw [h4, h3, h1]; grind

theorem ered_det (R : Nat) (A : Mat) (k : Nat) : det R A = (ered R A k).d * det R (ered R A k).cur := by
  induction k with
  | zero => rw [ered_zero]; unfold estart; grind
  | succ k ih =>
    rw [ered_succ]
    have hle := (ered_shape R A k).le
    generalize ered R A k = s at *
    obtain ⟨p1, p2, p3, p4⟩ := piv_spec s.cur k (R - s.n) s.n
    unfold estep
    generalize piv s.cur k s.n (R - s.n) = p at *
    split
    · rename_i hp
      have hpk := p4 (by omega)
      have hn : s.n < R := by omega
      have hf : swapRow s.cur p s.n s.n k ≠ 0 := by
        unfold swapRow
        by_cases e : s.n = p
        · rw [if_pos e, e]; exact hpk
        · rw [if_neg e, if_pos rfl]; exact hpk
      dsimp only
      have h1 := det_clear (n := R) (swapRow s.cur p s.n) hn hf
      by_cases e : p = s.n
      · rw [if_neg (by omega)]
        subst e
        rw [swapRow_self] at *
        rw [ih, h1]; grind
      · rw [if_pos e]
        have h2 := det_row_swap (n := R) s.cur hp hn e
        rw [h2] at h1
        rw [ih]
        grind
    · exact ih

end Metro
/-! What the elimination gives: products of determinants, inverses, null spaces. No program, no memory. -/
namespace Metro

theorem det_unit (n : Nat) : det n unitM = 1 := by
  induction n with
  | zero => exact det_zero _
  | succ n ih =>
    rw [det_succ, rsum_one (i := 0) (by omega) fun j _ hj => by unfold unitM; rw [if_neg (Ne.symm hj)]; grind]
    have e : minor unitM 0 0 = unitM := by
      funext r c
      unfold minor unitM
      rw [skip_zero, skip_zero]
      by_cases h : r = c
      · rw [if_pos h, if_pos (by omega)]
      · rw [if_neg h, if_neg (by omega)]
    rw [e, ih, sgn_zero]
    unfold unitM
    rw [if_pos rfl]; grind

/-- Row p divided by f, and taken from the others, r's as often as g says. -/
def clearG (X : Mat) (p : Nat) (f : Rat) (g : Nat → Rat) : Mat := fun r c => if r = p then X p c / f else X r c - g r * (X p c / f)

theorem det_clearG {n : Nat} (A : Mat) {p : Nat} (hp : p < n) {f : Rat} (hf : f ≠ 0) (g : Nat → Rat) : det n A = f * det n (clearG A p f g) := by
  have h1 : det n (setRow A p fun c => A p c / f) = det n A / f := by
    have e : (setRow A p fun c => A p c / f) = setRow A p fun c => (1 / f) * A p c := by
      congr 1; funext c; grind
    rw [e, det_row_scale _ hp, setRow_self]; grind
  have h2 : ∀ m, m ≤ n → det n (fun r c => if r = p then A p c / f else if r < m then A r c - g r * (A p c / f) else A r c) = det n (setRow A p fun c => A p c / f) := by
    intro m
    induction m with
    | zero => intro _; apply det_congr; intro r c _ _; unfold setRow; rw [if_neg (show ¬ r < 0 by omega)]
    | succ m ih =>
      intro hm
      rw [← ih (by omega)]
      by_cases e : m = p
      · apply det_congr
        intro r c _ _
        by_cases e2 : r = p
        · rw [if_pos e2, if_pos e2]
        · rw [if_neg e2, if_neg e2]
          by_cases e3 : r < m
          · rw [if_pos e3, if_pos (by omega)]
          · rw [if_neg e3, if_neg (by omega)]
      · rw [← det_row_plus (fun r c => if r = p then A p c / f else if r < m then A r c - g r * (A p c / f) else A r c) (i := m) (j := p) (by omega) hp e (-(g m))]
        apply det_congr
        intro r c _ _
        unfold setRow
        dsimp only
        by_cases e2 : r = p
        · rw [if_pos e2, if_neg (by omega), if_pos e2]
        · rw [if_neg e2]
          by_cases e3 : r = m
          · rw [if_pos (by omega), if_pos e3, if_neg e, if_neg (by omega), if_pos rfl, e3]; grind
          · rw [if_neg e3, if_neg e2]
            by_cases e4 : r < m
            · rw [if_pos e4, if_pos (by omega)]
            · rw [if_neg e4, if_neg (by omega)]
  have h3 := h2 n (Nat.le_refl _)
  have h4 : det n (clearG A p f g) = det n (fun r c => if r = p then A p c / f else if r < n then A r c - g r * (A p c / f) else A r c) := det_congr fun r c hr _ => by
    unfold clearG; rw [if_pos hr]
  rw [h4, h3, h1]; grind

/-- The product of matrices. -/
def mmul (m : Nat) (A B : Mat) : Mat := fun r c => rsum m fun k => A r k * B k c

theorem mmul_swap (m : Nat) (A B : Mat) (i j : Nat) : mmul m (swapRow A i j) B = swapRow (mmul m A B) i j := rfl
theorem mmul_clear (m : Nat) (A B : Mat) (p k : Nat) : mmul m (clear A p k) B = clearG (mmul m A B) p (A p k) fun r => A r k := by
  funext r c
  unfold mmul clearG clear
  by_cases h : r = p
  · rw [if_pos h]
    rw [rsum_congr (g := fun t => (1 / A p k) * (A p t * B t c)) fun t _ => by rw [if_pos h]; grind, rsum_mul]; grind
  · rw [if_neg h]
    rw [rsum_congr (g := fun t => A r t * B t c - (A r k / A p k) * (A p t * B t c)) fun t _ => by rw [if_neg h]; grind, rsum_sub, rsum_mul]; grind

theorem ered_det_mul (R m : Nat) (A B : Mat) (k : Nat) : det R (mmul m A B) = (ered R A k).d * det R (mmul m (ered R A k).cur B) := by
  induction k with
  | zero => rw [ered_zero]; unfold estart; grind
  | succ k ih =>
    rw [ered_succ]
    have hle := (ered_shape R A k).le
    generalize ered R A k = s at *
    obtain ⟨p1, p2, p3, p4⟩ := piv_spec s.cur k (R - s.n) s.n
    unfold estep
    generalize piv s.cur k s.n (R - s.n) = p at *
    split
    · rename_i hp
      have hpk := p4 (by omega)
      have hn : s.n < R := by omega
      have hf : swapRow s.cur p s.n s.n k ≠ 0 := by
        unfold swapRow
        by_cases e : s.n = p
        · rw [if_pos e, e]; exact hpk
        · rw [if_neg e, if_pos rfl]; exact hpk
      dsimp only
      have h1 := det_clearG (n := R) (mmul m (swapRow s.cur p s.n) B) hn hf fun r => swapRow s.cur p s.n r k
      rw [← mmul_clear] at h1
      by_cases e : p = s.n
      · rw [if_neg (by omega)]
        subst e
        rw [swapRow_self] at *
        rw [ih, h1]; grind
      · rw [if_pos e]
        have h2 := det_row_swap (n := R) (mmul m s.cur B) hp hn e
        rw [← mmul_swap] at h2
        rw [h2] at h1
        rw [ih]
        grind
    · exact ih

/-! ### Square matrices -/

/-- With as many leading columns as rows, all columns lead. -/
theorem Shape.all {n : Nat} {s : ES} (h : Shape n n s) (hn : s.n = n) : ∀ t, t < n → s.ld t = t := by
  have up : ∀ t, t < n → t ≤ s.ld t := by
    intro t
    induction t with
    | zero => intro _; omega
    | succ t ih => intro ht; have := h.asc t (t + 1) (by omega) (by omega); have := ih (by omega); omega
  have down : ∀ d t, t + d = n - 1 → t < n → s.ld t ≤ t := by
    intro d
    induction d with
    | zero => intro t h1 h2; have := h.lt t (by omega); omega
    | succ d ih => intro t h1 h2; have := h.asc t (t + 1) (by omega) (by omega); have := ih (t + 1) (by omega) (by omega); omega
  intro t ht
  have := up t ht
  have := down (n - 1 - t) t (by omega) ht
  omega

theorem Shape.all_unit {n : Nat} {s : ES} (h : Shape n n s) (hn : s.n = n) : ∀ r c, r < n → c < n → s.cur r c = unitM r c := by
  intro r c hr hc
  have := h.unit c r (by omega) hr
  rw [h.all hn c hc] at this
  exact this

/-- The determinant of the elimination. -/
theorem ered_square (n : Nat) (A : Mat) : det n A = if (ered n A n).n < n then 0 else (ered n A n).d := by
  have hs := ered_shape n A n
  rw [ered_det n A n]
  split
  · rename_i h
    rw [det_row_zero _ (i := n - 1) (by omega) fun c hc => hs.low (n - 1) c (by omega) (by omega) hc]; grind
  · rename_i h
    have hn : (ered n A n).n = n := by have := hs.le; omega
    rw [det_congr (B := unitM) fun r c hr hc => hs.all_unit hn r c hr hc, det_unit]; grind

theorem det_mul (n : Nat) (A B : Mat) : det n (mmul n A B) = det n A * det n B := by
  have hs := ered_shape n A n
  rw [ered_det_mul n n A B n, ered_square n A]
  split
  · rename_i h
    rw [det_row_zero _ (i := n - 1) (by omega) fun c hc => by
      unfold mmul
      exact rsum_none fun k hk => by rw [hs.low (n - 1) k (by omega) (by omega) hk]; grind]
    grind
  · rename_i h
    have hn : (ered n A n).n = n := by have := hs.le; omega
    rw [det_congr (A := mmul n (ered n A n).cur B) (B := B) fun r c hr hc => by
      unfold mmul
      rw [rsum_congr (g := fun k => unitM r k * B k c) fun k hk => by rw [hs.all_unit hn r k hr hk]]
      exact rsum_unit hr fun k => B k c]

theorem mmul_unit_left {n r : Nat} (hr : r < n) (B : Mat) (c : Nat) : mmul n unitM B r c = B r c := rsum_unit hr fun k => B k c
theorem mmul_assoc (m n : Nat) (A B C : Mat) : mmul n (mmul m A B) C = mmul m A (mmul n B C) := by
  funext r c
  unfold mmul
  rw [rsum_congr (g := fun k => rsum m fun i => A r i * B i k * C k c) fun k _ => by rw [rsum_mul_right], rsum_comm]
  refine rsum_congr fun i _ => ?_
  rw [← rsum_mul]
  exact rsum_congr fun k _ => by grind
theorem mmul_congr {m : Nat} {A A' B B' : Mat} {r c : Nat} (h1 : ∀ k, k < m → A r k = A' r k) (h2 : ∀ k, k < m → B k c = B' k c) : mmul m A B r c = mmul m A' B' r c :=
  rsum_congr fun k hk => by rw [h1 k hk, h2 k hk]

/-! ### The reduced form again -/

theorem piv_here {A : Mat} {k i m : Nat} (hm : 0 < m) (h : A i k ≠ 0) : piv A k i m = i := by
  obtain ⟨m, rfl⟩ : ∃ j, m = j + 1 := ⟨m - 1, by omega⟩
  rw [piv_succ, if_neg h]
theorem piv_none {A : Mat} {k : Nat} : ∀ m i, (∀ r, i ≤ r → r < i + m → A r k = 0) → piv A k i m = i + m := by
  intro m
  induction m with
  | zero => intro i _; rw [piv_zero]; omega
  | succ m ih =>
    intro i h
    rw [piv_succ, if_pos (h i (by omega) (by omega)), ih (i + 1) fun r h1 h2 => h r (by omega) (by omega)]
    omega

/-- Eliminating what is reduced turns nothing. -/
theorem ered_again {R m : Nat} {s : ES} (h : Shape R m s) : ∀ k, k ≤ m → ∃ q, q ≤ s.n ∧ (ered R s.cur k).n = q ∧ (∀ t, t < q → (ered R s.cur k).ld t = s.ld t) ∧ (∀ t, t < q → s.ld t < k) ∧ (∀ t, q ≤ t → t < s.n → k ≤ s.ld t) ∧ (∀ r c, r < R → (ered R s.cur k).cur r c = s.cur r c) := by
  intro k
  induction k with
  | zero => intro _; exact ⟨0, Nat.zero_le _, rfl, fun t h => absurd h (Nat.not_lt_zero t), fun t h => absurd h (Nat.not_lt_zero t), fun _ _ _ => Nat.zero_le _, fun _ _ _ => rfl⟩
  | succ k ih =>
    intro hk
    obtain ⟨q, h0, h1, h2, h3, h4, h5⟩ := ih (by omega)
    rw [ered_succ]
    have hle := h.le
    generalize ered R s.cur k = e at *
    by_cases hq : q < s.n ∧ s.ld q = k
    · -- the pivot stands where it should
      obtain ⟨hq1, hq2⟩ := hq
      have hu : ∀ r, r < R → e.cur r k = if r = q then 1 else 0 := fun r hr => by rw [h5 r k hr, ← hq2]; exact h.unit q r hq1 hr
      have hp : piv e.cur k e.n (R - e.n) = q := by
        rw [h1]; exact piv_here (by omega) (by rw [hu q (by omega), if_pos rfl]; decide)
      refine ⟨q + 1, hq1, ?_, ?_, ?_, ?_, ?_⟩
      · unfold estep; rw [hp, if_pos (by omega)]; show e.n + 1 = _; rw [h1]
      · intro t ht
        unfold estep; rw [hp, if_pos (by omega)]
        show (if t = e.n then k else e.ld t) = _
        rw [h1]
        by_cases e1 : t = q
        · rw [if_pos e1, e1, hq2]
        · rw [if_neg e1]; exact h2 t (by omega)
      · intro t ht
        by_cases e1 : t = q
        · rw [e1, hq2]; omega
        · have := h3 t (by omega); omega
      · intro t ht1 ht2
        have := h.asc q t (by omega) ht2
        omega
      · intro r c hr
        unfold estep; rw [hp, if_pos (by omega)]
        show clear (swapRow e.cur q e.n) e.n k r c = _
        rw [h1, swapRow_self]
        unfold clear
        rw [hu q (by omega), if_pos rfl]
        by_cases e1 : r = q
        · rw [if_pos e1, e1, h5 q c (by omega)]; grind
        · rw [if_neg e1, hu r hr, if_neg e1, h5 r c hr]; grind
    · -- no row is left
      have hz : ∀ r, q ≤ r → r < R → e.cur r k = 0 := by
        intro r hr1 hr2
        rw [h5 r k hr2]
        by_cases e1 : r < s.n
        · apply h.ech r k e1
          have := h4 r hr1 e1
          by_cases e2 : r = q
          · subst e2
            have : s.ld r ≠ k := fun e => hq ⟨e1, e⟩
            omega
          · have := h.asc q r (by omega) e1
            have := h4 q (by omega) (by omega)
            omega
        · exact h.low r k (by omega) hr2 (by omega)
      have hp : ¬ piv e.cur k e.n (R - e.n) < R := by
        rw [h1, piv_none (R - q) q fun r hr1 hr2 => hz r hr1 (by omega)]; omega
      refine ⟨q, h0, ?_, ?_, ?_, ?_, ?_⟩
      · unfold estep; rw [if_neg hp]; exact h1
      · unfold estep; rw [if_neg hp]; exact h2
      · intro t ht; have := h3 t ht; omega
      · intro t ht1 ht2
        have a := h4 t ht1 ht2
        have b : s.ld t ≠ k := fun e => by
          by_cases e1 : t = q
          · exact hq ⟨by omega, by rw [← e1]; exact e⟩
          · have := h.asc q t (by omega) ht2
            have := h4 q (by omega) (by omega)
            omega
        omega
      · unfold estep; rw [if_neg hp]; exact h5

/-! ### Solutions, null space, inverse -/

theorem Made.null {R : Nat} {X Y : Mat} (h : Made R X Y) {m : Nat} {x : Nat → Rat} (hx : ∀ i, i < R → rsum m (fun c => Y i c * x c) = 0) : ∀ r, r < R → rsum m (fun c => X r c * x c) = 0 := by
  obtain ⟨T, hT⟩ := h
  intro r hr
  rw [rsum_congr (g := fun c => rsum R fun i => T r i * (Y i c * x c)) fun c _ => by
    rw [hT r c hr, ← rsum_mul_right]
    exact rsum_congr fun i _ => by grind]
  rw [rsum_comm]
  refine rsum_none fun i hi => ?_
  rw [rsum_mul, hx i hi]; grind

/-- With column m behind them: what solves the one solves the other. -/
theorem Made.solve {R : Nat} {X Y : Mat} (h : Made R X Y) {m q : Nat} {x : Nat → Rat} (hx : ∀ i, i < R → rsum m (fun c => Y i c * x c) = Y i q) : ∀ r, r < R → rsum m (fun c => X r c * x c) = X r q := by
  obtain ⟨T, hT⟩ := h
  intro r hr
  rw [rsum_congr (g := fun c => rsum R fun i => T r i * (Y i c * x c)) fun c _ => by
    rw [hT r c hr, ← rsum_mul_right]
    exact rsum_congr fun i _ => by grind]
  rw [rsum_comm, hT r q hr]
  refine rsum_congr fun i hi => ?_
  rw [rsum_mul, hx i hi]

/-- If unit columns stand from place q on, they become the weights by which the rows were made. -/
theorem Made.weights {R q : Nat} {X Y : Mat} (h : Made R X Y) (hu : ∀ i j, i < R → j < R → Y i (q + j) = unitM i j) : ∀ r c, r < R → X r c = rsum R fun i => X r (q + i) * Y i c := by
  obtain ⟨T, hT⟩ := h
  intro r c hr
  rw [hT r c hr]
  refine rsum_congr fun i hi => ?_
  rw [hT r (q + i) hr, rsum_one hi fun j hj hne => by rw [hu j i hj hi]; unfold unitM; rw [if_neg hne]; grind]
  rw [hu i i hi hi]
  unfold unitM
  rw [if_pos rfl]; grind

end Metro
/-! How great the numbers of an elimination become. No program, no memory. -/
namespace Metro

/-! ### Integers of bounded magnitude -/

/-- q is an integer, of a magnitude of at most X. -/
def BZ (X : Nat) (q : Rat) : Prop := ∃ z : Int, q = (z : Rat) ∧ z.natAbs ≤ X

theorem BZ.mono {X Y : Nat} {q : Rat} (h : BZ X q) (k : X ≤ Y) : BZ Y q := by
  obtain ⟨z, e, hz⟩ := h; exact ⟨z, e, by omega⟩
theorem BZ.zero : BZ 0 0 := ⟨0, by simp, by simp⟩
theorem BZ.one : BZ 1 1 := ⟨1, by simp, by simp⟩
theorem BZ.add {X Y : Nat} {p q : Rat} (h : BZ X p) (k : BZ Y q) : BZ (X + Y) (p + q) := by
  obtain ⟨z, e, hz⟩ := h
  obtain ⟨y, e2, hy⟩ := k
  exact ⟨z + y, by rw [e, e2, Rat.intCast_add], by omega⟩
theorem BZ.neg {X : Nat} {p : Rat} (h : BZ X p) : BZ X (-p) := by
  obtain ⟨z, e, hz⟩ := h
  exact ⟨-z, by rw [e, Rat.intCast_neg], by omega⟩
theorem BZ.sub {X Y : Nat} {p q : Rat} (h : BZ X p) (k : BZ Y q) : BZ (X + Y) (p - q) := by
  rw [Rat.sub_eq_add_neg]; exact h.add k.neg
theorem BZ.mul {X Y : Nat} {p q : Rat} (h : BZ X p) (k : BZ Y q) : BZ (X * Y) (p * q) := by
  obtain ⟨z, e, hz⟩ := h
  obtain ⟨y, e2, hy⟩ := k
  exact ⟨z * y, by rw [e, e2, Rat.intCast_mul], by rw [Int.natAbs_mul]; exact Nat.mul_le_mul hz hy⟩
theorem BZ.sum {X : Nat} {n : Nat} {f : Nat → Rat} (h : ∀ j, j < n → BZ X (f j)) : BZ (n * X) (rsum n f) := by
  induction n with
  | zero => rw [rsum_zero, Nat.zero_mul]; exact BZ.zero
  | succ n ih =>
    rw [rsum_succ, Nat.add_mul, Nat.one_mul]
    exact (ih fun j hj => h j (by omega)).add (h n (by omega))
theorem BZ.sgn (j : Nat) : BZ 1 (Metro.sgn j) := by
  unfold Metro.sgn
  split
  · exact BZ.one
  · exact BZ.one.neg

def fact : Nat → Nat
  | 0 => 1
  | n + 1 => (n + 1) * fact n
def prodN : Nat → (Nat → Nat) → Nat
  | 0, _ => 1
  | n + 1, W => prodN n W * W n
theorem fact_zero : fact 0 = 1 := by rw [fact]
theorem fact_succ (n : Nat) : fact (n + 1) = (n + 1) * fact n := by rw [fact]
theorem prodN_zero (W : Nat → Nat) : prodN 0 W = 1 := by rw [prodN]
theorem prodN_succ (n : Nat) (W : Nat → Nat) : prodN (n + 1) W = prodN n W * W n := by rw [prodN]
theorem prodN_congr {n : Nat} {V W : Nat → Nat} (h : ∀ j, j < n → V j = W j) : prodN n V = prodN n W := by
  induction n with
  | zero => rw [prodN_zero, prodN_zero]
  | succ n ih => rw [prodN_succ, prodN_succ, ih fun j hj => h j (by omega), h n (by omega)]
theorem prodN_skip {n j : Nat} (hj : j < n + 1) (W : Nat → Nat) : prodN (n + 1) W = W j * prodN n fun c => W (skip j c) := by
  induction n with
  | zero =>
    obtain rfl : j = 0 := by omega
    rw [prodN_succ, prodN_zero, prodN_zero]; omega
  | succ n ih =>
    by_cases e : j = n + 1
    · subst e
      rw [prodN_succ, Nat.mul_comm]
      congr 1
      exact prodN_congr fun c hc => by rw [skip_lt hc]
    · rw [prodN_succ, ih (by omega), prodN_succ _ fun c => W (skip j c), skip_ge (show j ≤ n by omega), Nat.mul_assoc]

theorem det_bz {n : Nat} : ∀ (A : Mat) (W : Nat → Nat), (∀ r c, r < n → c < n → BZ (W c) (A r c)) → BZ (fact n * prodN n W) (det n A) := by
  induction n with
  | zero => intro A W _; rw [det_zero, fact_zero, prodN_zero]; exact BZ.one
  | succ n ih =>
    intro A W h
    rw [det_succ]
    have : fact (n + 1) * prodN (n + 1) W = (n + 1) * (fact n * prodN (n + 1) W) := by rw [fact_succ, Nat.mul_assoc]
    rw [this]
    refine BZ.sum fun j hj => ?_
    have h1 := ih (minor A 0 j) (fun c => W (skip j c)) fun r c hr hc => h _ _ (skip_le hr) (skip_le hc)
    have h2 := ((BZ.sgn j).mul (h 0 j (by omega) hj)).mul h1
    refine h2.mono ?_
    rw [prodN_skip hj W, Nat.one_mul, Nat.mul_left_comm]
    exact Nat.le_refl _

/-! ### Which rows the pivots came from -/

structure Sig (R : Nat) (A : Mat) (s : ES) (σ : Nat → Nat) (T : Mat) : Prop where
  lt : ∀ r, r < R → σ r < R
  inj : ∀ r q, r < R → q < R → σ r = σ q → r = q
  rest : ∀ r c, s.n ≤ r → r < R → s.cur r c = A (σ r) c - rsum s.n fun t => A (σ r) (s.ld t) * s.cur t c
  done : ∀ r c, r < s.n → A (σ r) c = rsum s.n fun t => A (σ r) (s.ld t) * s.cur t c
  made : ∀ t c, t < s.n → s.cur t c = rsum s.n fun r => T t r * A (σ r) c

set_option maxHeartbeats 400000 in
theorem ered_sig (R : Nat) (A : Mat) (k : Nat) : ∃ σ T, Sig R A (ered R A k) σ T := by
  induction k with
  | zero =>
    exact ⟨fun r => r, unitM, fun r h => h, fun r q _ _ h => h, fun r c _ _ => by
      show A r c = _ - rsum 0 _
      rw [rsum_zero]; grind, fun r c h => absurd h (Nat.not_lt_zero r), fun t c h => absurd h (Nat.not_lt_zero t)⟩
  | succ k ih =>
    obtain ⟨σ, T, h⟩ := ih
    rw [ered_succ]
    have hle := (ered_shape R A k).le
    generalize ered R A k = s at *
    obtain ⟨p1, p2, p3, p4⟩ := piv_spec s.cur k (R - s.n) s.n
    unfold estep
    generalize piv s.cur k s.n (R - s.n) = p at *
    split
    · rename_i hp
      have hpk := p4 (by omega)
      have hn : s.n < R := by omega
      have hf : swapRow s.cur p s.n s.n k ≠ 0 := by
        unfold swapRow
        by_cases e : s.n = p
        · rw [if_pos e, e]; exact hpk
        · rw [if_neg e, if_pos rfl]; exact hpk
      -- the swapped rows
      let π : Nat → Nat := fun r => if r = p then s.n else if r = s.n then p else r
      have hπ : ∀ r c, swapRow s.cur p s.n r c = s.cur (π r) c := fun r c => rfl
      have π_lt : ∀ r, r < R → π r < R := fun r hr => by show (if r = p then s.n else if r = s.n then p else r) < R; split <;> (try split) <;> omega
      have π_low : ∀ r, r < s.n → π r = r := fun r hr => by show (if r = p then s.n else if r = s.n then p else r) = r; rw [if_neg (by omega), if_neg (by omega)]
      have π_ge : ∀ r, s.n ≤ r → s.n ≤ π r := fun r hr => by show s.n ≤ (if r = p then s.n else if r = s.n then p else r); split <;> (try split) <;> omega
      have π_inj : ∀ r q, π r = π q → r = q := fun r q e => by
        have e' : (if r = p then s.n else if r = s.n then p else r) = (if q = p then s.n else if q = s.n then p else q) := e
        grind
      have rest1 : ∀ r c, s.n ≤ r → r < R → swapRow s.cur p s.n r c = A (σ (π r)) c - rsum s.n fun t => A (σ (π r)) (s.ld t) * s.cur t c := fun r c h1 h2 => by
        rw [hπ]; exact h.rest (π r) c (π_ge r h1) (π_lt r h2)
      have low1 : ∀ t c, t < s.n → swapRow s.cur p s.n t c = s.cur t c := fun t c ht => by rw [hπ, π_low t ht]
      generalize hA1 : swapRow s.cur p s.n = A1 at *
      -- sums over the new rows
      have sums : ∀ (g : Nat → Rat) (c : Nat), (rsum s.n fun t => g t * clear A1 s.n k t c) = (rsum s.n fun t => g t * s.cur t c) - (rsum s.n fun t => g t * s.cur t k) * (A1 s.n c / A1 s.n k) := fun g c => by
        rw [← rsum_mul_right, ← rsum_sub]
        refine rsum_congr fun t ht => ?_
        unfold clear
        rw [if_neg (by omega), low1 t c ht, low1 t k ht]; grind
      have newsum : ∀ (a : Nat → Rat) (c : Nat), (rsum (s.n + 1) fun t => a (if t = s.n then k else s.ld t) * clear A1 s.n k t c) = (rsum s.n fun t => a (s.ld t) * s.cur t c) - (rsum s.n fun t => a (s.ld t) * s.cur t k) * (A1 s.n c / A1 s.n k) + a k * (A1 s.n c / A1 s.n k) := fun a c => by
        rw [rsum_succ, if_pos rfl, rsum_congr (g := fun t => a (s.ld t) * clear A1 s.n k t c) fun t ht => by rw [if_neg (by omega)], sums]
        congr 1
        unfold clear
        rw [if_pos rfl]
      -- the new pivot's row out of the rows so far
      let Tn : Nat → Rat := fun r => if r = s.n then 1 / A1 s.n k else -(rsum s.n fun t => A (σ (π s.n)) (s.ld t) * T t r) / A1 s.n k
      have hTn : ∀ c, A1 s.n c / A1 s.n k = rsum (s.n + 1) fun r => Tn r * A (σ (π r)) c := fun c => by
        rw [rsum_succ]
        have e1 : Tn s.n = 1 / A1 s.n k := by show (if s.n = s.n then _ else _) = _; rw [if_pos rfl]
        rw [e1, rest1 s.n c (Nat.le_refl _) hn]
        have e2 : (rsum s.n fun r => Tn r * A (σ (π r)) c) = rsum s.n fun r => rsum s.n fun t => (-(1 / A1 s.n k)) * (A (σ (π s.n)) (s.ld t) * (T t r * A (σ r) c)) := by
          refine rsum_congr fun r hr => ?_
          have e3 : Tn r = -(rsum s.n fun t => A (σ (π s.n)) (s.ld t) * T t r) / A1 s.n k := by show (if r = s.n then _ else _) = _; rw [if_neg (by omega)]
          rw [e3, π_low r hr, rsum_mul]
          have e4 : (rsum s.n fun t => A (σ (π s.n)) (s.ld t) * (T t r * A (σ r) c)) = (rsum s.n fun t => A (σ (π s.n)) (s.ld t) * T t r) * A (σ r) c := by
            rw [← rsum_mul_right]; exact rsum_congr fun t _ => by grind
          rw [e4]; grind
        have e5 : (rsum s.n fun t => A (σ (π s.n)) (s.ld t) * s.cur t c) = rsum s.n fun t => rsum s.n fun r => A (σ (π s.n)) (s.ld t) * (T t r * A (σ r) c) := by
          refine rsum_congr fun t ht => ?_
          rw [rsum_mul, ← h.made t c ht]
        rw [e2, rsum_comm]
        have e6 : (rsum s.n fun t => rsum s.n fun r => (-(1 / A1 s.n k)) * (A (σ (π s.n)) (s.ld t) * (T t r * A (σ r) c))) = (-(1 / A1 s.n k)) * rsum s.n fun t => rsum s.n fun r => A (σ (π s.n)) (s.ld t) * (T t r * A (σ r) c) := by
          rw [← rsum_mul]; exact rsum_congr fun t _ => by rw [rsum_mul]
        rw [e6, ← e5]; grind
      refine ⟨fun r => σ (π r), fun t r => (if t = s.n then 0 else if r = s.n then 0 else T t r) + (if t = s.n then 1 else -(s.cur t k)) * Tn r, ?_, ?_, ?_, ?_, ?_⟩
      · intro r hr; exact h.lt _ (π_lt r hr)
      · intro r q hr hq e; exact π_inj r q (h.inj _ _ (π_lt r hr) (π_lt q hq) e)
      · intro r c h1 h2
        have h1' : s.n + 1 ≤ r := h1
        show clear A1 s.n k r c = A (σ (π r)) c - rsum (s.n + 1) fun t => A (σ (π r)) (if t = s.n then k else s.ld t) * clear A1 s.n k t c
        rw [newsum (fun q => A (σ (π r)) q) c]
        unfold clear
        rw [if_neg (by omega), rest1 r c (by omega) h2, rest1 r k (by omega) h2]; grind
      · intro r c hr
        have hr' : r < s.n + 1 := hr
        show A (σ (π r)) c = rsum (s.n + 1) fun t => A (σ (π r)) (if t = s.n then k else s.ld t) * clear A1 s.n k t c
        rw [newsum (fun q => A (σ (π r)) q) c]
        by_cases e : r = s.n
        · subst e
          have a := rest1 s.n c (Nat.le_refl _) hn
          have b := rest1 s.n k (Nat.le_refl _) hn
          grind
        · rw [π_low r (by omega)]
          have a := h.done r c (by omega)
          have b := h.done r k (by omega)
          grind
      · intro t c ht
        have ht' : t < s.n + 1 := ht
        show clear A1 s.n k t c = rsum (s.n + 1) fun r => ((if t = s.n then 0 else if r = s.n then 0 else T t r) + (if t = s.n then 1 else -(s.cur t k)) * Tn r) * A (σ (π r)) c
        have e0 : (rsum (s.n + 1) fun r => ((if t = s.n then 0 else if r = s.n then 0 else T t r) + (if t = s.n then 1 else -(s.cur t k)) * Tn r) * A (σ (π r)) c) =
            (rsum (s.n + 1) fun r => (if t = s.n then 0 else if r = s.n then 0 else T t r) * A (σ (π r)) c) + (if t = s.n then 1 else -(s.cur t k)) * rsum (s.n + 1) fun r => Tn r * A (σ (π r)) c := by
          rw [← rsum_mul, ← rsum_add]; exact rsum_congr fun r _ => by grind
        rw [e0, ← hTn]
        unfold clear
        by_cases e : t = s.n
        · rw [if_pos e, if_pos e, rsum_none fun r _ => by rw [if_pos e]; grind]; grind
        · have e7 : (rsum (s.n + 1) fun r => (if t = s.n then 0 else if r = s.n then 0 else T t r) * A (σ (π r)) c) = s.cur t c := by
            rw [h.made t c (by omega), rsum_succ]
            have e8 : (rsum s.n fun r => (if t = s.n then 0 else if r = s.n then 0 else T t r) * A (σ (π r)) c) = rsum s.n fun r => T t r * A (σ r) c :=
              rsum_congr fun r hr => by simp only [if_neg e, if_neg (show ¬ r = s.n by omega), π_low r hr]
            rw [e8]
            simp only [if_neg e, if_true]
            exact (show ∀ a b : Rat, a + 0 * b = a by intro a b; grind) _ _
          rw [if_neg e, if_neg e, e7, low1 t c (by omega), low1 t k (by omega)]
          exact (show ∀ a b d : Rat, a - b * d = a + -b * d by intro a b d; grind) _ _ _
    · exact ⟨σ, T, h⟩

end Metro
/-! How great the numbers of an elimination become, second part: every row has a denominator that is not great. No program, no memory. -/
namespace Metro

theorem fact_pos (n : Nat) : 1 ≤ fact n := by
  induction n with
  | zero => rw [fact_zero]; exact Nat.le_refl _
  | succ n ih => rw [fact_succ]; exact Nat.mul_pos (by omega) ih
theorem fact_mono {n m : Nat} (h : n ≤ m) : fact n ≤ fact m := by
  induction m with
  | zero => rw [show n = 0 from by omega]; exact Nat.le_refl _
  | succ m ih =>
    by_cases e : n = m + 1
    · rw [e]; exact Nat.le_refl _
    · rw [fact_succ]
      exact Nat.le_trans (ih (by omega)) (Nat.le_mul_of_pos_left _ (by omega))

theorem prodN_const (n M : Nat) : prodN n (fun _ => M) = M ^ n := by
  induction n with
  | zero => rw [prodN_zero, Nat.pow_zero]
  | succ n ih => rw [prodN_succ, ih, Nat.pow_succ]
theorem prodN_set {n t : Nat} (ht : t < n) (M M' : Nat) : prodN n (fun c => if c = t then M' else M) = M' * M ^ (n - 1) := by
  obtain ⟨n, rfl⟩ : ∃ k, n = k + 1 := ⟨n - 1, by omega⟩
  rw [prodN_skip ht, if_pos rfl, prodN_congr (W := fun _ => M) fun c _ => by
    rw [if_neg]; unfold skip; split <;> omega]
  rw [prodN_const]; rfl

theorem intCast_natCast (n : Nat) : ((n : Int) : Rat) = (n : Rat) := rfl

/-- The magnitudes. -/
theorem mag1 {n R M M' : Nat} (hM : 1 ≤ M) (hn : n ≤ R) (hn0 : 0 < n) : fact n * (M' * M ^ (n - 1)) ≤ fact R * M ^ (R - 1) * M' := by
  have h1 := fact_mono hn
  have h2 : M ^ (n - 1) ≤ M ^ (R - 1) := Nat.pow_le_pow_right hM (by omega)
  calc fact n * (M' * M ^ (n - 1)) ≤ fact R * (M' * M ^ (R - 1)) := Nat.mul_le_mul h1 (Nat.mul_le_mul_left _ h2)
    _ = fact R * M ^ (R - 1) * M' := by rw [Nat.mul_comm M', Nat.mul_assoc]
theorem mag_stage (n M M' : Nat) : fact n * M ^ n * M' + n * (M * (fact n * (M' * M ^ (n - 1)))) ≤ fact (n + 1) * M ^ n * M' := by
  have e : n * (M * (fact n * (M' * M ^ (n - 1)))) = n * (fact n * M ^ n * M') := by
    rcases Nat.eq_zero_or_pos n with h | h
    · rw [h]; omega
    · congr 1
      have : M ^ n = M * M ^ (n - 1) := by
        obtain ⟨k, rfl⟩ : ∃ k, n = k + 1 := ⟨n - 1, by omega⟩
        rw [Nat.pow_succ, Nat.mul_comm]; rfl
      rw [this]
      simp only [Nat.mul_comm, Nat.mul_left_comm]
  rw [e, fact_succ]
  have : (n + 1) * fact n * M ^ n * M' = n * (fact n * M ^ n * M') + fact n * M ^ n * M' := by
    rw [Nat.mul_assoc, Nat.mul_assoc, Nat.add_mul, Nat.one_mul]; simp only [Nat.mul_assoc]
  rw [this]; omega

/-- Each row of an elimination has a denominator that is not great. -/
theorem row_den_stage {R m k : Nat} {A : Mat} {D : Nat → Rat} {M : Nat} (hD0 : ∀ i, i < R → D i ≠ 0) (hD : ∀ i, i < R → BZ M (D i)) (hA : ∀ i c, i < R → c < m → BZ M (D i * A i c)) (hk : k ≤ m) :
    ∀ r, r < R → ∃ δ : Rat, δ ≠ 0 ∧ BZ (if r < (ered R A k).n then fact (ered R A k).n * M ^ (ered R A k).n else fact (ered R A k).n * M ^ ((ered R A k).n + 1)) δ ∧ ∀ (c : Nat) (E : Rat) (M' : Nat), (∀ i, i < R → BZ M' (E * (D i * A i c))) →
      BZ (if r < (ered R A k).n then fact (ered R A k).n * (M' * M ^ ((ered R A k).n - 1)) else fact ((ered R A k).n + 1) * M ^ (ered R A k).n * M') (E * (δ * (ered R A k).cur r c)) := by
  obtain ⟨σ, T, h⟩ := ered_sig R A k
  have hs := ered_shape R A k
  generalize ered R A k = s at *
  have hle := hs.le
  have hld : ∀ t, t < s.n → s.ld t < m := fun t ht => by have := hs.lt t ht; omega
  -- the matrix of the pivots
  have hG : ∀ r t, r < s.n → t < s.n → BZ M (D (σ r) * A (σ r) (s.ld t)) := fun r t hr ht => hA _ _ (h.lt r (by omega)) (hld t ht)
  have hdet : det s.n (fun r t => D (σ r) * A (σ r) (s.ld t)) ≠ 0 := by
    intro e
    have h1 := det_mul s.n (fun t r => T t r / D (σ r)) (fun r t => D (σ r) * A (σ r) (s.ld t))
    rw [e, det_congr (B := unitM) fun t u ht hu => by
      show rsum s.n (fun r => T t r / D (σ r) * (D (σ r) * A (σ r) (s.ld u))) = _
      rw [rsum_congr (g := fun r => T t r * A (σ r) (s.ld u)) fun r hr => by
        have := hD0 (σ r) (h.lt r (by omega)); grind]
      rw [← h.made t _ ht, hs.unit u t hu (by omega)]
      rfl, det_unit] at h1
    grind
  have hdz : BZ (fact s.n * M ^ s.n) (det s.n (fun r t => D (σ r) * A (σ r) (s.ld t))) := by
    have := det_bz (n := s.n) (fun r t => D (σ r) * A (σ r) (s.ld t)) (fun _ => M) fun r t hr ht => hG r t hr ht
    rw [prodN_const] at this; exact this
  have piv_row : ∀ (t c : Nat) (E : Rat) (M' : Nat), t < s.n → (∀ i, i < R → BZ M' (E * (D i * A i c))) → BZ (fact s.n * (M' * M ^ (s.n - 1))) (E * (det s.n (fun r t => D (σ r) * A (σ r) (s.ld t)) * s.cur t c)) := by
    intro t c E M' ht hE
    have hc := cramer (n := s.n) (fun r t => D (σ r) * A (σ r) (s.ld t)) (fun u => E * s.cur u c) (fun r => E * (D (σ r) * A (σ r) c)) (fun r hr => by
      rw [h.done r c hr, rsum_congr (g := fun u => (E * D (σ r)) * (A (σ r) (s.ld u) * s.cur u c)) fun u _ => by grind, rsum_mul]; grind) ht
    have hb := det_bz (n := s.n) (setCol (fun r t => D (σ r) * A (σ r) (s.ld t)) t fun r => E * (D (σ r) * A (σ r) c)) (fun u => if u = t then M' else M) fun r u hr hu => by
      unfold setCol
      by_cases e : u = t
      · rw [if_pos e, if_pos e]; exact hE _ (h.lt r (by omega))
      · rw [if_neg e, if_neg e]; exact hG r u hr hu
    rw [prodN_set ht, hc] at hb
    have e : E * (det s.n (fun r t => D (σ r) * A (σ r) (s.ld t)) * s.cur t c) = E * s.cur t c * det s.n (fun r t => D (σ r) * A (σ r) (s.ld t)) := by grind
    rw [e]; exact hb
  intro r hr
  by_cases hrn : r < s.n
  · refine ⟨_, hdet, ?_, fun c E M' hE => ?_⟩
    · rw [if_pos hrn]; exact hdz
    · rw [if_pos hrn]; exact piv_row r c E M' hrn hE
  · have hσ := h.lt r hr
    refine ⟨D (σ r) * det s.n (fun r t => D (σ r) * A (σ r) (s.ld t)), ?_, ?_, fun c E M' hE => ?_⟩
    · have := hD0 _ hσ
      intro e
      rcases Rat.mul_eq_zero.1 e with e | e
      · exact this e
      · exact hdet e
    · rw [if_neg hrn]
      refine ((hD _ hσ).mul hdz).mono ?_
      rw [Nat.mul_left_comm, Nat.pow_succ, Nat.mul_comm M]
      exact Nat.le_refl _
    · have h1 : BZ (fact s.n * M ^ s.n * M') (det s.n (fun r t => D (σ r) * A (σ r) (s.ld t)) * (E * (D (σ r) * A (σ r) c))) := hdz.mul (hE _ hσ)
      have h2 : BZ (s.n * (M * (fact s.n * (M' * M ^ (s.n - 1))))) (rsum s.n fun t => (D (σ r) * A (σ r) (s.ld t)) * (E * (det s.n (fun r t => D (σ r) * A (σ r) (s.ld t)) * s.cur t c))) :=
        BZ.sum fun t ht => (hA _ _ hσ (hld t ht)).mul (piv_row t c E M' ht hE)
      have h3 := (h1.sub h2).mono (mag_stage s.n M M')
      have e : E * (D (σ r) * det s.n (fun r t => D (σ r) * A (σ r) (s.ld t)) * s.cur r c) =
          det s.n (fun r t => D (σ r) * A (σ r) (s.ld t)) * (E * (D (σ r) * A (σ r) c)) - rsum s.n fun t => (D (σ r) * A (σ r) (s.ld t)) * (E * (det s.n (fun r t => D (σ r) * A (σ r) (s.ld t)) * s.cur t c)) := by
        rw [h.rest r c (by omega) hr]
        generalize det s.n (fun r t => D (σ r) * A (σ r) (s.ld t)) = Δ
        rw [rsum_congr (f := fun t => (D (σ r) * A (σ r) (s.ld t)) * (E * (Δ * s.cur t c))) (g := fun t => (D (σ r) * E * Δ) * (A (σ r) (s.ld t) * s.cur t c)) fun t _ => by grind, rsum_mul]
        grind
      rw [if_neg hrn, e]; exact h3

/-- The same, with one bound for all stages. -/
theorem row_den {R m k : Nat} {A : Mat} {D : Nat → Rat} {M : Nat} (hM : 1 ≤ M) (hD0 : ∀ i, i < R → D i ≠ 0) (hD : ∀ i, i < R → BZ M (D i)) (hA : ∀ i c, i < R → c < m → BZ M (D i * A i c)) (hk : k ≤ m) :
    ∀ r, r < R → ∃ δ : Rat, δ ≠ 0 ∧ BZ (fact R * M ^ R) δ ∧ ∀ (c : Nat) (E : Rat) (M' : Nat), (∀ i, i < R → BZ M' (E * (D i * A i c))) → BZ (fact R * M ^ (R - 1) * M') (E * (δ * (ered R A k).cur r c)) := by
  intro r hr
  obtain ⟨δ, h0, h1, h2⟩ := row_den_stage hD0 hD hA hk r hr
  have hle := (ered_shape R A k).le
  generalize ered R A k = s at *
  refine ⟨δ, h0, h1.mono ?_, fun c E M' hE => (h2 c E M' hE).mono ?_⟩
  · split
    · exact Nat.mul_le_mul (fact_mono hle) (Nat.pow_le_pow_right hM hle)
    · exact Nat.mul_le_mul (fact_mono hle) (Nat.pow_le_pow_right hM (by omega))
  · split
    · exact mag1 hM hle (by omega)
    · have a1 : fact (s.n + 1) ≤ fact R := fact_mono (by omega)
      have a2 : M ^ s.n ≤ M ^ (R - 1) := Nat.pow_le_pow_right hM (by omega)
      exact Nat.mul_le_mul_right _ (Nat.mul_le_mul a1 a2)

end Metro

namespace Metro

/-- The elimination goes column by column: what stands in other columns does not count. -/
theorem ered_local {R : Nat} {A B : Mat} {P : Nat → Prop} (h : ∀ r c, r < R → P c → A r c = B r c) : ∀ k, (∀ c, c < k → P c) →
    (ered R A k).n = (ered R B k).n ∧ (ered R A k).ld = (ered R B k).ld ∧ (ered R A k).d = (ered R B k).d ∧ ∀ r c, r < R → P c → (ered R A k).cur r c = (ered R B k).cur r c := by
  intro k
  induction k with
  | zero => intro _; exact ⟨rfl, rfl, rfl, h⟩
  | succ k ih =>
    intro hP
    obtain ⟨h1, h2, h3, h4⟩ := ih fun c hc => hP c (by omega)
    rw [ered_succ, ered_succ]
    have hle := (ered_shape R A k).le
    generalize ered R A k = s at *
    generalize ered R B k = t at *
    have hk := hP k (by omega)
    have hp : ∀ m i, i + m ≤ R → piv s.cur k i m = piv t.cur k i m := by
      intro m
      induction m with
      | zero => intro i _; rw [piv_zero, piv_zero]
      | succ m ih => intro i hi; rw [piv_succ, piv_succ, h4 i k (by omega) hk, ih (i + 1) (by omega)]
    have e1 := hp (R - s.n) s.n (by omega)
    unfold estep
    rw [← h1, ← e1]
    have pl := piv_spec s.cur k (R - s.n) s.n
    generalize piv s.cur k s.n (R - s.n) = p at *
    split
    · rename_i hpR
      have hn : s.n < R := by omega
      have sw : ∀ r c, r < R → P c → swapRow s.cur p s.n r c = swapRow t.cur p s.n r c := fun r c hr hc => by
        unfold swapRow
        apply h4 _ _ _ hc
        split
        · exact hn
        · split
          · exact hpR
          · exact hr
      refine ⟨rfl, ?_, ?_, fun r c hr hc => ?_⟩
      · show (fun u => if u = s.n then k else s.ld u) = fun u => if u = s.n then k else t.ld u
        rw [h2]
      · show (if p ≠ s.n then 0 - s.d else s.d) * _ = (if p ≠ s.n then 0 - t.d else t.d) * _
        rw [h3, sw s.n k hn hk]
      · show clear (swapRow s.cur p s.n) s.n k r c = clear (swapRow t.cur p s.n) s.n k r c
        unfold clear
        rw [sw s.n c hn hc, sw s.n k hn hk, sw r c hr hc, sw r k hr hk]
    · exact ⟨h1, h2, h3, h4⟩

end Metro
