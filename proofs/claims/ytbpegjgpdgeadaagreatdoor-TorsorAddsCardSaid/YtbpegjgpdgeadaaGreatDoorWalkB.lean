/- A part of the proof: WalkB. Conditions: none. -/
import Derived.Test.YtbpegjgpdgeadaaGreatDoorProg
import Derived.Test.YtbpegjgpdgeadaaGreatDoorWalkA
import Derived.Lib.Strings
import Derived.Lib.Slices
import Derived.Lib.Builder
import Derived.Lib.AppendStr
import Derived.Lib.UnsafeStr
import Derived.Laws.Externs
import Derived.OwnWalk
import Derived.Test.YtbpegjgpdgeadaaGreatDoorShelf
import Derived.Shelf.Strings.SlTrimAscii
import Derived.Lib.AppendIntMem
import Derived.Lib.SmallJoins
import Derived.Lib.LaidTab
import Derived.Test.YtbpegjgpdgeadaaGreatDoorNumQt
namespace Go.Proofs.YtbpegjgpdgeadaaGreatDoor
open Go Go.RowKit Metro

theorem beyond_le {fx fy : Nat → Int} {n g : Nat} {vx vy : Int} (hx : Trim fx n vx) (hy : Trim fy n vy) (hg : g < n) (he : ∀ t, g + 1 ≤ t → fx t = fy t) (hne : ¬ fx g = fy g) : 0 ≤ fx g - fy g ↔ vy ≤ vx := by
  rcases Int.lt_or_gt_of_ne hne with h | h
  · have := bs_top_lt hx.inr hy.inr hg (fun j h1 _ => he j (by omega)) h
    rw [hx.val, hy.val] at this
    omega
  · have := bs_top_lt hy.inr hx.inr hg (fun j h1 _ => (he j (by omega)).symm) h
    rw [hx.val, hy.val] at this
    omega
theorem beyond_n {fx fy : Nat → Int} {n m : Nat} {vx vy : Int} (hx : Trim fx n vx) (hy : Trim fy m vy) (hne : ¬ n = m) : 0 ≤ (n : Int) - m ↔ vy ≤ vx := by
  rcases Nat.lt_or_gt_of_ne hne with h | h
  · have := hx.lt_of_n hy h
    omega
  · have := hy.lt_of_n hx h
    omega

set_option maxHeartbeats 1000000 in
theorem beyond_any (b1 b2 nx ny : Nat) (lx ly : Bool) (fx fy : Nat → Int) (vx vy : Int) (w : World) (hnx : nx ≤ 232) (hny : ny ≤ 232)
    (hx : WideAt 267 w b1 lx nx fx) (hy : WideAt 267 w b2 ly ny fy) (hsx : Trim fx nx vx) (hsy : Trim fy ny vy) :
    Calls Tryz.prog 264 #[.pointer (some ⟨b1, 0, none⟩), .pointer (some ⟨b2, 0, none⟩)] w fun e w' => ∃ r nq, e = .returned (.int .i64 r) ∧ (0 ≤ r ↔ vy ≤ vx) ∧ w' = w.drewN nq := by
  have HX := Lib.hid hsx; have HY := Lib.hid hsy
  clear hsx hsy
  have c1 := hx.cell_n
  have c2 := hy.cell_n
  by_cases hn : nx = ny
  · subst hn
    have ht : ((nx : Int) != nx) = false := by simp
    go_enter Tryz.func264, Tryz.ntmps264
    go_wp2
    go_quiet (fail)
    go_wp2
    go_loopg [5] nx (fun d i wr => i = .int .i64 ((d : Int) - 1) ∧ d ≤ nx ∧ (∀ t, d ≤ t → fx t = fy t) ∧ ∃ nq, wr = w.drewN nq)
    case atStart => exact ⟨rfl, Nat.le_refl _, fun t ht => by rw [HX.out.zero t ht, HY.out.zero t ht], _, rfl⟩
    case round =>
      obtain ⟨rfl, hd, he, nq, rfl⟩ := hrel
      have HE := Lib.hid he; clear he
      by_cases hz : gk = 0
      · subst hz
        go_wp2
        go_ret
        refine ⟨0, nq, rfl, ?_, rfl⟩
        have : bs fx nx = bs fy nx := bs_congr fun t _ => HE.out t (by omega)
        rw [HX.out.val, HY.out.val] at this
        omega
      · obtain ⟨g, rfl⟩ : ∃ g, gk = g + 1 := ⟨gk - 1, by omega⟩
        have e1 : (((g + 1 : Nat) : Int) - 1) = (g : Int) := by omega
        rw [e1]
        have a1 := hx.cell_word (i := g) (by omega)
        have a2 := hy.cell_word (i := g) (by omega)
        have hg : (g : Int) < 232 := by omega
        by_cases hne : fx g = fy g
        · have hb : (fx g != fy g) = false := by simp [hne]
          have HNE := Lib.hid hne; clear hne e1
          go_wp2
          go_quiet (fail)
          go_wp2
          go_roundg g
          case measure => omega
          case rel =>
            refine ⟨rfl, by omega, fun t ht => ?_, _, rfl⟩
            by_cases e : t = g
            · rw [e]; exact HNE.out
            · exact HE.out t (by omega)
        · have hb : (fx g != fy g) = true := by simp [hne]
          have r1 := HX.out.inr g
          have r2 := HY.out.inr g
          rw [BB_eq] at r1 r2
          clear e1
          have HNE := Lib.hid hne; clear hne
          go_wp2
          go_quiet (fail)
          go_wp2
          go_quiet (fail)
          go_wp2
          go_ret
          refine ⟨_, _, rfl, ?_, by simp only [World.drewN_drewN]; rfl⟩
          exact beyond_le HX.out HY.out (by omega) HE.out HNE.out
  · have ht : ((nx : Int) != ny) = true := by simp; omega
    go_enter Tryz.func264, Tryz.ntmps264
    go_wp2
    go_quiet (fail)
    go_wp2
    go_quiet (fail)
    go_wp2
    go_ret
    refine ⟨_, _, rfl, ?_, by simp only [World.drewN_drewN]; rfl⟩
    exact beyond_n HX.out HY.out hn
end Go.Proofs.YtbpegjgpdgeadaaGreatDoor
namespace Go.Proofs.YtbpegjgpdgeadaaGreatDoor
open Go Go.RowKit Metro

/-- The same at any spelling of the shift. -/
theorem carry_at (b1 b2 nx ny up : Nat) (u : Int) (hu : u = up) (lx ly : Bool) (fx fy : Nat → Int) (vx vy factor r : Int) (w : World) (hb : b1 ≠ b2) (hnx : nx ≤ 232) (hup : up + ny ≤ 232) (hf1 : -1000000000 < factor) (hf2 : factor < 1000000000)
    (hx : WideAt 267 w b1 lx nx fx) (hy : WideAt 267 w b2 ly ny fy) (hsx : Spells fx nx vx) (hsy : Spells fy ny vy) (hr : r = vx + factor * BB ^ up * vy) (hlo : 0 ≤ r) (hhi : r < BB ^ 232) :
    Calls Tryz.prog 252 #[.pointer (some ⟨b1, 0, none⟩), .pointer (some ⟨b2, 0, none⟩), .int .i64 factor, .int .i64 u] w fun e w' => e = .returned (.tuple #[]) ∧ ∃ m f, Trim f m r ∧ WideAt 267 w' b1 lx m f ∧ w.grownBy w' (some b1) := by
  subst hu; subst hr
  exact carry_any b1 b2 nx ny up lx ly fx fy vx vy factor w hb hnx hup hf1 hf2 hx hy hsx hsy hlo hhi
end Go.Proofs.YtbpegjgpdgeadaaGreatDoor
namespace Go.Proofs.YtbpegjgpdgeadaaGreatDoor
open Go Go.RowKit Metro

set_option maxHeartbeats 1000000 in
set_option maxRecDepth 100000 in
theorem plus_any (b1 b2 nx ny : Nat) (lx ly : Bool) (fx fy : Nat → Int) (vx vy : Int) (w : World) (hb : b1 ≠ b2) (hnx : nx ≤ 232) (hny : ny ≤ 232)
    (hx : WideAt 267 w b1 lx nx fx) (hy : WideAt 267 w b2 ly ny fy) (hsx : Trim fx nx vx) (hsy : Trim fy ny vy) (hlim : vx + vy < BB ^ 232) :
    Calls Tryz.prog 253 #[.pointer (some ⟨b1, 0, none⟩), .pointer (some ⟨b2, 0, none⟩)] w fun e w' => e = .returned (.tuple #[]) ∧ NumAt 267 w' b1 (sv lx vx + sv ly vy) ∧ w.grownBy w' (some b1) := by
  have HX := Lib.hid hsx; have HY := Lib.hid hsy; have HL := Lib.hid hlim
  clear hsx hsy hlim
  have c1 := hx.cell_less
  have c2 := hy.cell_less
  have px := HX.out.nonneg
  have py := HY.out.nonneg
  by_cases hl : lx = ly
  · subst hl
    have ht : (lx == lx) = true := by simp
    go_enter Tryz.func253, Tryz.ntmps253
    go_wp2
    go_quiet (fail)
    go_wp2_with fail
    refine (carry_at b1 b2 nx ny 0 _ rfl lx lx fx fy vx vy 1 (vx + vy) _ hb hnx (by omega) (by omega) (by omega) (hx.drewN _) (hy.drewN _) HX.out.toSpells HY.out.toSpells (by simp) (by omega) HL.out).mono ?_
    rintro e w' ⟨rfl, m, f, h1, h2, h3⟩
    go_wp2_with fail
    refine bodyPost_ret (results_none rfl _ _ _) rfl ?_
    exact ⟨rfl, NumAt.mk h1 HL.out h2 (by cases lx <;> (simp [sv]; try omega)), grown_trans (grown_drewN (grown_refl _ _) _) h3⟩
  · have ht : (lx == ly) = false := by simpa using hl
    have hsv : vx ≥ 0 := px
    by_cases hge : vy ≤ vx
    · go_enter Tryz.func253, Tryz.ntmps253
      go_wp2
      go_quiet (fail)
      go_wp2_with fail
      refine (beyond_any b1 b2 nx ny lx ly fx fy vx vy _ hnx hny (hx.drewN _) (hy.drewN _) HX.out HY.out).mono ?_
      rintro e w' ⟨r, nq2, rfl, hr, rfl⟩
      have hr0 : 0 ≤ r := hr.2 hge
      go_wp2_with fail
      refine (carry_at b1 b2 nx ny 0 _ rfl lx ly fx fy vx vy (-1) (vx - vy) _ hb hnx (by omega) (by omega) (by omega) (hx.drewN _) (hy.drewN _) HX.out.toSpells HY.out.toSpells (by simp; omega) (by omega) (by have := HL.out; omega)).mono ?_
      rintro e w' ⟨rfl, m, f, h1, h2, h3⟩
      go_wp2_with fail
      refine bodyPost_ret (results_none rfl _ _ _) rfl ?_
      exact ⟨rfl, NumAt.mk h1 (by have := HL.out; omega) h2 (by revert hl; cases lx <;> cases ly <;> (simp [sv]; try omega)), grown_trans (grown_drewN (grown_refl _ _) _) h3⟩
    · have hz : ∀ w, (zeroValue 267).run Tryz.prog w = .ok (.agg (wideCells false 0 fun _ => 0)) w := fun _ => by kernel_rfl
      go_enter Tryz.func253, Tryz.ntmps253
      go_wp2
      go_quiet (fail)
      go_wp2_with fail
      refine (beyond_any b1 b2 nx ny lx ly fx fy vx vy _ hnx hny (hx.drewN _) (hy.drewN _) HX.out HY.out).mono ?_
      rintro e w' ⟨r, nq2, rfl, hr, rfl⟩
      have hr0 : r < 0 := by omega
      have e234 : (Tryz.prog.info? 267).map (·.size) = some 234 := by kernel_rfl
      have E := Lib.hid e234; clear e234
      go_wp2_with (first | (refine wpList_load_row rfl 267 (.tmp 25) rfl b2 rfl 267 (wideCells ly ny fy) (0, 0) _ (hy.drewN _) Tryz.underlying267 rfl (by rw [wideCells_size]; exact E.out) ?_) | (refine wpList_store_row rfl 267 (.tmp 4) (.tmp 26) rfl w.heap.size (wideCells ly ny fy) rfl rfl 267 (wideCells false 0 fun _ => 0) (alloc_drewN_at _ _ _) (by rw [wideCells_size]; exact E.out) (by rw [wideCells_size, wideCells_size]) (wideCells_one _ _ _) ?_))
      have hne : b1 ≠ w.heap.size := by have := hx.lt; omega
      have hz1 : WideAt 267 (((w.drewN (nq + nq2)).alloc (Obj.cells (wideCells false 0 fun _ => 0) 267)).setRow w.heap.size (wideCells ly ny fy)) w.heap.size ly ny fy :=
        WideAt.setRow (n := 0) (less := false) (f := fun _ => 0) (alloc_drewN_at _ _ _)
      have hx1 : WideAt 267 (((w.drewN (nq + nq2)).alloc (Obj.cells (wideCells false 0 fun _ => 0) 267)).setRow w.heap.size (wideCells ly ny fy)) b1 lx nx fx := ((hx.drewN _).alloc _).setRow_other hne _
      refine (carry_at w.heap.size b1 ny nx 0 _ rfl ly lx fy fx vy vx (-1) (vy - vx) _ (Ne.symm hne) hny (by omega) (by omega) (by omega) hz1 hx1 HY.out.toSpells HX.out.toSpells (by simp; omega) (by omega) (by have := HL.out; omega)).mono ?_
      rintro e w' ⟨rfl, m, f, h1, h2, h3⟩
      have hx2 := hx1.grown h3 hne
      have G : w.grownBy w' (some b1) := grown_other (grown_setRow_new (grown_alloc (grown_drewN (grown_refl w (some b1)) (nq + nq2)) _) (Nat.le_refl _) _) (Nat.le_refl _) h3
      clear h3 hz1 hx1
      go_wp2_with (first | (refine wpList_load_row rfl 267 (.tmp 4) rfl w.heap.size rfl 267 (wideCells ly m f) (0, 0) _ h2 Tryz.underlying267 rfl (by rw [wideCells_size]; exact E.out) ?_) | (refine wpList_store_row rfl 267 (.tmp 31) (.tmp 30) rfl b1 (wideCells ly m f) rfl rfl 267 (wideCells lx nx fx) hx2 (by rw [wideCells_size]; exact E.out) (by rw [wideCells_size, wideCells_size]) (wideCells_one _ _ _) ?_))
      go_end0
      exact ⟨rfl, NumAt.mk h1 (by have := HL.out; omega) hx2.setRow (by revert hl; cases lx <;> cases ly <;> (simp [sv]; try omega)), grown_setRow G _⟩
end Go.Proofs.YtbpegjgpdgeadaaGreatDoor
namespace Go.Proofs.YtbpegjgpdgeadaaGreatDoor
open Go Go.RowKit Metro

theorem size291 : (Tryz.prog.info? 291).map (·.size) = some 2 := by kernel_rfl
theorem lies291 : liesAt Tryz.prog Tryz.prog.depth 291 (2 / Tryz.prog.cellsOf 291) 0 291 1 = true := by kernel_rfl
theorem info5 : (Tryz.prog.info? 5).map (fun i => (i.zero, i.size, i.bytes)) = some (some (.int .u8 0), 1, 1) := by kernel_rfl

set_option maxHeartbeats 1000000 in
set_option maxRecDepth 100000 in
/-- copyCheck: a builder of the call's own has its address laid. -/
theorem copyCheck_any (B b : Nat) (bs : List Value) (w : World) (h : Lib.IsBuilder 291 5 B b bs w) :
    Calls Tryz.prog 282 #[.pointer (some ⟨b, 0, none⟩)] w fun e w' => e = .returned (.tuple #[]) ∧ (Lib.BuilderAt 291 5 B b (.pointer (some ⟨b, 0, none⟩)) bs w' ∧ Below B w w') := by
  obtain ⟨j, hj, hjs⟩ := Option.map_eq_some_iff.1 size291
  rcases h with h | h
  · have c0 := h.cell0
    have f0 := h.frozen0
    have hsh := h.shape
    go_enter Tryz.func282, Tryz.ntmps282
    go_wp2
    rw [Lib.run_to_unsafe w ⟨b, 0, none⟩ Tryz.underlying289 Tryz.underlying319 hj (by rw [hjs]; decide) hsh (Nat.zero_lt_succ 1)]
    simp only [Result.andThen]
    rw [Oper.upon_value]
    go_wp2
    rw [run_callFunc_extern Tryz.func301 (by kernel_rfl) (by kernel_rfl) (by kernel_rfl) (e := Extern.AbiNoEscape.same) (by kernel_rfl)]
    rw [Lib.run_noEscape]
    simp only [Result.andThen]
    rw [Oper.upon_value]
    go_wp2
    rw [Lib.run_from_unsafe w ⟨b, 0, none⟩ Tryz.underlying319 Tryz.underlying289 hj hsh lies291]
    simp only [Result.andThen]
    rw [Oper.upon_value]
    go_wp2
    go_end0
    exact ⟨rfl, h.used _, (Below.refl B w).setCell (p := ⟨b, 0, none⟩) h.1 _⟩
  · have c0 := h.cell0
    go_enter Tryz.func282, Tryz.ntmps282
    go_wp2
    rw [Lib.run_neq_ptr_same w _ Tryz.underlying289 hj]
    go_wp2
    go_end0
    exact ⟨rfl, h, Below.refl B _⟩

set_option maxHeartbeats 2000000 in
set_option maxRecDepth 100000 in
/-- A byte is written. -/
theorem writeByte_any (B b : Nat) (l : List UInt8) (c : UInt8) (w : World) (h : Lib.IsBuilder 291 5 B b (Lib.byteCells l) w) (hlen : l.length + 1 ≤ 100000) (hBw : B ≤ w.heap.size) :
    Calls Tryz.prog 266 #[.pointer (some ⟨b, 0, none⟩), .int .u8 c.toNat] w fun e w' => e = .returned .nilIface ∧ (Lib.BuilderAt 291 5 B b (.pointer (some ⟨b, 0, none⟩)) (Lib.byteCells (l ++ [c])) w' ∧ Below B w w') := by
  obtain ⟨i0, hi, hz0, hz1, hz2⟩ := info_parts info5
  have hll : (Lib.byteCells l).length = l.length := Lib.byteCells_length l
  have HLL := Lib.hid hll; clear hll
  go_enter Tryz.func266, Tryz.ntmps266
  go_wp2_with fail
  refine (copyCheck_any B b _ _ h).mono ?_
  rintro e w1 ⟨rfl, h1, hb1⟩
  obtain ⟨hB, v, hbk, hown, hne⟩ := h1
  have hlt : b < w1.heap.size := Lib.BuilderAt.lt ⟨hB, v, hbk, hown, hne⟩
  have c0 : w1.cell? ⟨b, 0, none⟩ = some (.pointer (some ⟨b, 0, none⟩)) := by rw [Lib.cell_of_heap hbk]; rfl
  have c1 : w1.cell? ⟨b, 1, none⟩ = some v := by rw [Lib.cell_of_heap hbk]; rfl
  go_wp2_with (at_builtin; refine wpList_append_own _ rfl _ _ 220 rfl B 5 i0 (.int .u8 0) 1 1 Tryz.underlying220 hi hz0 hz1 hz2 rfl (by decide) _ _ _ rfl (hown.alloc _) ⟨w1.heap.size, 0, none⟩ 1 1 [.int .u8 c.toNat] rfl rfl ?c1 ?c2 ?c3 ?c4 ?c5 ?_)
  case c1 =>
    intro j u hj
    match j, hj with
    | 0, hj => simp at hj; subst hj; simp [Addr.add]
  case c2 => intro u hu; simp at hu; subst hu; rfl
  case c3 => unfold maxLen; have := HLL.out; omega
  case c4 => have := HLL.out; omega
  case c5 => have := hb1.size; simp; omega
  intro v' w2 hown' hgrow _
  have hb2 : w2.heap[b]? = some (.cells #[.pointer (some ⟨b, 0, none⟩), v] 291 (0, 0)) := by
    rw [hgrow.block b (by simp; omega) (fun e => hne e.symm), Below.heap_alloc w1 _ b hlt]
    exact hbk
  have d0 : w2.cell? ⟨b, 0, none⟩ = some (.pointer (some ⟨b, 0, none⟩)) := by rw [Lib.cell_of_heap hb2]; rfl
  have d1 : w2.cell? ⟨b, 1, none⟩ = some v := by rw [Lib.cell_of_heap hb2]; rfl
  have f1 : w2.frozen? ⟨b, 1, none⟩ = false := Lib.frozen_of_heap hb2 1
  have HG := Lib.hid ((hb1.alloc (by have := hb1.size; omega) _).grown hgrow (by have := hb1.size; simp; omega) (fun k hk => (hown.lt k hk).1))
  obtain ⟨ao, n', cap, rfl⟩ : ∃ ao n' cap, v' = .slice ao n' cap := by
    rcases hown'.2 with ⟨hv, _⟩ | ⟨g, cap, cur, hv, _⟩
    · exact ⟨_, _, _, hv⟩
    · exact ⟨_, _, _, hv⟩
  clear hgrow c0 c1 hbk hown
  go_wp2
  go_ret
  refine ⟨rfl, ?_, HG.out.setCell (p := ⟨b, 1, none⟩) hB _⟩
  exact Lib.BuilderAt.put (T := 291) (e := 5) hB hb2 (by rw [Lib.byteCells_append, show Lib.byteCells [c] = [Value.int .u8 c.toNat] from rfl]; simpa using hown') (by decide)

set_option maxHeartbeats 2000000 in
set_option maxRecDepth 100000 in
/-- A string is written. -/
theorem writeString_any (B b : Nat) (l : List UInt8) (s : ByteArray) (w : World) (h : Lib.IsBuilder 291 5 B b (Lib.byteCells l) w) (hlen : l.length + s.size ≤ 100000) (hBw : B ≤ w.heap.size) :
    Calls Tryz.prog 267 #[.pointer (some ⟨b, 0, none⟩), .string s] w fun e w' => e = .returned (.tuple #[.int .i64 s.size, .nilIface]) ∧ (Lib.BuilderAt 291 5 B b (.pointer (some ⟨b, 0, none⟩)) (Lib.byteCells (l ++ s.data.toList)) w' ∧ Below B w w') := by
  obtain ⟨i0, hi, hz0, hz1, hz2⟩ := info_parts info5
  have hll : (Lib.byteCells l).length = l.length := Lib.byteCells_length l
  have HLL := Lib.hid hll; clear hll
  go_enter Tryz.func267, Tryz.ntmps267
  go_wp2_with fail
  refine (copyCheck_any B b _ _ h).mono ?_
  rintro e w1 ⟨rfl, h1, hb1⟩
  obtain ⟨hB, v, hbk, hown, hne⟩ := h1
  have hlt : b < w1.heap.size := Lib.BuilderAt.lt ⟨hB, v, hbk, hown, hne⟩
  have c0 : w1.cell? ⟨b, 0, none⟩ = some (.pointer (some ⟨b, 0, none⟩)) := by rw [Lib.cell_of_heap hbk]; rfl
  have c1 : w1.cell? ⟨b, 1, none⟩ = some v := by rw [Lib.cell_of_heap hbk]; rfl
  go_wp2_with (at_builtin; refine Lib.wpList_append_own_string _ rfl _ _ 220 9 rfl B 5 i0 Tryz.underlying220 Tryz.underlying9 hi hz0 hz1 hz2 _ _ _ rfl hown s rfl ?c3 ?c4 ?c5 ?_)
  case c3 => unfold maxLen; have := HLL.out; omega
  case c4 => have := HLL.out; omega
  case c5 => have := hb1.size; omega
  intro v' w2 hown' hgrow _
  have hb2 : w2.heap[b]? = some (.cells #[.pointer (some ⟨b, 0, none⟩), v] 291 (0, 0)) := by
    rw [hgrow.block b hlt (fun e => hne e.symm)]
    exact hbk
  have d0 : w2.cell? ⟨b, 0, none⟩ = some (.pointer (some ⟨b, 0, none⟩)) := by rw [Lib.cell_of_heap hb2]; rfl
  have d1 : w2.cell? ⟨b, 1, none⟩ = some v := by rw [Lib.cell_of_heap hb2]; rfl
  have f1 : w2.frozen? ⟨b, 1, none⟩ = false := Lib.frozen_of_heap hb2 1
  have HG := Lib.hid (hb1.grown hgrow (by have := hb1.size; omega) (fun k hk => (hown.lt k hk).1))
  obtain ⟨ao, n', cap, rfl⟩ : ∃ ao n' cap, v' = .slice ao n' cap := by
    rcases hown'.2 with ⟨hv, _⟩ | ⟨g, cap, cur, hv, _⟩
    · exact ⟨_, _, _, hv⟩
    · exact ⟨_, _, _, hv⟩
  clear hgrow c0 c1 hbk hown
  go_wp2
  go_ret2
  refine ⟨rfl, ?_, HG.out.setCell (p := ⟨b, 1, none⟩) hB _⟩
  exact Lib.BuilderAt.put (T := 291) (e := 5) hB hb2 (by rw [Lib.byteCells_append, ← Lib.strCells_eq]; simpa [Lib.strCells_length] using hown') (by decide)
end Go.Proofs.YtbpegjgpdgeadaaGreatDoor
namespace Go.Proofs.YtbpegjgpdgeadaaGreatDoor
open Go Go.RowKit Metro

/-- What the calls lean on: the library's two variables. -/
def Env (w : World) : Prop := (∃ m : Int, w.cell? ⟨0, 0, none⟩ = some (.int .i64 m)) ∧ Lib.TabIs Tryz.prog w "internal/strconv.uint64pow10" .u64 Lib.pow10Tab

theorem Env.below {w w' : World} (h : Env w) (hb : Below w.heap.size w w') : Env w' := by
  obtain ⟨⟨m, hm⟩, ht⟩ := h
  exact ⟨⟨m, (hb.cell (p := ⟨0, 0, none⟩) (World.block_lt_of_cell? w _ hm)).trans hm⟩, Lib.tabBelow_of_tabIs ht w' hb⟩
theorem Env.grown {w w' : World} {b : Nat} (h : Env w) (hg : w.grownBy w' (some b)) (hb : w.heap.size ≤ b) : Env w' :=
  h.below ⟨hg.os, hg.tape, hg.output, hg.size, fun k hk => hg.block k hk (fun e => by have := Option.some.inj e; omega)⟩

theorem below_drewN (B : Nat) (w : World) (n : Nat) : Below B w (w.drewN n) := ⟨rfl, rfl, rfl, Nat.le_refl _, fun _ _ => rfl⟩

theorem itoa_any (n : Int) (w : World) (h0 : -9223372036854775808 ≤ n) (h1 : n ≤ 9223372036854775807) (hE : Env w) :
    Calls Tryz.prog 214 #[.int .i64 n] w fun e w' => e = .returned (.string (zt n)) ∧ Below w.heap.size w w' := by
  refine (Tryz.strconv_Itoa n h0 h1 w hE.2).mono ?_
  rintro e w' ⟨rfl, k, os, rfl⟩
  exact ⟨rfl, Lib.below_grow _ _ (Nat.le_refl _) _ _⟩

theorem atoi_any (s : ByteArray) (w : World) (hl : s.size ≤ 18) (hne : s.data.toList ≠ []) (hd : AllDig s.data.toList) :
    Calls Tryz.prog 250 #[.string s] w fun e w' => e = .returned (.tuple #[.int .i64 (dval s.data.toList : Int), .nilIface]) ∧ Below w.heap.size w w' := by
  refine (Tryz.strconv_Atoi s _ hl (atoi_dval hne hd) w).mono ?_
  rintro e w' ⟨rfl, t, rfl⟩
  exact ⟨rfl, Joins.below_bytesWorld _ _ _ _ (Nat.le_refl _)⟩

theorem cut_any (s : ByteArray) (w : World) (hs : s.size < 4294967281) (hE : Env w) :
    Calls Tryz.prog 228 #[.string s, .string ⟨#[47]⟩] w fun e w' => e = .returned (.tuple #[.string ⟨(cutA s.data.toList).toArray⟩, .string ⟨((s.data.toList.dropWhile (· != 47)).tail).toArray⟩, .bool (cutW s.data.toList)]) ∧ Below w.heap.size w w' := by
  obtain ⟨⟨m, hm⟩, _⟩ := hE
  refine (Tryz.strings_Cut s ⟨#[47]⟩ m w hs hm).mono ?_
  rintro e w' ⟨he, n, rfl⟩
  rw [show (⟨#[47]⟩ : ByteArray).data.toList = [47] from rfl, cut_slash] at he
  exact ⟨he, below_drewN _ _ _⟩

theorem trimPrefix_any (s : ByteArray) (w : World) :
    Calls Tryz.prog 240 #[.string s, .string ⟨#[45]⟩] w fun e w' => e = .returned (.string ⟨(bare s.data.toList).toArray⟩) ∧ w' = w := by
  refine (Tryz.strings_TrimPrefix s ⟨#[45]⟩ w).mono ?_
  rintro e w' ⟨he, hw⟩
  rw [show (⟨#[45]⟩ : ByteArray).data.toList = [45] from rfl, trim_minus] at he
  exact ⟨he, hw⟩

theorem trim_any (s : ByteArray) (w : World) (hs : s.size ≤ 9223372036854775807) :
    Calls Tryz.prog 241 #[.string s, .string ⟨#[48, 49, 50, 51, 52, 53, 54, 55, 56, 57]⟩] w fun e w' => e = .returned (.string ⟨(Lib.trimS s.data.toList digs).toArray⟩) ∧ Below w.heap.size w w' :=
  Any.strings_Trim_laid Tryz.lays160 (by kernel_rfl) s ⟨#[48, 49, 50, 51, 52, 53, 54, 55, 56, 57]⟩ w hs (by decide) (ascii_of_all (by decide))

end Go.Proofs.YtbpegjgpdgeadaaGreatDoor
namespace Go.Proofs.YtbpegjgpdgeadaaGreatDoor
open Go Go.RowKit Metro

theorem head_48 {D : ByteArray} (hp : 0 < D.size) : D.data.toList.head? = some 48 ↔ (((D[0]'hp).toNat : Int) = 48) := by
  have h1 : D.data.toList.head? = some (D[0]'hp) := by
    rw [List.head?_eq_getElem?]
    simp [ByteArray.getElem_eq_getElem_data]
  rw [h1, Option.some.injEq]
  constructor
  · intro h; rw [h]; rfl
  · intro h
    apply UInt8.toNat_inj.1
    show _ = 48
    omega

theorem chk_way {s D : ByteArray} (hD : D.data.toList = bare s.data.toList) (h0 : ¬ D.data.toList = []) (h1 : AllDig D.data.toList) :
    chkL s.data.toList = if D.data.toList.head? = some 48 ∧ ¬ s.data.toList = [48] then 3 else if 1024 < D.size then 11 else 0 := by
  unfold chkL
  rw [← hD, if_neg (by rw [not_or]; exact ⟨h0, by rw [any_nondig.2 h1]; exact Bool.false_ne_true⟩), Lib.size_eq]

set_option maxHeartbeats 1000000 in
set_option maxRecDepth 100000 in
theorem check_any (s : ByteArray) (w : World) (hs : s.size ≤ 140737488351232) :
    Calls Tryz.prog 215 #[.string s] w fun e w' => e = .returned (.int .i64 (chkL s.data.toList : Int)) ∧ Below w.heap.size w w' := by
  obtain ⟨D, hD⟩ : ∃ D : ByteArray, D = ⟨(bare s.data.toList).toArray⟩ := ⟨_, rfl⟩
  have hDl : D.data.toList = bare s.data.toList := by rw [hD]
  have hDs : D.size ≤ 140737488351232 := by
    rw [Lib.size_eq, hDl]; unfold bare; rw [Lib.size_eq] at hs
    split
    · rw [List.length_tail]; omega
    · exact hs
  have HD := Lib.hid hD
  have HDl := Lib.hid hDl
  clear hD hDl
  go_enter Tryz.func215, Tryz.ntmps215
  go_wp2_with fail
  refine (trimPrefix_any s w).mono ?_
  rintro e w1 ⟨he, hw⟩
  rw [← HD.out] at he
  subst he; subst hw
  by_cases h0 : D.data.toList = []
  · have h0' : D.toList = [] := by rw [Lib.toList_data]; exact h0
    have H0 := Lib.hid h0; clear h0
    go_wp2_with fail
    go_ret
    refine ⟨?_, Below.refl _ _⟩
    have := H0.out; rw [HDl.out] at this
    unfold chkL; rw [if_pos (.inl this)]; rfl
  · have h0' : ¬ D.toList = [] := by rw [Lib.toList_data]; exact h0
    have hp : 0 < D.size := by
      rw [Lib.size_eq]
      exact List.length_pos_iff.2 h0
    have H0 := Lib.hid h0; clear h0
    go_wp2_with fail
    refine (trim_any D _ (by omega)).mono ?_
    rintro e w2 ⟨he, hb⟩
    obtain ⟨T, hT⟩ : ∃ T : ByteArray, T = ⟨(Lib.trimS D.data.toList digs).toArray⟩ := ⟨_, rfl⟩
    rw [← hT] at he
    have hTl : T.toList = Lib.trimS D.data.toList digs := by rw [Lib.toList_data, hT]
    have HT := Lib.hid hTl
    subst he
    clear hT hTl
    have HB := Lib.hid hb; clear hb
    have hE : D.toList.isEmpty = false := by simpa using h0'
    by_cases h1 : AllDig D.data.toList
    · have h1' : T.toList.isEmpty = true := by rw [HT.out, (trim_digs _).2 h1]; rfl
      have HW := Lib.hid (chk_way HDl.out H0.out h1)
      have H1 := Lib.hid h1; clear h1 h0'
      have HH := Lib.hid (head_48 hp)
      have HS := Lib.hid (Lib.toList_data s)
      by_cases h2 : (((D[0]'hp).toNat : Int) = 48)
      · by_cases h3 : s.toList = [48]
        · have h3' : (s.toList == [48]) = true := by simpa using h3
          have H3 := Lib.hid h3; clear h3
          by_cases h4 : D.size ≤ 1024
          · have HW2 := Lib.hid (HW.out.trans ((if_neg (fun h => h.2 (by rw [← HS.out]; exact H3.out))).trans (if_neg (by omega))))
            go_wp2_with fail
            go_ret
            exact ⟨by rw [HW2.out]; rfl, HB.out⟩
          · have HW2 := Lib.hid (HW.out.trans ((if_neg (fun h => h.2 (by rw [← HS.out]; exact H3.out))).trans (if_pos (by omega))))
            go_wp2_with fail
            go_ret
            exact ⟨by rw [HW2.out]; rfl, HB.out⟩
        · have h3' : (s.toList == [48]) = false := by simpa using h3
          have H3 := Lib.hid h3; clear h3
          have HW2 := Lib.hid (HW.out.trans (if_pos ⟨HH.out.2 h2, fun h => H3.out (by rw [HS.out]; exact h)⟩))
          go_wp2_with fail
          go_ret
          exact ⟨by rw [HW2.out]; rfl, HB.out⟩
      · by_cases h4 : D.size ≤ 1024
        · have HW2 := Lib.hid (HW.out.trans ((if_neg (fun h => h2 (HH.out.1 h.1))).trans (if_neg (by omega))))
          go_wp2_with fail
          go_ret
          exact ⟨by rw [HW2.out]; rfl, HB.out⟩
        · have HW2 := Lib.hid (HW.out.trans ((if_neg (fun h => h2 (HH.out.1 h.1))).trans (if_pos (by omega))))
          go_wp2_with fail
          go_ret
          exact ⟨by rw [HW2.out]; rfl, HB.out⟩
    · have h1' : T.toList.isEmpty = false := by
        have : ¬ T.toList = [] := by rw [HT.out]; exact fun e => h1 ((trim_digs _).1 e)
        simpa using this
      have H1 := Lib.hid h1; clear h1
      go_wp2_with fail
      go_ret
      refine ⟨?_, HB.out⟩
      have := H1.out; rw [HDl.out, ← any_nondig] at this
      unfold chkL; rw [if_pos (.inr (by simpa using this))]; rfl
end Go.Proofs.YtbpegjgpdgeadaaGreatDoor
namespace Go.Proofs.YtbpegjgpdgeadaaGreatDoor
open Go Go.RowKit Metro

set_option maxHeartbeats 1000000 in
set_option maxRecDepth 100000 in
theorem all_any (g n : Nat) (ss : Nat → ByteArray) (w : World) (hn : n ≤ 100) (hc : ∀ i, i < n → w.cell? ⟨g, i, none⟩ = some (.string (ss i))) (hs : ∀ i, i < n → (ss i).size ≤ 140737488351232) (h0 : ∀ i, i < n → chkL (ss i).data.toList = 0) :
    Calls Tryz.prog 231 #[.slice (some ⟨g, 0, none⟩) n n] w fun e w' => e = .returned (.int .i64 0) ∧ Below w.heap.size w w' := by
  have HC := Lib.hid hc; have H0 := Lib.hid h0; have HS := Lib.hid hs
  clear hc h0 hs
  go_enter Tryz.func231, Tryz.ntmps231
  go_wp2
  go_loopg [8] n (fun d i wr => ∃ k : Nat, i = .int .i64 k ∧ k ≤ n ∧ d = n - k ∧ Below w.heap.size w wr)
  case atStart => exact ⟨0, rfl, by omega, rfl, Below.refl _ _⟩
  case round =>
    obtain ⟨k, rfl, hk, rfl, hb⟩ := hrel
    by_cases hlt : k < n
    · have hcell := HC.out k hlt
      have hcw : wr.cell? ⟨g, k, none⟩ = some (.string (ss k)) := (hb.cell (p := ⟨g, k, none⟩) (World.block_lt_of_cell? w _ hcell)).trans hcell
      have HB := Lib.hid hb
      have Hcell := Lib.hid hcell
      clear hb hcell
      go_wp2_with fail
      refine (check_any (ss k) _ (HS.out k hlt)).mono ?_
      rintro e w1 ⟨he, hb1⟩
      rw [H0.out k hlt] at he
      subst he
      have HB1 := Lib.hid (HB.out.trans (hb1.mono HB.out.size))
      clear hb1
      go_wp2_with fail
      go_roundg (n - (k + 1))
      case measure => omega
      case rel => exact ⟨k + 1, by go_num, by omega, rfl, HB1.out⟩
    · have HB := Lib.hid hb; clear hb
      go_wp2_with fail
      go_ret
      exact ⟨rfl, HB.out⟩
end Go.Proofs.YtbpegjgpdgeadaaGreatDoor
namespace Go.Proofs.YtbpegjgpdgeadaaGreatDoor
open Go Go.RowKit Metro

theorem zt_list (z : Int) : (zt z).toList = zl z := by rw [Lib.toList_data, zt_toList]
theorem zt_pos (z : Int) : 0 < (zt z).size := by
  rw [zt_size]; exact List.length_pos_iff.2 (zl_ne_nil z)
theorem zt_is0 {z : Int} (h : z = 0) : ((zt z).toList == [48]) = true := by rw [zt_list, h, zl_zero]; rfl
theorem zt_not0 {z : Int} (h : z ≠ 0) : ((zt z).toList == [48]) = false := by
  rw [zt_list, beq_eq_false_iff_ne]; exact fun e => h (zl_eq_zero.1 e)
theorem zt_first (z : Int) : (zl z).head? = some ((zt z)[0]'(zt_pos z)) := by
  rw [List.head?_eq_getElem?, ← zt_toList]
  have := zt_pos z
  simp [ByteArray.getElem_eq_getElem_data]
theorem zt_minus (z : Int) : ((((zt z)[0]'(zt_pos z)).toNat : Int) = 45) ↔ z < 0 := by
  rw [← zl_head, zt_first, Option.some.injEq]
  constructor
  · intro h; apply UInt8.toNat_inj.1; show _ = 45; omega
  · intro h; rw [h]; rfl

set_option maxHeartbeats 1000000 in
theorem sign_any (z : Int) (w : World) :
    Calls Tryz.prog 242 #[.string (zt z)] w fun e w' => e = .returned (.int .i64 z.sign) ∧ w = w' := by
  have hp := zt_pos z
  have HM := Lib.hid (zt_minus z)
  rcases Int.lt_trichotomy z 0 with h | h | h
  · have e0 := zt_not0 (z := z) (by omega)
    have hs : z.sign = -1 := Int.sign_eq_neg_one_of_neg h
    have hm := HM.out.2 h
    have HS := Lib.hid hs; clear hs
    go_enter Tryz.func242, Tryz.ntmps242
    go_wp2
    go_ret
    exact ⟨by rw [HS.out]; rfl, rfl⟩
  · have e0 := zt_is0 h
    have hs : z.sign = 0 := by rw [h]; rfl
    have HS := Lib.hid hs; clear hs
    have HZ := Lib.hid h; clear h
    go_enter Tryz.func242, Tryz.ntmps242
    go_wp2
    go_ret
    exact ⟨by rw [HS.out]; rfl, rfl⟩
  · have e0 := zt_not0 (z := z) (by omega)
    have hs : z.sign = 1 := Int.sign_eq_one_of_pos h
    have hm : ¬ ((((zt z)[0]'(zt_pos z)).toNat : Int) = 45) := fun e => by have := HM.out.1 e; omega
    have HS := Lib.hid hs; clear hs
    go_enter Tryz.func242, Tryz.ntmps242
    go_wp2
    go_ret
    exact ⟨by rw [HS.out]; rfl, rfl⟩

/-- The opposite number's text. -/
theorem zl_opp_neg {z : Int} (h : z < 0) : (zl z).tail = zl (-z) := by
  rw [zl_neg h, zl_nonneg (by omega), List.tail_cons, Int.natAbs_neg]
theorem zl_opp_pos {z : Int} (h : 0 < z) : 45 :: zl z = zl (-z) := by
  rw [zl_neg (show -z < 0 by omega), zl_nonneg (by omega), Int.natAbs_neg]
theorem zt_opp_neg {z : Int} (h : z < 0) : (zt z).extract 1 (zt z).size = zt (-z) := by
  have h1 := zl_opp_neg h
  have : ((zt z).extract 1 (zt z).size).data.toList = (zt (-z)).data.toList := by
    rw [Lib.extract_data, zt_toList, zt_toList, ← h1, zt_size]
    simp only [List.drop_one]
    exact List.take_of_length_le (by simp)
  apply ByteArray.ext; apply Array.ext'; exact this
theorem zt_opp_pos {z : Int} (h : 0 < z) : (⟨#[45]⟩ : ByteArray) ++ zt z = zt (-z) := by
  apply ByteArray.ext; apply Array.ext'
  have h1 := zl_opp_pos h
  rw [zt_toList, ← h1, ← zt_toList]
  simp

set_option maxHeartbeats 1000000 in
theorem opposite_any (z : Int) (w : World) (hsz : (zt z).size ≤ 100000) :
    Calls Tryz.prog 218 #[.string (zt z)] w fun e w' => e = .returned (.string (zt (-z))) ∧ w = w' := by
  have hp := zt_pos z
  rcases Int.lt_trichotomy z 0 with h | h | h
  · have hs : z.sign = -1 := Int.sign_eq_neg_one_of_neg h
    have HO := Lib.hid (zt_opp_neg h)
    have HS := Lib.hid hs; clear hs
    go_enter Tryz.func218, Tryz.ntmps218
    go_wp2_with fail
    refine (sign_any z _).mono ?_
    rintro e w' ⟨rfl, rfl⟩
    rw [HS.out]
    go_wp2_with fail
    go_ret
    exact ⟨by rw [← HO.out]; rfl, rfl⟩
  · have hs : z.sign = 0 := by rw [h]; rfl
    have HS := Lib.hid hs; clear hs
    have HZ := Lib.hid h; clear h
    go_enter Tryz.func218, Tryz.ntmps218
    go_wp2_with fail
    refine (sign_any z _).mono ?_
    rintro e w' ⟨rfl, rfl⟩
    rw [HS.out]
    go_wp2_with fail
    go_ret
    exact ⟨by rw [HZ.out]; rfl, rfl⟩
  · have hs : z.sign = 1 := Int.sign_eq_one_of_pos h
    have HO := Lib.hid (zt_opp_pos h)
    have HS := Lib.hid hs; clear hs
    go_enter Tryz.func218, Tryz.ntmps218
    go_wp2_with fail
    refine (sign_any z _).mono ?_
    rintro e w' ⟨rfl, rfl⟩
    rw [HS.out]
    go_wp2_with fail
    go_ret
    exact ⟨by rw [← HO.out]; rfl, rfl⟩
end Go.Proofs.YtbpegjgpdgeadaaGreatDoor
namespace Go.Proofs.YtbpegjgpdgeadaaGreatDoor
open Go Go.RowKit Metro
open Go.Lib (nDigits)

set_option maxHeartbeats 1000000 in
theorem order_any (n m : Nat) (w : World) :
    Calls Tryz.prog 243 #[.string (zt (n : Int)), .string (zt (m : Int))] w fun e w' => e = .returned (.int .i64 ((n : Int) - m).sign) ∧ w = w' := by
  have h1 := zt_nat_size n
  have h2 := zt_nat_size m
  rcases Nat.lt_trichotomy (nDigits n) (nDigits m) with h | h | h
  · have hs : ((n : Int) - m).sign = -1 := Int.sign_eq_neg_one_of_neg (by have := lt_of_shorter h; omega)
    have HS := Lib.hid hs; clear hs
    have t1 : (((zt (n : Int)).size : Int) != (zt (m : Int)).size) = true := by rw [h1, h2, bne_iff_ne]; omega
    have t2 : (zt (n : Int)).size < (zt (m : Int)).size := by omega
    clear h1 h2
    go_enter Tryz.func243, Tryz.ntmps243
    go_wp2
    go_ret
    exact ⟨by rw [HS.out]; rfl, rfl⟩
  · have t1 : (((zt (n : Int)).size : Int) != (zt (m : Int)).size) = false := by rw [h1, h2, h]; simp
    have HC := Lib.hid (compare_zt h)
    clear h1 h2 h
    go_enter Tryz.func243, Tryz.ntmps243
    go_wp2_with fail
    refine (Tryz.strings_Compare _ _ _).mono ?_
    rintro e w' ⟨rfl, rfl⟩
    rw [HC.out]
    go_wp2_with fail
    go_ret
    exact ⟨rfl, rfl⟩
  · have hs : ((n : Int) - m).sign = 1 := Int.sign_eq_one_of_pos (by have := lt_of_shorter h; omega)
    have HS := Lib.hid hs; clear hs
    have t1 : (((zt (n : Int)).size : Int) != (zt (m : Int)).size) = true := by rw [h1, h2, bne_iff_ne]; omega
    have t2 : ¬ (zt (n : Int)).size < (zt (m : Int)).size := by omega
    clear h1 h2
    go_enter Tryz.func243, Tryz.ntmps243
    go_wp2
    go_ret
    exact ⟨by rw [HS.out]; rfl, rfl⟩

/-- Two texts in a slice of the call's own. -/
theorem pair_cells (w : World) (T : Nat) (a b : ByteArray) : ∀ i, i < 2 → (w.alloc (.cells #[.string a, .string b] T)).cell? ⟨w.heap.size, i, none⟩ = some (.string (if i = 0 then a else b)) := by
  intro i hi
  rw [Lib.cell_of_heap (heap_alloc_new w _)]
  match i, hi with
  | 0, _ => rfl
  | 1, _ => rfl

theorem below_alloc' {w w' : World} {o : Obj} (h : Below (w.alloc o).heap.size (w.alloc o) w') : Below w.heap.size w w' :=
  ((Below.refl w.heap.size w).alloc (Nat.le_refl _) o).trans (h.mono (by simp))

theorem all2_any (a b : Int) (T : Nat) (w : World) (ha : nDigits a.natAbs ≤ 1024) (hb : nDigits b.natAbs ≤ 1024) :
    Calls Tryz.prog 231 #[.slice (some ⟨w.heap.size, 0, none⟩) 2 2] (w.alloc (.cells #[.string (zt a), .string (zt b)] T)) fun e w' => e = .returned (.int .i64 0) ∧ Below w.heap.size w w' := by
  have sz : ∀ z : Int, nDigits z.natAbs ≤ 1024 → (zt z).size ≤ 140737488351232 := fun z h => by rw [zt_size, zl_length]; split <;> omega
  refine (all_any w.heap.size 2 (fun i => if i = 0 then zt a else zt b) _ (by decide) (pair_cells w T _ _) (fun i _ => by split; exact sz a ha; exact sz b hb) (fun i _ => by split <;> rw [zt_toList]; exact chkL_small ha; exact chkL_small hb)).mono ?_
  rintro e w' ⟨rfl, h⟩
  exact ⟨rfl, below_alloc' h⟩

set_option maxHeartbeats 2000000 in
set_option maxRecDepth 100000 in
theorem compare_any (a b : Int) (w : World) (ha : nDigits a.natAbs ≤ 1024) (hb : nDigits b.natAbs ≤ 1024) :
    Calls Tryz.prog 216 #[.string (zt a), .string (zt b)] w fun e w' => e = .returned (.tuple #[.int .i64 (a - b).sign, .int .i64 0]) ∧ Below w.heap.size w w' := by
  have HS := Lib.hid (sign_sub_cases a b)
  have s1 : -1 ≤ a.sign ∧ a.sign ≤ 1 := by rcases Int.lt_trichotomy a 0 with h | h | h; (rw [Int.sign_eq_neg_one_of_neg h]; decide); (subst h; decide); (rw [Int.sign_eq_one_of_pos h]; decide)
  have s2 : -1 ≤ ((a.natAbs : Int) - b.natAbs).sign ∧ ((a.natAbs : Int) - b.natAbs).sign ≤ 1 := by rcases Int.lt_trichotomy ((a.natAbs : Int) - b.natAbs) 0 with h | h | h; (rw [Int.sign_eq_neg_one_of_neg h]; decide); (rw [h]; decide); (rw [Int.sign_eq_one_of_pos h]; decide)
  have HA := Lib.hid ha; have HBb := Lib.hid hb
  clear ha hb
  go_enter Tryz.func216, Tryz.ntmps216
  go_wp2_with fail
  refine (all2_any a b _ w HA.out HBb.out).mono ?_
  rintro e w1 ⟨rfl, hB⟩
  have HB := Lib.hid hB; clear hB
  go_wp2_with fail
  refine (sign_any a _).mono ?_
  rintro e w2 ⟨rfl, rfl⟩
  obtain ⟨A, hA⟩ : ∃ A, A = a.sign := ⟨_, rfl⟩
  rw [← hA] at s1 ⊢
  obtain ⟨O, hO⟩ : ∃ O, O = ((a.natAbs : Int) - b.natAbs).sign := ⟨_, rfl⟩
  rw [← hO] at s2
  have HSA := Lib.hid hA; have HO := Lib.hid hO; clear hA hO
  obtain ⟨C, hC⟩ : ∃ C, C = b.sign := ⟨_, rfl⟩
  have HSB := Lib.hid hC; clear hC
  rcases Int.lt_trichotomy A C with h | h | h
  · go_wp2_with fail
    refine (sign_any b _).mono ?_
    rintro e w2 ⟨rfl, rfl⟩
    rw [← HSB.out]
    go_wp2_with fail
    go_ret2
    exact ⟨by rw [HS.out, if_pos (by rw [← HSA.out, ← HSB.out]; exact h)]; rfl, HB.out⟩
  · have h1 : ¬ A < C := by omega
    have h2 : ¬ C < A := by omega
    have HE := Lib.hid h; clear h
    go_wp2_with fail
    refine (sign_any b _).mono ?_
    rintro e w2 ⟨rfl, rfl⟩
    rw [← HSB.out]
    go_wp2_with fail
    refine (sign_any b _).mono ?_
    rintro e w2 ⟨rfl, rfl⟩
    rw [← HSB.out]
    go_wp2_with fail
    refine (trimPrefix_any _ _).mono ?_
    rintro e w2 ⟨rfl, rfl⟩
    rw [zt_toList, zt_bare]
    go_wp2_with fail
    refine (trimPrefix_any _ _).mono ?_
    rintro e w2 ⟨rfl, rfl⟩
    rw [zt_toList, zt_bare]
    go_wp2_with fail
    refine (order_any a.natAbs b.natAbs _).mono ?_
    rintro e w2 ⟨rfl, rfl⟩
    rw [← HO.out]
    have hm1 : -1 ≤ A * O := by
      have : A = -1 ∨ A = 0 ∨ A = 1 := by omega
      rcases this with e | e | e <;> rw [e] <;> omega
    have hm2 : A * O ≤ 1 := by
      have : A = -1 ∨ A = 0 ∨ A = 1 := by omega
      rcases this with e | e | e <;> rw [e] <;> omega
    go_wp2_with fail
    go_ret2
    exact ⟨by rw [HS.out, if_neg (by rw [← HSA.out, ← HSB.out]; omega), if_neg (by rw [← HSA.out, ← HSB.out]; omega), ← HSA.out, ← HO.out]; rfl, HB.out⟩
  · have h1 : ¬ A < C := by omega
    go_wp2_with fail
    refine (sign_any b _).mono ?_
    rintro e w2 ⟨rfl, rfl⟩
    rw [← HSB.out]
    go_wp2_with fail
    refine (sign_any b _).mono ?_
    rintro e w2 ⟨rfl, rfl⟩
    rw [← HSB.out]
    go_wp2_with fail
    go_ret2
    exact ⟨by rw [HS.out, if_neg (by rw [← HSA.out, ← HSB.out]; omega), if_pos (by rw [← HSA.out, ← HSB.out]; exact h)]; rfl, HB.out⟩
end Go.Proofs.YtbpegjgpdgeadaaGreatDoor
namespace Go.Proofs.YtbpegjgpdgeadaaGreatDoor
open Go Go.RowKit Metro
open Go.Lib (nDigits decDigits)

theorem zero267 : Tryz.zeroCells267 = wideCells false 0 fun _ => 0 := by kernel_rfl

set_option maxHeartbeats 2000000 in
set_option maxRecDepth 100000 in
theorem read_any (z : Int) (w : World) (hz : nDigits z.natAbs ≤ 2000) :
    Calls Tryz.prog 234 #[.string (zt z)] w fun e w' => ∃ b, e = .returned (.pointer (some ⟨b, 0, none⟩)) ∧ w.heap.size ≤ b ∧ NumAt 267 w' b z ∧ Below w.heap.size w w' := by
  have hp := zt_pos z
  obtain ⟨L, hL⟩ : ∃ L, L = decide (z < 0) := ⟨_, rfl⟩
  have hm : ((((zt z)[0]'(zt_pos z)).toNat : Int) == 45) = L := by
    rw [hL, Bool.eq_iff_iff, beq_iff_eq, decide_eq_true_iff]; exact zt_minus z
  have HL := Lib.hid hL; clear hL
  go_enter Tryz.func234, Tryz.ntmps234
  go_wp2_with fail
  have hW : WideAt 267 (w.alloc (.cells (Tryz.zeroCells267.setIfInBounds 0 (.bool L)) 267)) w.heap.size L 0 fun _ => 0 := by
    rw [zero267, wideCells_setLess]; exact wideAt_new _ _ _ _ _
  have hB0 : Below w.heap.size w (w.alloc (.cells (Tryz.zeroCells267.setIfInBounds 0 (.bool L)) 267)) := (Below.refl _ _).alloc (Nat.le_refl _) _
  have hs0 : w.heap.size < (w.alloc (.cells (Tryz.zeroCells267.setIfInBounds 0 (.bool L)) 267)).heap.size := by simp
  refine (trimPrefix_any _ _).mono ?_
  rintro e w1 ⟨rfl, rfl⟩
  rw [zt_toList, zt_bare]
  generalize w.alloc (.cells (Tryz.zeroCells267.setIfInBounds 0 (.bool L)) 267) = w1 at hW hB0 hs0 ⊢
  have hszz := zt_nat_size z.natAbs
  obtain ⟨S0, hS0⟩ : ∃ S0, S0 = zt (z.natAbs : Int) := ⟨_, rfl⟩
  rw [← hS0] at hszz ⊢
  have hd0 : AllDig S0.data.toList := by rw [hS0, zt_toList, zl_ofNat]; exact allDig_decDigits _
  have hS : S0.size ≤ 2000 := by omega
  have HS0 := Lib.hid hS0; clear hszz hS0
  have HD0 := Lib.hid hd0; clear hd0
  have HB0 := Lib.hid hB0; have HW := Lib.hid hW; have HZ := Lib.hid hz; clear hB0 hW hz
  go_wp2_with fail
  go_loopg [3] S0.size (fun d s wr => ∃ (S : ByteArray) (n : Nat) (f : Nat → Int), s = .string S ∧ d = S.size ∧ (n ≤ 231 ∧ (0 < d → d + 9 * n ≤ 2000)) ∧ Reading S0.data.toList n S.data.toList f ∧ WideAt 267 wr w.heap.size L n f ∧ Below w.heap.size w wr ∧ w.heap.size < wr.heap.size)
  case atStart => exact ⟨S0, 0, _, rfl, rfl, ⟨by omega, fun _ => by omega⟩, Reading.start HD0.out, HW.out, HB0.out, hs0⟩
  case round =>
    obtain ⟨S, n, f, rfl, rfl, hn, hr, hw, hb, hs⟩ := hrel
    have HR := Lib.hid hr; have HB := Lib.hid hb; clear hr hb
    have c1 := hw.cell_n
    have f1 := hw.free 1
    have fw := hw.free (2 + n)
    by_cases hS0 : S.size = 0
    · have hnil : S.data.toList = [] := List.eq_nil_of_length_eq_zero (by rw [← Lib.size_eq]; exact hS0)
      have hr := HR.out
      rw [hnil] at hr
      have HR2 := Lib.hid hr.done
      clear hr hnil
      have hlt : ¬ 0 < S.size := by omega
      have HS1 := Lib.hid hS0; clear hS0 fw f1 c1
      go_wp2_with fail
      refine (trimmed_any w.heap.size n L f _ _ (by omega) hw HR2.out).mono ?_
      rintro e w2 ⟨m, rfl, ht, hw2, hg⟩
      go_wp2_with fail
      go_ret
      refine ⟨w.heap.size, rfl, Nat.le_refl _, ?_, HB.out.grown hg (Nat.le_of_lt hs) (fun k hk => by have := Option.some.inj hk; omega)⟩
      have e0 : dval S0.data.toList = z.natAbs := by rw [HS0.out, zt_toList, zl_ofNat, dval_decDigits]
      rw [e0] at ht
      refine NumAt.mk ht ?_ hw2 ?_
      · have h1 := ht.toSpells.lt
        have h2 := ht.top
        have : m ≤ 232 := by
          have h3 := HR2.out.lt
          rw [e0] at h3
          have := ht.n_le h3
          omega
        exact Int.lt_of_lt_of_le h1 (pow_mono this)
      · unfold sv
        rw [HL.out]
        by_cases h : z < 0 <;> simp [h] <;> omega
    · have hn2 : n < 232 := by omega
      have hlt : 0 < S.size := by omega
      have hmx : max (0 : Int) (↑S.size - 9) = ((S.size - 9 : Nat) : Int) := by omega
      have hsl : (S.extract (S.size - 9) S.size).data.toList = S.data.toList.drop (S.data.toList.length - 9) := by
        rw [Lib.extract_data, ← Lib.size_eq]
        exact List.take_of_length_le (by rw [List.length_drop, ← Lib.size_eq]; omega)
      have hC1 : (S.extract (S.size - 9) S.size).size ≤ 18 := by
        rw [Lib.size_eq, hsl, List.length_drop]; omega
      have hC2 : (S.extract (S.size - 9) S.size).data.toList ≠ [] := by
        rw [hsl]
        intro e
        have := congrArg List.length e
        rw [List.length_drop, ← Lib.size_eq, List.length_nil] at this
        omega
      have hC3 : AllDig (S.extract (S.size - 9) S.size).data.toList := by rw [hsl]; exact HR.out.dig.drop _
      obtain ⟨V, hV⟩ : ∃ V : Nat, V = dval (S.extract (S.size - 9) S.size).data.toList := ⟨_, rfl⟩
      have HA := Lib.hid (fun W => atoi_any (S.extract (S.size - 9) S.size) W hC1 hC2 hC3)
      rw [← hV] at HA
      rw [hsl] at hV
      have HV := Lib.hid hV
      clear hsl hC1 hC2 hC3 hV
      have hn0 : (0 : Int) ≤ (n : Int) := Int.natCast_nonneg _
      have hn3 : (n : Int) < 232 := by omega
      go_wp2_with fail
      go_region_held3 (fun w' => w'.cell? ⟨w.heap.size, 1, none⟩ = some (.int .i64 (n : Int)))
        (first | go_keep | exact d1 | exact (hw1.setWord n _).cell_n)
        (first | (go_at_call 250; refine (HA.out _).mono ?_; rintro e w1 ⟨rfl, hb1⟩; have hw1 : WideAt 267 w1 w.heap.size L n f := WideAt.below (w := wr.drew) hw hb1 hs; have d1 := hw1.cell_n; have d2 := hw1.free (2 + n); have d3 := hw1.cell_word (i := n) hn2))
      have hw2 := hw1.setWord n (V : Int)
      have f2 := hw2.free 1
      have HB2 := Lib.hid ((HB.out.drew.trans (hb1.mono (by have := HB.out.size; simp; omega))).setCell (p := ⟨w.heap.size, 2 + n, none⟩) (Nat.le_refl _) (.int .i64 (V : Int)))
      have hs2 : w.heap.size < w1.heap.size := by have := hb1.size; simp at this; omega
      have HS2 := Lib.hid hs2
      clear hb1 d1 d2 d3 c1 f1 fw hs2
      have hszx : (S.extract 0 (S.size - 9)).size = S.size - 9 := by rw [ByteArray.size_extract]; omega
      have HSX := Lib.hid hszx; clear hszx
      go_wp2_with fail
      go_roundg (S.size - 9)
      case measure => omega
      case rel =>
        rw [show ((n : Int) + 1) = ((n + 1 : Nat) : Int) from by omega]
        refine ⟨S.extract 0 (S.size - 9), n + 1, upd f n V, rfl, HSX.out.symm, ⟨by omega, fun _ => by omega⟩, ?_, hw2.setN _, HB2.out.setCell (p := ⟨w.heap.size, 1, none⟩) (Nat.le_refl _) _, by simp [World.setCell]; exact HS2.out⟩
        have h := HR.out.step
        rw [← HV.out] at h
        have e : (S.extract 0 (S.size - 9)).data.toList = S.data.toList.take (S.data.toList.length - 9) := by
          rw [Lib.extract_data, ← Lib.size_eq]; simp
        rw [e]
        exact h
end Go.Proofs.YtbpegjgpdgeadaaGreatDoor
