/- A part of the proof: LawBase. Conditions: none. -/
import Derived.Test.YtbpegjgpdgeadaaGreatDoorTorA
import Derived.Test.YtbpegjgpdgeadaaGreatDoorRows
import Derived.Test.YtbpegjgpdgeadaaGreatDoorChecked
import Derived.ProofKit
import Derived.Lay
import Derived.LaidOnce
import Derived.LaidMore
import Derived.OpenShut
import Derived.HandedShaped
import Derived.Stop.Joined
import Derived.Carry
namespace Go.Proofs.YtbpegjgpdgeadaaGreatDoor
open Go.ChangeShapes Go.WideShapes Go.ChangeAt Go.RowKit

theorem own : ownKnob Tryz.prog.godebug = none := by kernel_rfl
theorem laidOut : laidOutB Tryz.prog = true := by kernel_rfl
abbrev laid7 := Rows.torsorAppliesRow.laid

section
variable {H : Type} {enc : TypeId × Value → H}
/-- The wrap with the listed variables AND the world's shape. -/
theorem handed_and_shaped {a : Assume} {C : Checked} {os : Os} {f : FuncId} {fn : Func} {s : ChangeSpec} {conds : List PathCond} {apart fresh handsOn again : Bool} {X : World → Array Value → Prop}
    (hX : ∀ (w w' : World) (args : Array Value), w.heap = w'.heap → X w args → X w' args)
    (own : ownKnob C.prog.godebug = none) (started : os.Started) (noInit : C.prog.inits.idxOf? f = none) (hfn : C.prog.funcs[f]? = some fn)
    (witness : ∃ (w : World) (tape : Tape) (i : Input), w.os = os ∧ (w.forCall tape i).Shaped C.prog ∧ i.vars = [] ∧ Input.okWide C.prog (w.forCall tape i) .any w.heap.size f i ∧
      ((s.pre enc C.prog fn conds apart (w.forCall tape i).memory i.args ∧ X (w.forCall tape i).memory i.args) ∧ sizedMet enc C.prog fn (OpenSpec.ofChange s) apart (w.forCall tape i).memory i.args) ∧ a.holds C.prog (lone (Frame.enter C.prog f i.args .normal) [] (w.forCall tape i)))
    (contract : ∀ (W : World) (base : Nat) (args : Array Value) (ds gs : List (DataW H)) (before : List MemPlace),
      (∀ (j : Nat) t v, fn.params[j]? = some t → args[j]? = some v → Value.okWide C.prog W .any base t v) →
      DataW.Whole enc C.prog fn.params.toList s.vars apart W args.toList ds gs before →
      X W args → W.ShapedOpen C.prog →
      Calls C.prog f args W fun e W' => ∃ v, e = .returned v ∧ s.post enc C.prog fn apart fresh handsOn again W args v W') :
    ReturnsInHanded a C os f .any (fun w args => (s.pre enc C.prog fn conds apart w args ∧ X w args) ∧ sizedMet enc C.prog fn (OpenSpec.ofChange s) apart w args) (s.post enc C.prog fn apart fresh handsOn again) := by
  refine returnsInHanded_of_calls own started noInit witness ?_
  intro w tape i _ hsh _ hok hpre _
  obtain ⟨_, _, _, fn', hfn', _, _, _, _, hval⟩ := hok
  have e : fn' = fn := Option.some.inj (hfn'.symm.trans hfn)
  subst e
  obtain ⟨⟨⟨ds, gs, before, hw, _⟩, hx⟩, _⟩ := hpre
  have hw' := DataW.Whole.of_heap (w' := w.forCall tape i) (by rfl) hw
  refine (contract (w.forCall tape i) w.heap.size i.args ds gs before hval hw' (hX _ _ _ (by rfl) hx) hsh).mono fun e W' ⟨v, he, hp⟩ => ?_
  subst he
  exact ChangeSpec.post_blind hp
end

set_option maxRecDepth 100000 in
theorem env_of {W : World} (hL : laidMetH Tryz.prog laid7 W) (hsh : W.ShapedOpen Tryz.prog) : Env W := by
  refine ⟨Tryz.laysM220.s1_3 W hsh, ?_⟩
  rw [MakeChecks.laidMetH_plain _ _ _ (by kernel_rfl)] at hL
  obtain ⟨ps, ⟨_, _, _, _, _, _, _, _, _, _, ⟨_, _, _, _, _, _, _, _, _, _, ⟨g', t', cs, fuel, p, q, hg', ht', hvar, hd, _, _⟩, _⟩, _⟩, _⟩ := hL
  obtain rfl := Option.some.inj ((show Tryz.prog.globalNamed "internal/strconv.uint64pow10" = some 1 by kernel_rfl).symm.trans hg')
  obtain rfl := Option.some.inj ((show (Tryz.prog.globals[1]?).map (·.type) = some 315 by kernel_rfl).symm.trans ht')
  unfold Lib.TabIs
  rw [hvar, ← Lib.cells_of_tab (zs := Lib.pow10Tab) (k := .u64) Tryz.underlying315 Tryz.underlying251 (by kernel_rfl) (by kernel_rfl) hd]

section
variable {H : Type} {enc : TypeId × Value → H} {W : World} {sp : Nat → Bool} {held : Bool}
theorem open22 {fuel : Nat} {c : Value} {x : DataW H × List MemPlace} (h : DataW.trod enc Tryz.prog W 0 sp held fuel 22 [c] = some x) : ∃ s : ByteArray, c = .string s := by
  obtain ⟨s, hs, _⟩ := DataW.trod_string Tryz.underlying22 h
  exact ⟨s, by simpa using hs⟩
theorem cells23 : Tryz.prog.cellsOf 23 = 3 := by kernel_rfl
theorem cells22 : Tryz.prog.cellsOf 22 = 1 := by kernel_rfl
theorem cells25 : Tryz.prog.cellsOf 25 = 6 := by kernel_rfl
theorem cells27 : Tryz.prog.cellsOf 27 = 3 := by kernel_rfl
theorem open23 {fuel : Nat} {c0 c1 c2 : Value} {x : DataW H × List MemPlace} (h : DataW.trod enc Tryz.prog W 0 sp held fuel 23 [c0, c1, c2] = some x) : ∃ a b c : ByteArray, c0 = .string a ∧ c1 = .string b ∧ c2 = .string c := by
  obtain ⟨xs, m, _, _, _, hn, hel⟩ := DataW.trod_array Tryz.underlying23 h
  rw [cells22] at hel
  have e0 := hel 0 (by decide); have e1 := hel 1 (by decide); have e2 := hel 2 (by decide)
  rw [List.getElem?_eq_getElem (by omega)] at e0 e1 e2
  obtain ⟨a, ha⟩ := open22 (c := c0) e0
  obtain ⟨b, hb⟩ := open22 (c := c1) e1
  obtain ⟨c, hc⟩ := open22 (c := c2) e2
  exact ⟨a, b, c, ha, hb, hc⟩
set_option maxRecDepth 100000 in
theorem open25 {base : Nat} {v : Value} {d : DataW H} {p : List MemPlace} (hv : Value.okWide Tryz.prog W .any base 25 v) (h : DataW.Trod enc Tryz.prog W 0 sp held 25 v d p) :
    ∃ t : Nat → ByteArray, v = .agg #[.string (t 0), .string (t 1), .string (t 2), .string (t 3), .string (t 4), .string (t 5)] := by
  obtain ⟨cs, rfl, hsz⟩ := okWide_struct Tryz.underlying25 hv
  obtain ⟨l⟩ := cs
  rw [cells25] at hsz
  match l, hsz with
  | [c0, c1, c2, c3, c4, c5], _ =>
    obtain ⟨fuel, hf⟩ := h
    obtain ⟨xs, n, _, _, _, hlen, hg⟩ := DataW.trod_struct Tryz.underlying25 hf
    have g0 := hg 0 _ rfl; have g1 := hg 1 _ rfl
    rw [List.getElem?_eq_getElem (by rw [hlen]; decide)] at g0 g1
    obtain ⟨a, b, c, rfl, rfl, rfl⟩ := open23 (c0 := c0) (c1 := c1) (c2 := c2) g0
    obtain ⟨d, e, f, rfl, rfl, rfl⟩ := open23 (c0 := c3) (c1 := c4) (c2 := c5) g1
    exact ⟨fun | 0 => a | 1 => b | 2 => c | 3 => d | 4 => e | _ => f, rfl⟩
theorem open3i {fuel : Nat} {c : Value} {x : DataW H × List MemPlace} (h : DataW.trod enc Tryz.prog W 0 sp held fuel 3 [c] = some x) : ∃ z : Int, c = .int .i64 z := by
  obtain ⟨z, hz, _⟩ := DataW.trod_int Tryz.underlying3 h
  exact ⟨z, by simpa using hz⟩
set_option maxRecDepth 100000 in
theorem open27 {base : Nat} {v : Value} {d : DataW H} {p : List MemPlace} (hv : Value.okWide Tryz.prog W .any base 27 v) (h : DataW.Trod enc Tryz.prog W 0 sp held 27 v d p) :
    ∃ x y z : Int, v = .agg #[.int .i64 x, .int .i64 y, .int .i64 z] := by
  obtain ⟨cs, rfl, hsz⟩ := okWide_struct Tryz.underlying27 hv
  obtain ⟨l⟩ := cs
  rw [cells27] at hsz
  match l, hsz with
  | [c0, c1, c2], _ =>
    obtain ⟨fuel, hf⟩ := h
    obtain ⟨xs, n, _, _, _, hlen, hg⟩ := DataW.trod_struct Tryz.underlying27 hf
    have g0 := hg 0 _ rfl; have g1 := hg 1 _ rfl; have g2 := hg 2 _ rfl
    rw [List.getElem?_eq_getElem (by rw [hlen]; decide)] at g0 g1 g2
    obtain ⟨x, rfl⟩ := open3i (c := c0) g0
    obtain ⟨y, rfl⟩ := open3i (c := c1) g1
    obtain ⟨z, rfl⟩ := open3i (c := c2) g2
    exact ⟨x, y, z, rfl⟩
end

section
variable {H : Type} {enc : TypeId × Value → H} {W : World} {sp : Nat → Bool} {held : Bool}
theorem cells50 : Tryz.prog.cellsOf 50 = 6 := by kernel_rfl
set_option maxRecDepth 100000 in
theorem open27c {fuel : Nat} {c0 c1 c2 : Value} {x : DataW H × List MemPlace} (h : DataW.trod enc Tryz.prog W 0 sp held fuel 27 [c0, c1, c2] = some x) : ∃ x y z : Int, c0 = .int .i64 x ∧ c1 = .int .i64 y ∧ c2 = .int .i64 z := by
  obtain ⟨xs, n, _, _, _, hlen, hg⟩ := DataW.trod_struct Tryz.underlying27 h
  have g0 := hg 0 _ rfl; have g1 := hg 1 _ rfl; have g2 := hg 2 _ rfl
  rw [List.getElem?_eq_getElem (by rw [hlen]; decide)] at g0 g1 g2
  obtain ⟨x, rfl⟩ := open3i (c := c0) g0
  obtain ⟨y, rfl⟩ := open3i (c := c1) g1
  obtain ⟨z, rfl⟩ := open3i (c := c2) g2
  exact ⟨x, y, z, rfl, rfl, rfl⟩
set_option maxRecDepth 100000 in
theorem open50 {base : Nat} {v : Value} {d : DataW H} {p : List MemPlace} (hv : Value.okWide Tryz.prog W .any base 50 v) (h : DataW.Trod enc Tryz.prog W 0 sp held 50 v d p) :
    ∃ x y z x2 y2 z2 : Int, v = .agg #[.int .i64 x, .int .i64 y, .int .i64 z, .int .i64 x2, .int .i64 y2, .int .i64 z2] := by
  simp only [Value.okWide, Tryz.underlying50] at hv
  obtain ⟨cs, rfl, hsz, _⟩ := hv
  obtain ⟨l⟩ := cs
  rw [cells50] at hsz
  match l, hsz with
  | [c0, c1, c2, c3, c4, c5], _ =>
    obtain ⟨fuel, hf⟩ := h
    obtain ⟨xs, m, _, _, _, hn, hel⟩ := DataW.trod_array Tryz.underlying50 hf
    rw [cells27] at hel
    have e0 := hel 0 (by decide); have e1 := hel 1 (by decide)
    rw [List.getElem?_eq_getElem (by omega)] at e0 e1
    obtain ⟨x, y, z, rfl, rfl, rfl⟩ := open27c (c0 := c0) (c1 := c1) (c2 := c2) e0
    obtain ⟨x2, y2, z2, rfl, rfl, rfl⟩ := open27c (c0 := c3) (c1 := c4) (c2 := c5) e1
    exact ⟨x, y, z, x2, y2, z2, rfl⟩
theorem wf_u8 {n : Int} (h : (Lit.int .u8 n).wf = true) : 0 ≤ n ∧ n ≤ 255 := bounds_u8 h
end
end Go.Proofs.YtbpegjgpdgeadaaGreatDoor
