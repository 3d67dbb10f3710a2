/-
  klippelaw32.SliceCoordinates: the arguments as the row reads them, and the law between them.
-/
import Derived.Test.YtobknfkobcbnoaaGreatDoorSymMain
import Derived.Test.YtobknfkobcbnoaaGreatDoorRows
import Derived.ProofKit
import Derived.LaidMore
import Derived.OpenShut
import Derived.Stop.Joined
import Derived.Stop.LaidErr
import Derived.Deep.Strs
import Derived.Lib.SmallJoins
import Derived.Laws.IdiomArrays
set_option linter.unusedSectionVars false
set_option linter.unusedVariables false
set_option linter.unusedSimpArgs false
namespace Go.Proofs.YtobknfkobcbnoaaGreatDoor
open Go.ChangeShapes Go.WideShapes Go.ChangeAt Go.WideMaps Go.WideElems Go.RowKit Go.Deep

theorem own : ownKnob Tryz.prog.godebug = none := by kernel_rfl
theorem gPow : Tryz.prog.globalNamed "internal/strconv.uint64pow10" = some 1 := by kernel_rfl

/-! ### the arguments -/
section
variable {H : Type} {enc : TypeId × Value → H} {w : World} {base : Nat} {spare : Nat → Bool} {held : Bool}
/-- the data of ints of eight bits -/
def lits {H : Type} (l : List Int) : DataW H := .agg (l.map fun z => .lit (.int .i8 z))
theorem cells_i8 : Tryz.prog.cellsOf 22 = 1 := by kernel_rfl
theorem cells_a3 : Tryz.prog.cellsOf 23 = 3 := by kernel_rfl
theorem cells_a2 : Tryz.prog.cellsOf 26 = 2 := by kernel_rfl
theorem cells_flat : Tryz.prog.cellsOf 25 = 9 := by kernel_rfl
theorem list2 {α : Type} {l : List α} (h : l.length = 2) : ∃ a b, l = [a, b] := by
  match l, h with
  | [a, b], _ => exact ⟨a, b, rfl⟩
theorem list3 {α : Type} {l : List α} (h : l.length = 3) : ∃ a b c, l = [a, b, c] := by
  match l, h with
  | [a, b, c], _ => exact ⟨a, b, c, rfl⟩
theorem list9 {α : Type} {l : List α} (h : l.length = 9) : ∃ a b c d e f g i j, l = [a, b, c, d, e, f, g, i, j] := by
  match l, h with
  | [a, b, c, d, e, f, g, i, j], _ => exact ⟨a, b, c, d, e, f, g, i, j, rfl⟩
variable {P : Program}
theorem open_arr3 {t e : TypeId} (ht : P.underlying t = some (.array 3 e)) (he : P.underlying e = some (.int .i8)) (ct : P.cellsOf t = 3) (ce : P.cellsOf e = 1) {fuel : Nat} {cs : List Value} {x : DataW H × List MemPlace} (h : DataW.trod enc P w base spare held fuel t cs = some x) :
    ∃ a b c : Int, cs = [.int .i8 a, .int .i8 b, .int .i8 c] ∧ x = (lits [a, b, c], []) ∧ (-128 ≤ a ∧ a < 128) ∧ (-128 ≤ b ∧ b < 128) ∧ (-128 ≤ c ∧ c < 128) := by
  obtain ⟨xs, m, _, rfl, hl, hn, hi⟩ := DataW.trod_array ht h
  rw [ct] at hl
  obtain ⟨c0, c1, c2, rfl⟩ := list3 hl
  obtain ⟨x0, x1, x2, rfl⟩ := list3 hn
  have h0 := hi 0 (by omega)
  have h1 := hi 1 (by omega)
  have h2 := hi 2 (by omega)
  rw [ce] at h0 h1 h2
  obtain ⟨a, e0, rfl, w0⟩ := DataW.trod_int he (show _ = some x0 from h0)
  obtain ⟨b, e1, rfl, w1⟩ := DataW.trod_int he (show _ = some x1 from h1)
  obtain ⟨c, e2, rfl, w2⟩ := DataW.trod_int he (show _ = some x2 from h2)
  have b0 := bounds_i8 w0
  have b1 := bounds_i8 w1
  have b2 := bounds_i8 w2
  have e0 : c0 = .int .i8 a := by simpa using e0
  have e1 : c1 = .int .i8 b := by simpa using e1
  have e2 : c2 = .int .i8 c := by simpa using e2
  exact ⟨a, b, c, by rw [e0, e1, e2], rfl, by omega, by omega, by omega⟩
theorem open_arr2 {t e : TypeId} (ht : P.underlying t = some (.array 2 e)) (he : P.underlying e = some (.int .i8)) (ct : P.cellsOf t = 2) (ce : P.cellsOf e = 1) {fuel : Nat} {cs : List Value} {x : DataW H × List MemPlace} (h : DataW.trod enc P w base spare held fuel t cs = some x) :
    ∃ a b : Int, cs = [.int .i8 a, .int .i8 b] ∧ x = (lits [a, b], []) ∧ (-128 ≤ a ∧ a < 128) ∧ (-128 ≤ b ∧ b < 128) := by
  obtain ⟨xs, m, _, rfl, hl, hn, hi⟩ := DataW.trod_array ht h
  rw [ct] at hl
  obtain ⟨c0, c1, rfl⟩ := list2 hl
  obtain ⟨x0, x1, rfl⟩ := list2 hn
  have h0 := hi 0 (by omega)
  have h1 := hi 1 (by omega)
  rw [ce] at h0 h1
  obtain ⟨a, e0, rfl, w0⟩ := DataW.trod_int he (show _ = some x0 from h0)
  obtain ⟨b, e1, rfl, w1⟩ := DataW.trod_int he (show _ = some x1 from h1)
  have b0 := bounds_i8 w0
  have b1 := bounds_i8 w1
  have e0 : c0 = .int .i8 a := by simpa using e0
  have e1 : c1 = .int .i8 b := by simpa using e1
  exact ⟨a, b, by rw [e0, e1], rfl, by omega, by omega⟩
theorem wf_i8 {a : Int} (h : -128 ≤ a ∧ a < 128) : (Lit.int .i8 a).wf = true := by
  simp [Lit.wf, IntKind.min, IntKind.max, IntKind.signed, IntKind.bits]; omega
theorem trod_i8 {e : TypeId} (he : P.underlying e = some (.int .i8)) (fuel : Nat) {a : Int} (h : -128 ≤ a ∧ a < 128) : DataW.trod enc P w base spare held (fuel + 1) e [.int .i8 a] = some (.lit (.int .i8 a), []) := by
  unfold DataW.trod
  rw [he]
  simp [wf_i8 h]
theorem shut_arr3 {t e : TypeId} (ht : P.underlying t = some (.array 3 e)) (he : P.underlying e = some (.int .i8)) (ct : P.cellsOf t = 3) (ce : P.cellsOf e = 1) (fuel : Nat) {a b c : Int} (ha : -128 ≤ a ∧ a < 128) (hb : -128 ≤ b ∧ b < 128) (hc : -128 ≤ c ∧ c < 128) :
    DataW.trod enc P w base spare held (fuel + 2) t [.int .i8 a, .int .i8 b, .int .i8 c] = some (lits [a, b, c], []) := by
  unfold DataW.trod
  rw [ht]
  have r3 : List.range 3 = [0, 1, 2] := rfl
  simp only [ct, ce, r3]
  simp [trod_i8 he fuel ha, trod_i8 he fuel hb, trod_i8 he fuel hc, lits]
theorem shut_arr2 {t e : TypeId} (ht : P.underlying t = some (.array 2 e)) (he : P.underlying e = some (.int .i8)) (ct : P.cellsOf t = 2) (ce : P.cellsOf e = 1) (fuel : Nat) {a b : Int} (ha : -128 ≤ a ∧ a < 128) (hb : -128 ≤ b ∧ b < 128) :
    DataW.trod enc P w base spare held (fuel + 2) t [.int .i8 a, .int .i8 b] = some (lits [a, b], []) := by
  unfold DataW.trod
  rw [ht]
  have r2 : List.range 2 = [0, 1] := rfl
  simp only [ct, ce, r2]
  simp [trod_i8 he fuel ha, trod_i8 he fuel hb, lits]
theorem open_flatP {s t e : TypeId} {f0 f1 f2 : Field} (hs : P.underlying s = some (.struct #[f0, f1, f2])) (t0 : f0.type = t) (t1 : f1.type = t) (t2 : f2.type = t) (o0 : f0.offset = 0) (o1 : f1.offset = 3) (o2 : f2.offset = 6) (cs9 : P.cellsOf s = 9)
    (ht : P.underlying t = some (.array 3 e)) (he : P.underlying e = some (.int .i8)) (ct : P.cellsOf t = 3) (ce : P.cellsOf e = 1) {fuel : Nat} {cs : List Value} {x : DataW H × List MemPlace} (h : DataW.trod enc P w base spare held fuel s cs = some x) :
    ∃ a b c d e f g i j : Int, cs = [.int .i8 a, .int .i8 b, .int .i8 c, .int .i8 d, .int .i8 e, .int .i8 f, .int .i8 g, .int .i8 i, .int .i8 j] ∧ x = (.agg [lits [a, b, c], lits [d, e, f], lits [g, i, j]], []) ∧
      (-128 ≤ a ∧ a < 128) ∧ (-128 ≤ b ∧ b < 128) ∧ (-128 ≤ c ∧ c < 128) ∧ (-128 ≤ d ∧ d < 128) ∧ (-128 ≤ e ∧ e < 128) ∧ (-128 ≤ f ∧ f < 128) ∧ (-128 ≤ g ∧ g < 128) ∧ (-128 ≤ i ∧ i < 128) ∧ (-128 ≤ j ∧ j < 128) := by
  obtain ⟨y0, y1, y2, m, rfl, hl, h0, h1, h2⟩ := trod_struct3 hs h
  rw [cs9] at hl
  rw [t0, o0, ct] at h0
  rw [t1, o1, ct] at h1
  rw [t2, o2, ct] at h2
  obtain ⟨c0, c1, c2, c3, c4, c5, c6, c7, c8, rfl⟩ := list9 hl
  obtain ⟨a, b, c, e0, rfl, ha, hb, hc⟩ := open_arr3 ht he ct ce h0
  obtain ⟨d, e, f, e1, rfl, hd, he, hf⟩ := open_arr3 ht he ct ce h1
  obtain ⟨g, i, j, e2, rfl, hg, hi, hj⟩ := open_arr3 ht ‹P.underlying _ = some (.int .i8)› ct ce h2
  simp only [List.drop_zero, List.take_succ_cons, List.take_zero, List.cons.injEq, and_true] at e0
  simp only [List.drop_succ_cons, List.drop_zero, List.take_succ_cons, List.take_zero, List.cons.injEq, and_true] at e1 e2
  obtain ⟨rfl, rfl, rfl⟩ := e0
  obtain ⟨rfl, rfl, rfl⟩ := e1
  obtain ⟨rfl, rfl, rfl⟩ := e2
  exact ⟨a, b, c, d, e, f, g, i, j, rfl, rfl, ha, hb, hc, hd, he, hf, hg, hi, hj⟩
theorem shut_flatP {s t e : TypeId} {f0 f1 f2 : Field} (hs : P.underlying s = some (.struct #[f0, f1, f2])) (t0 : f0.type = t) (t1 : f1.type = t) (t2 : f2.type = t) (o0 : f0.offset = 0) (o1 : f1.offset = 3) (o2 : f2.offset = 6) (cs9 : P.cellsOf s = 9)
    (ht : P.underlying t = some (.array 3 e)) (hE : P.underlying e = some (.int .i8)) (ct : P.cellsOf t = 3) (ce : P.cellsOf e = 1) (fuel : Nat) {a b c d e f g i j : Int} (ha : -128 ≤ a ∧ a < 128) (hb : -128 ≤ b ∧ b < 128) (hc : -128 ≤ c ∧ c < 128) (hd : -128 ≤ d ∧ d < 128) (he : -128 ≤ e ∧ e < 128) (hf : -128 ≤ f ∧ f < 128) (hg : -128 ≤ g ∧ g < 128) (hi : -128 ≤ i ∧ i < 128) (hj : -128 ≤ j ∧ j < 128) :
    DataW.trod enc P w base spare held (fuel + 3) s [.int .i8 a, .int .i8 b, .int .i8 c, .int .i8 d, .int .i8 e, .int .i8 f, .int .i8 g, .int .i8 i, .int .i8 j] = some (.agg [lits [a, b, c], lits [d, e, f], lits [g, i, j]], []) :=
  trod_struct3_mk (y0 := (lits [a, b, c], [])) (y1 := (lits [d, e, f], [])) (y2 := (lits [g, i, j], [])) hs (by rw [cs9]; rfl)
    (by rw [t0, o0, ct]; exact shut_arr3 ht hE ct ce fuel ha hb hc) (by rw [t1, o1, ct]; exact shut_arr3 ht hE ct ce fuel hd he hf) (by rw [t2, o2, ct]; exact shut_arr3 ht hE ct ce fuel hg hi hj)
end
theorem met_heap {P : Program} {l : List (String × DataW Unit)} {w w' : World} (hh : w.heap = w'.heap) (h : laidMetH P l w) : laidMetH P l w' := h.of_heap hh
theorem okWide_arr {P : Program} {n e t : Nat} {r : Reach} {b : Nat} {W : World} {v : Value} (ht : P.underlying t = some (.array n e)) (h : Value.okWide P W r b t v) : ∃ cs, v = .agg cs := by
  simp only [Value.okWide, ht] at h
  obtain ⟨cs, h1, _⟩ := h
  exact ⟨cs, h1⟩

/-! ### the listed table -/
abbrev laidL : List (String × DataW Unit) := Rows.sliceCoordinatesRow.laid
theorem door_met (os : Os) (args : Array Value) : laidMetH Tryz.prog laidL ((World.doorLaid Tryz.prog 62 os).forCall (fun _ _ => 0) ⟨#[], args, []⟩).memory :=
  laidMetH_of_parts3 (fuel := 8) (laidMet_of_run' 8 (by kernel_rfl) (by kernel_rfl)) (by kernel_rfl) (by kernel_rfl)
theorem tab_of {W : World} (h : laidMetH Tryz.prog laidL W) : PTab W := by
  rw [MakeChecks.laidMetH_plain _ _ _ (by kernel_rfl)] at h
  exact Lib.tabIs_of_head gPow (by kernel_rfl) Tryz.underlying333 Tryz.underlying231 (by kernel_rfl) (by kernel_rfl) h.tail.tail
theorem pow_cells : ∀ E : Ev.Env, Ev.VRL E pow10 (Lib.pow10Tab.map fun z => Value.int .u64 z) := by
  intro E
  show Ev.VRL E [.int .u64 1, .int .u64 10, .int .u64 100, .int .u64 1000, .int .u64 10000, .int .u64 100000, .int .u64 1000000, .int .u64 10000000, .int .u64 100000000, .int .u64 1000000000, .int .u64 10000000000, .int .u64 100000000000, .int .u64 1000000000000, .int .u64 10000000000000, .int .u64 100000000000000, .int .u64 1000000000000000, .int .u64 10000000000000000, .int .u64 100000000000000000, .int .u64 1000000000000000000, .int .u64 10000000000000000000] _
  exact ⟨_, _, rfl, rfl, _, _, rfl, rfl, _, _, rfl, rfl, _, _, rfl, rfl, _, _, rfl, rfl, _, _, rfl, rfl, _, _, rfl, rfl, _, _, rfl, rfl, _, _, rfl, rfl, _, _, rfl, rfl, _, _, rfl, rfl, _, _, rfl, rfl, _, _, rfl, rfl, _, _, rfl, rfl, _, _, rfl, rfl, _, _, rfl, rfl, _, _, rfl, rfl, _, _, rfl, rfl, _, _, rfl, rfl, _, _, rfl, rfl, rfl⟩
theorem var_heap {W : World} {cs : Array Value} (h : W.var? Tryz.prog "internal/strconv.uint64pow10" = some cs) : ∃ e fr, W.heap[1]? = some (.cells cs e fr) := by
  unfold World.var? at h
  rw [gPow] at h
  simp only [Option.bind_some] at h
  split at h
  · rename_i c e fr hc
    exact ⟨e, fr, by rw [hc, Option.some.inj h]⟩
  · cases h
theorem pow_of {W : World} (h : PTab W) (s : Nat → Value) : Pow ⟨W.heap, s⟩ := by
  obtain ⟨e, fr, hc⟩ := var_heap h
  refine ⟨?_, _, e, fr, hc, fun E => ⟨_, [], pow_cells E, by simp⟩⟩
  have := (Array.getElem?_eq_some_iff.1 hc).1
  exact this
theorem tab_later {W w : World} (h : PTab W) (h1 : W.heap.size ≤ w.heap.size) (h2 : ∀ b, b < W.heap.size → w.heap[b]? = W.heap[b]?) : PTab w := by
  obtain ⟨e, fr, hc⟩ := var_heap h
  have := (Array.getElem?_eq_some_iff.1 hc).1
  have hw := (h2 1 this).trans hc
  show w.var? Tryz.prog _ = _
  unfold World.var?
  rw [gPow]
  simp only [Option.bind_some, hw]
theorem keptBut_of {W W' : World} {may : MemPlace → Prop} (ho : W'.os = W.os) (hp : W'.output = W.output) (hb : ∀ b, b < W.heap.size → W'.heap[b]? = W.heap[b]?) : W.keptBut W' may := by
  refine ⟨ho, hp, fun i hi => ?_⟩
  rw [hb i hi]
  cases h : W.heap[i]? with
  | none => rfl
  | some o =>
    cases o with
    | cells c t fr => exact ⟨rfl, rfl, rfl, fun _ _ => rfl⟩
    | map es clock => exact .inr ⟨rfl, rfl⟩
    | _ => rfl
noncomputable abbrev doorW (os : Os) : World := World.doorLaid Tryz.prog 62 os
abbrev args0 : Array Value := #[.agg #[.int .i8 0, .int .i8 0, .int .i8 0, .int .i8 0, .int .i8 0, .int .i8 0, .int .i8 0, .int .i8 0, .int .i8 0], .agg #[.int .i8 0, .int .i8 0, .int .i8 0], .agg #[.int .i8 0, .int .i8 0]]
theorem door_shaped (os : Os) : ((doorW os).forCall (fun _ _ => 0) ⟨#[], args0, []⟩).Shaped Tryz.prog := World.shaped_of_RefB (by kernel_rfl) (by kernel_rfl)
theorem door_ok (os : Os) : Input.okWideB Tryz.prog ((doorW os).forCall (fun _ _ => 0) ⟨#[], args0, []⟩) 3 ⟨#[], args0, []⟩ = true := by kernel_rfl
theorem door_pre {H : Type} (enc : TypeId × Value → H) (os : Os) : Rows.sliceCoordinatesSpec.preB enc Tryz.prog Tryz.f3 [] false ((doorW os).forCall (fun _ _ => 0) ⟨#[], args0, []⟩).memory args0 8 = true := by kernel_rfl
theorem door_sized {H : Type} (enc : TypeId × Value → H) (os : Os) : Rows.sliceCoordinatesSpec.sizedB enc Tryz.prog Tryz.f3 false ((doorW os).forCall (fun _ _ => 0) ⟨#[], args0, []⟩).memory args0 8 = true := by kernel_rfl
theorem no_init : Tryz.prog.inits.idxOf? 3 = none := by kernel_rfl

theorem x_ok : ∀ (w w' : World) (args : Array Value), w.heap = w'.heap → laidMetH Tryz.prog laidL w → laidMetH Tryz.prog laidL w' := fun w w' _ hh h => @met_heap Tryz.prog laidL w w' hh h
theorem wit {H : Type} (enc : TypeId × Value → H) (os : Os) : ∃ (w : World) (tape : Tape) (i : Input), w.os = os ∧ (w.forCall tape i).Shaped Tryz.checked.prog ∧ i.vars = [] ∧ Input.okWide Tryz.checked.prog (w.forCall tape i) .any w.heap.size 3 i ∧
      ((Rows.sliceCoordinatesSpec.pre enc Tryz.checked.prog Tryz.f3 [] false (w.forCall tape i).memory i.args ∧ laidMetH Tryz.prog laidL (w.forCall tape i).memory) ∧ sizedMet enc Tryz.checked.prog Tryz.f3 (OpenSpec.ofChange Rows.sliceCoordinatesSpec) false (w.forCall tape i).memory i.args) ∧ ({} : Assume).holds Tryz.checked.prog (lone (Frame.enter Tryz.checked.prog 3 i.args .normal) [] (w.forCall tape i)) :=
  ChangeSpec.witness_shaped (enc := enc) (C := Tryz.checked) (os := os) (X := fun w _ => laidMetH Tryz.prog laidL w) false (doorW os) args0 8 rfl (door_shaped os) (door_ok os) (door_pre enc os) (door_sized enc os) (door_met os _)
end Go.Proofs.YtobknfkobcbnoaaGreatDoor
