/-
  klippelaw32.SliceCoordinates: the law between the arguments as the row reads them and the row's answer.
-/
import Derived.Test.YtobknfkobcbnoaaGreatDoorSymLift
set_option linter.unusedSectionVars false
set_option linter.unusedVariables false
set_option linter.unusedSimpArgs false
namespace Go.Proofs.YtobknfkobcbnoaaGreatDoor
open Go.ChangeShapes Go.WideShapes Go.ChangeAt Go.WideMaps Go.WideElems Go.RowKit Go.Deep
def nOf (l : List Int) (t : Nat) : Int := (l[t]?).getD 0
theorem range_of {l : List Int} (h : ∀ z ∈ l, -128 ≤ z ∧ z < 128) (t : Nat) : -128 ≤ nOf l t ∧ nOf l t < 128 := by
  unfold nOf
  cases ht : l[t]? with
  | none => exact ⟨by decide, by decide⟩
  | some z => exact h z (List.mem_of_getElem? ht)
theorem all14 {a b c d e f g i j k l m o r : Int} (ha : -128 ≤ a ∧ a < 128) (hb : -128 ≤ b ∧ b < 128) (hc : -128 ≤ c ∧ c < 128) (hd : -128 ≤ d ∧ d < 128) (he : -128 ≤ e ∧ e < 128) (hf : -128 ≤ f ∧ f < 128) (hg : -128 ≤ g ∧ g < 128) (hi : -128 ≤ i ∧ i < 128) (hj : -128 ≤ j ∧ j < 128)
    (hk : -128 ≤ k ∧ k < 128) (hl : -128 ≤ l ∧ l < 128) (hm : -128 ≤ m ∧ m < 128) (ho : -128 ≤ o ∧ o < 128) (hr : -128 ≤ r ∧ r < 128) : ∀ z ∈ [a, b, c, d, e, f, g, i, j, k, l, m, o, r], -128 ≤ z ∧ z < 128 := by
  intro z hz
  simp only [List.mem_cons, List.not_mem_nil, or_false] at hz
  rcases hz with rfl | rfl | rfl | rfl | rfl | rfl | rfl | rfl | rfl | rfl | rfl | rfl | rfl | rfl <;> assumption
set_option maxRecDepth 100000 in
set_option maxHeartbeats 4000000 in
theorem lifted (os : Os) (started : os.Started) (H : Type) (enc : TypeId × Value → H) :
    ReturnsInHanded {} Tryz.checked os 3 .any (fun w args => (Rows.sliceCoordinatesSpec.pre enc Tryz.prog Tryz.f3 [] false w args ∧ laidMetH Tryz.prog laidL w) ∧ sizedMet enc Tryz.prog Tryz.f3 (OpenSpec.ofChange Rows.sliceCoordinatesSpec) false w args)
      (Rows.sliceCoordinatesSpec.post enc Tryz.prog Tryz.f3 false true false false) := by
  refine returnsInHanded_of_change_and (C := Tryz.checked) (X := fun w _ => laidMetH Tryz.prog laidL w) x_ok own started no_init Tryz.func3 (wit enc os) ?_
  intro W base args ds gs before hval0 hW _ _ hL _
  have hval : ∀ (j : Nat) t v, Tryz.f3.params[j]? = some t → args[j]? = some v → Value.okWide Tryz.prog W .any base t v := hval0
  have hW' := hW
  obtain ⟨p, q, hA0, hV, rfl, hfz, hnd⟩ := hW
  have hA : DataW.TrodAll enc Tryz.prog W 0 (fun _ => true) true Tryz.f3.params.toList args.toList ds p := hA0
  rw [Tryz.params3] at hA hval
  obtain ⟨v0, v1, v2, d0, d1, d2, p0, p1, p2, rfl, rfl, rfl, ⟨f0, h0⟩, ⟨f1, h1⟩, ⟨f2, h2⟩⟩ := trodAll_three hA
  obtain ⟨rfl, rfl⟩ := trodVars_none hV
  obtain ⟨⟨c0⟩, rfl, _⟩ := okWide_struct Tryz.underlying25 (hval 0 25 v0 rfl rfl)
  obtain ⟨⟨c1⟩, rfl⟩ := okWide_arr Tryz.underlying23 (hval 1 23 v1 rfl rfl)
  obtain ⟨⟨c2⟩, rfl⟩ := okWide_arr Tryz.underlying26 (hval 2 26 v2 rfl rfl)
  obtain ⟨a, b, c, d, e, f, g, i, j, rfl, hx0, ha, hb, hc, hd, he, hf, hg, hi, hj⟩ := open_flatP Tryz.underlying25 rfl rfl rfl rfl rfl rfl cells_flat Tryz.underlying23 Tryz.underlying22 cells_a3 cells_i8 h0
  obtain ⟨k, l, m, rfl, hx1, hk, hl, hm⟩ := open_arr3 Tryz.underlying23 Tryz.underlying22 cells_a3 cells_i8 h1
  obtain ⟨o, r, rfl, hx2, ho, hr⟩ := open_arr2 Tryz.underlying26 Tryz.underlying22 cells_a2 cells_i8 h2
  cases hx0
  cases hx1
  cases hx2
  have ht := tab_of hL
  have law : Calls Tryz.prog 3 #[.agg #[.int .i8 a, .int .i8 b, .int .i8 c, .int .i8 d, .int .i8 e, .int .i8 f, .int .i8 g, .int .i8 i, .int .i8 j], .agg #[.int .i8 k, .int .i8 l, .int .i8 m], .agg #[.int .i8 o, .int .i8 r]] W fun e w' => e = .returned (.bool true) ∧ Ev.Grew W w' ∧ ∀ b, b < W.heap.size → w'.heap[b]? = W.heap[b]? :=
    law_true (W := W) (fun s => pow_of ht s) (fun w h1 h2 => tab_later ht h1 h2) (nOf [a, b, c, d, e, f, g, i, j, k, l, m, o, r]) (range_of (all14 ha hb hc hd he hf hg hi hj hk hl hm ho hr))
  refine Calls.mono law ?_
  rintro en W' ⟨rfl, hgr, hheap⟩
  refine ⟨_, rfl, _, _, [], [], [], [], hW', ?_, ?_, rfl, keptBut_of hgr.os hgr.output hheap, fun h => by cases h⟩
  · exact trodAll_mk1 (shut_bool Tryz.underlying4 true)
  · have hargs : DataW.TrodAll enc Tryz.prog W' 0 (fun b => decide (b < W.heap.size)) true [25, 23, 26] [.agg #[.int .i8 a, .int .i8 b, .int .i8 c, .int .i8 d, .int .i8 e, .int .i8 f, .int .i8 g, .int .i8 i, .int .i8 j], .agg #[.int .i8 k, .int .i8 l, .int .i8 m], .agg #[.int .i8 o, .int .i8 r]]
        [.agg [lits [a, b, c], lits [d, e, f], lits [g, i, j]], lits [k, l, m], lits [o, r]] [] :=
      trodAll_mk3 (p := []) (p' := []) (p'' := []) ⟨3, shut_flatP Tryz.underlying25 rfl rfl rfl rfl rfl rfl cells_flat Tryz.underlying23 Tryz.underlying22 cells_a3 cells_i8 0 ha hb hc hd he hf hg hi hj⟩ ⟨2, shut_arr3 Tryz.underlying23 Tryz.underlying22 cells_a3 cells_i8 0 hk hl hm⟩ ⟨2, shut_arr2 Tryz.underlying26 Tryz.underlying22 cells_a2 cells_i8 0 ho hr⟩
    rw [Tryz.params3]
    exact hargs
end Go.Proofs.YtobknfkobcbnoaaGreatDoor
