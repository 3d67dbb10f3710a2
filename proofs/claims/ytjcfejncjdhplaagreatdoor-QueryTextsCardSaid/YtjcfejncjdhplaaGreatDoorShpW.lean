/-
  query.Shape: the error of a query.
-/
import Derived.Test.YtjcfejncjdhplaaGreatDoorFormW
import Derived.Test.YtjcfejncjdhplaaGreatDoorRdW
import Derived.Test.YtjcfejncjdhplaaGreatDoorBigP2
import Derived.Laws.EntriesVeiled
import Derived.Deep.RegionHeld3
set_option linter.unusedSectionVars false
set_option linter.unusedVariables false
set_option linter.unusedSimpArgs false
namespace Klp
open Go Go.Lib
def badU (u : List UInt8) : Bool := !u.isEmpty && !nmB u
def shpE (k : Int) (us ns : List (List UInt8)) : Int :=
  if k < 1 ∨ 11 < k then 12 else if us.length ≠ cntW [85] (formI 88 k) ∨ ns.length ≠ cntW [88] (formI 88 k) then 5
  else if us.any badU = true then 8 else if ns.any (fun x => !ratOk x) = true then 2 else 0
theorem cnt_U {i : Nat} (h : i < 11) : cntW [85] (spl (kwB (i + 1))) = cntW [85] (formI 88 ((i : Int) + 1)) := by
  rcases (show i = 0 ∨ i = 1 ∨ i = 2 ∨ i = 3 ∨ i = 4 ∨ i = 5 ∨ i = 6 ∨ i = 7 ∨ i = 8 ∨ i = 9 ∨ i = 10 by omega) with rfl | rfl | rfl | rfl | rfl | rfl | rfl | rfl | rfl | rfl | rfl <;> decide
theorem cnt_N {i : Nat} (h : i < 11) : cntW [78] (spl (kwB (i + 1))) = cntW [88] (formI 88 ((i : Int) + 1)) := by
  rcases (show i = 0 ∨ i = 1 ∨ i = 2 ∨ i = 3 ∨ i = 4 ∨ i = 5 ∨ i = 6 ∨ i = 7 ∨ i = 8 ∨ i = 9 ∨ i = 10 by omega) with rfl | rfl | rfl | rfl | rfl | rfl | rfl | rfl | rfl | rfl | rfl <;> decide
theorem kwB_len {i : Nat} (h : i < 11) : (kwB (i + 1)).length ≤ 100 := by
  rcases (show i = 0 ∨ i = 1 ∨ i = 2 ∨ i = 3 ∨ i = 4 ∨ i = 5 ∨ i = 6 ∨ i = 7 ∨ i = 8 ∨ i = 9 ∨ i = 10 by omega) with rfl | rfl | rfl | rfl | rfl | rfl | rfl | rfl | rfl | rfl | rfl <;> decide
theorem cnt_le (x : List UInt8) (k : Int) : cntW x (formI 88 k) ≤ 100 := by
  refine Nat.le_trans List.countP_le_length ?_
  unfold formI
  split
  · rename_i h
    rcases (show k = 1 ∨ k = 2 ∨ k = 3 ∨ k = 4 ∨ k = 5 ∨ k = 6 ∨ k = 7 ∨ k = 8 ∨ k = 9 ∨ k = 10 ∨ k = 11 by omega) with rfl | rfl | rfl | rfl | rfl | rfl | rfl | rfl | rfl | rfl | rfl <;> decide
  · simp
theorem shpE_size {k : Int} (h0 : ¬ (k < 1 ∨ 11 < k)) {us ns : List (List UInt8)} (h : us.length ≠ cntW [85] (formI 88 k) ∨ ns.length ≠ cntW [88] (formI 88 k)) : shpE k us ns = 5 := by unfold shpE; rw [if_neg h0, if_pos h]
theorem shpE_name {k : Int} (h0 : ¬ (k < 1 ∨ 11 < k)) {us ns : List (List UInt8)} (h : ¬ (us.length ≠ cntW [85] (formI 88 k) ∨ ns.length ≠ cntW [88] (formI 88 k))) {u : List UInt8} (hu : u ∈ us) (hb : badU u = true) : shpE k us ns = 8 := by
  unfold shpE; rw [if_neg h0, if_neg h, if_pos (List.any_eq_true.2 ⟨u, hu, hb⟩)]
theorem any_none {l : List (List UInt8)} {p : List UInt8 → Bool} (h : ∀ x ∈ l, p x = false) : ¬ l.any p = true := by
  rw [List.any_eq_true]
  rintro ⟨x, hx, hp⟩
  rw [h x hx] at hp
  cases hp
theorem shpE_num {k : Int} (h0 : ¬ (k < 1 ∨ 11 < k)) {us ns : List (List UInt8)} (h : ¬ (us.length ≠ cntW [85] (formI 88 k) ∨ ns.length ≠ cntW [88] (formI 88 k))) (hu : ∀ x ∈ us, badU x = false) {x : List UInt8} (hx : x ∈ ns) (hb : ratOk x = false) : shpE k us ns = 2 := by
  unfold shpE; rw [if_neg h0, if_neg h, if_neg (any_none hu), if_pos (List.any_eq_true.2 ⟨x, hx, by rw [hb]; rfl⟩)]
theorem shpE_ok {k : Int} (h0 : ¬ (k < 1 ∨ 11 < k)) {us ns : List (List UInt8)} (h : ¬ (us.length ≠ cntW [85] (formI 88 k) ∨ ns.length ≠ cntW [88] (formI 88 k))) (hu : ∀ x ∈ us, badU x = false) (hn : ∀ x ∈ ns, ratOk x = true) : shpE k us ns = 0 := by
  unfold shpE; rw [if_neg h0, if_neg h, if_neg (any_none hu), if_neg (any_none fun x hx => by rw [hn x hx]; rfl)]
theorem take_all {α : Type} {l : List α} {n : Nat} (h : n < l.length) {p : α → Prop} (hp : ∀ x ∈ l.take n, p x) (hx : p l[n]) : ∀ x ∈ l.take (n + 1), p x := by
  intro x hm
  rw [List.take_add_one, List.getElem?_eq_getElem h] at hm
  rcases List.mem_append.1 hm with h1 | h1
  · exact hp x h1
  · simp at h1
    subst h1
    exact hx
end Klp
namespace Go.Proofs.YtjcfejncjdhplaaGreatDoor
open Go.RowKit Go Klp
set_option maxHeartbeats 4000000 in
theorem shapeQ_no (k : Int) (hk : k < 1 ∨ 11 < k) (ao an : Option Addr) (n1 c1 n2 c2 : Nat) (w : World) :
    Calls Tryz.prog 12 #[.agg #[.int .i64 k, .slice ao n1 c1, .slice an n2 c2]] w fun e w' => e = .returned (.int .i64 12) ∧ Kp w w' := by
  go_enter Tryz.func12, Tryz.ntmps12
  by_cases h1 : k < 1
  · go_wp2_with fail
    go_ret
    exact ⟨rfl, kp_alloc _ _⟩
  · have h2 : 11 < k := by omega
    clear hk
    go_wp2_with fail
    go_ret
    exact ⟨rfl, kp_alloc _ _⟩
theorem set3_far {w : World} {b p : Nat} (h : b ≠ p) (y0 y1 y2 : Value) : (((w.setCell ⟨p, 0, none⟩ y0).setCell ⟨p, 1, none⟩ y1).setCell ⟨p, 2, none⟩ y2).heap[b]? = w.heap[b]? :=
  (Below.heap_setCell _ _ _ _ h).trans ((Below.heap_setCell _ _ _ _ h).trans (Below.heap_setCell _ _ _ _ h))
theorem shpB {w w1 : World} {p T : Nat} {x0 x1 x2 : Value} (hz : w1.heap[p]? = some (.cells #[x0, x1, x2] T (0, 0))) (hp : w.heap.size < p) {O : Obj} (hb : w1.heap[w.heap.size]? = some O) (hk : Kp w w1) (y0 y1 y2 : Value) :
    (((w1.setCell ⟨p, 0, none⟩ y0).setCell ⟨p, 1, none⟩ y1).setCell ⟨p, 2, none⟩ y2).heap[p]? = some (.cells #[y0, y1, y2] T (0, 0)) ∧ (((w1.setCell ⟨p, 0, none⟩ y0).setCell ⟨p, 1, none⟩ y1).setCell ⟨p, 2, none⟩ y2).heap[w.heap.size]? = some O ∧ Kp w (((w1.setCell ⟨p, 0, none⟩ y0).setCell ⟨p, 1, none⟩ y1).setCell ⟨p, 2, none⟩ y2) :=
  ⟨set3_zero hz _ _ _, (set3_far (by omega) _ _ _).trans hb, kp_set3 hk (by omega) _ _ _⟩
theorem shpA {w w1 : World} {O : Obj} (hb : w1.heap[w.heap.size]? = some O) (hk : Kp w w1) (o : Obj) : (w1.alloc o).heap[w1.heap.size]? = some o ∧ (w1.alloc o).heap[w.heap.size]? = some O ∧ Kp w (w1.alloc o) :=
  ⟨heap_alloc_new w1 _, (@heap_alloc_old _ _ _ (Array.getElem?_eq_some_iff.1 hb).1).trans hb, hk.then (kp_alloc _ _)⟩
theorem shpS {W : World} {b p T T' : Nat} {x0 x1 x2 y0 y1 y2 : Value} (hb : W.heap[b]? = some (.cells #[x0, x1, x2] T (0, 0))) (hp : W.heap[p]? = some (.cells #[y0, y1, y2] T' (0, 0))) :
    W.cell? ⟨b, 1, none⟩ = some x1 ∧ W.cell? ⟨b, 2, none⟩ = some x2 ∧ W.cell? ⟨p, 0, none⟩ = some y0 ∧ W.cell? ⟨p, 1, none⟩ = some y1 ∧ W.cell? ⟨p, 2, none⟩ = some y2 := by
  refine ⟨?_, ?_, ?_, ?_, ?_⟩
  · rw [Lib.cell_of_heap hb]; rfl
  · rw [Lib.cell_of_heap hb]; rfl
  · rw [Lib.cell_of_heap hp]; rfl
  · rw [Lib.cell_of_heap hp]; rfl
  · rw [Lib.cell_of_heap hp]; rfl
theorem two_new (w : World) (a b : Obj) : ((w.alloc a).drew.alloc b).heap[w.heap.size + 1]? = some b := by
  have h := heap_alloc_new (w.alloc a).drew b
  rw [show (w.alloc a).drew.heap.size = w.heap.size + 1 from by simp] at h
  exact h
set_option maxRecDepth 100000 in
set_option maxHeartbeats 4000000 in
theorem shapeQ_in (i : Nat) (hi : i < 11) (vu vn : Value) (us ns : List (List UInt8)) (E : Int) (hE : E = shpE ((i : Int) + 1) us ns) (hub : ∀ u ∈ us, u.length ≤ 1000) (hnb : ∀ x ∈ ns, x.length ≤ 900) (w : World) (hu : Sts w vu us) (hn : Sts w vn ns) (ht : PTab w) :
    Calls Tryz.prog 12 #[.agg #[.int .i64 ((i : Int) + 1), vu, vn]] w fun e w' => e = .returned (.int .i64 E) ∧ Kp w w' := by
  obtain ⟨au, cu, rfl, hcu⟩ := hu.val
  obtain ⟨an, cn, rfl, hcn⟩ := hn.val
  have HU := Lib.hid hu
  have HN := Lib.hid hn
  have HT := Lib.hid ht
  have HE := Lib.hid hE
  have h0 : ¬ (((i : Int) + 1) < 1 ∨ 11 < ((i : Int) + 1)) := by omega
  have H0 := Lib.hid h0
  have HB := Lib.hid (And.intro hub hnb)
  clear hu hn ht hE hub hnb h0
  have hg1 : ¬ (((i : Int) + 1) < 1) := by omega
  have hg2 : ¬ (11 < ((i : Int) + 1)) := by omega
  go_enter Tryz.func12, Tryz.ntmps12
  have hkl := kwB_len hi
  have hi11 : (i : Int) < 11 := by omega
  have hwr : IntKind.i64.wrap (i : Int) = i := by rw [IntKind.wrap_i64]; omega
  go_upto_region 3 with fail
  have hbx0 : (w.alloc (.cells #[.int .i64 ((i : Int) + 1), .slice au us.length cu, .slice an ns.length cn] 26)).heap[w.heap.size]? = some (.cells #[.int .i64 ((i : Int) + 1), .slice au us.length cu, .slice an ns.length cn] 26 (0, 0)) := heap_alloc_new w _
  have hb0a : ∀ ob, ((w.alloc (.cells #[.int .i64 ((i : Int) + 1), .slice au us.length cu, .slice an ns.length cn] 26)).alloc ob).cell? ⟨w.heap.size, 0, none⟩ = some (.int .i64 ((i : Int) + 1)) := fun ob => by
    have h : ((w.alloc (.cells #[.int .i64 ((i : Int) + 1), .slice au us.length cu, .slice an ns.length cn] 26)).alloc ob).heap[w.heap.size]? = _ := (@heap_alloc_old _ _ _ (by simp)).trans hbx0
    rw [Lib.cell_of_heap h]; rfl
  have HX0 := Lib.hid hbx0
  clear hbx0
  go_cut [3] (fun t W => ∃ p f s, t = .pointer (some ⟨p, 0, none⟩) ∧ W.heap[p]? = some (.cells #[sv (kwB (i + 1)), f, s] 62 (0, 0)) ∧ W.heap[w.heap.size]? = some (.cells #[.int .i64 ((i : Int) + 1), .slice au us.length cu, .slice an ns.length cn] 26 (0, 0)) ∧ Kp w W)
  case first =>
    go_region_with (first | (go_at_call 19; refine Calls.mono (kinds_walk (w.alloc (.cells #[.int .i64 ((i : Int) + 1), .slice au us.length cu, .slice an ns.length cn] 26)).drew) ?_; rintro e w1 ⟨g, cs, rfl, hg, hcs, hk1⟩; obtain ⟨hz0, ⟨fn, fa, fb, hz1⟩, ⟨sa, sn, sc, hz2⟩⟩ := hcs i hi; have d0 : w1.cell? ⟨g, i * 3, none⟩ = some (sv (kwB (i + 1))) := (by rw [Lib.cell_of_heap hg, Nat.mul_comm]; exact hz0); have d1 : w1.cell? ⟨g, i * 3 + 1, none⟩ = some (.func fn fa fb) := (by rw [Lib.cell_of_heap hg, Nat.mul_comm]; exact hz1); have d2 : w1.cell? ⟨g, i * 3 + 2, none⟩ = some (.slice sa sn sc) := (by rw [Lib.cell_of_heap hg, Nat.mul_comm]; exact hz2); have hb1 : w1.heap[w.heap.size]? = some (.cells #[.int .i64 ((i : Int) + 1), .slice au us.length cu, .slice an ns.length cn] 26 (0, 0)) := (hk1.block _ (by simp)).trans HX0.out; have b0 : w1.cell? ⟨w.heap.size, 0, none⟩ = some (.int .i64 ((i : Int) + 1)) := (by rw [Lib.cell_of_heap hb1]; rfl); have HB1 := Lib.hid hb1; clear hb1; have b0a : ∀ ob, (w1.alloc ob).cell? ⟨w.heap.size, 0, none⟩ = some (.int .i64 ((i : Int) + 1)) := (fun ob => (Below.cell (kp_alloc w1 ob) (p := ⟨w.heap.size, 0, none⟩) (World.block_lt_of_cell? w1 _ b0)).trans b0); have d0a : ∀ ob, (w1.alloc ob).cell? ⟨g, i * 3, none⟩ = some (sv (kwB (i + 1))) := (fun ob => (Below.cell (kp_alloc w1 ob) (p := ⟨g, i * 3, none⟩) (World.block_lt_of_cell? w1 _ d0)).trans d0); have d1a : ∀ ob, (w1.alloc ob).cell? ⟨g, i * 3 + 1, none⟩ = some (.func fn fa fb) := (fun ob => (Below.cell (kp_alloc w1 ob) (p := ⟨g, i * 3 + 1, none⟩) (World.block_lt_of_cell? w1 _ d1)).trans d1); have d2a : ∀ ob, (w1.alloc ob).cell? ⟨g, i * 3 + 2, none⟩ = some (.slice sa sn sc) := (fun ob => (Below.cell (kp_alloc w1 ob) (p := ⟨g, i * 3 + 2, none⟩) (World.block_lt_of_cell? w1 _ d2)).trans d2); have HG := Lib.hid hg; have HK1 : Hid (Kp w w1) := Lib.hid ((kp_alloc _ _).then ((Kp.drew _).then hk1)); clear hg hcs hk1 hz0 hz1 hz2) | (go_at_call 19; refine Calls.mono (kinds_walk _) ?_; rintro e w1 ⟨g, cs, rfl, hg, hcs, hk1⟩; obtain ⟨hz0, ⟨fn, fa, fb, hz1⟩, ⟨sa, sn, sc, hz2⟩⟩ := hcs i hi; have d0 : w1.cell? ⟨g, i * 3, none⟩ = some (sv (kwB (i + 1))) := (by rw [Lib.cell_of_heap hg, Nat.mul_comm]; exact hz0); have d1 : w1.cell? ⟨g, i * 3 + 1, none⟩ = some (.func fn fa fb) := (by rw [Lib.cell_of_heap hg, Nat.mul_comm]; exact hz1); have d2 : w1.cell? ⟨g, i * 3 + 2, none⟩ = some (.slice sa sn sc) := (by rw [Lib.cell_of_heap hg, Nat.mul_comm]; exact hz2); have hb1 : w1.heap[w.heap.size]? = some (.cells #[.int .i64 ((i : Int) + 1), .slice au us.length cu, .slice an ns.length cn] 26 (0, 0)) := (hk1.block _ (by simp; omega)).trans ((@heap_alloc_old _ _ _ (by simp)).trans HX0.out); have b0 : w1.cell? ⟨w.heap.size, 0, none⟩ = some (.int .i64 ((i : Int) + 1)) := (by rw [Lib.cell_of_heap hb1]; rfl); have HB1 := Lib.hid hb1; clear hb1; have hzk : w1.heap[w.heap.size + 1]? = some (.cells #[.string ByteArray.empty, .nilFunc, .slice none 0 0] 62 (0, 0)) := (hk1.block _ (by simp)).trans (two_new w _ _); have z0 : w1.cell? ⟨w.heap.size + 1, 0, none⟩ = some (.string ByteArray.empty) := (by rw [Lib.cell_of_heap hzk]; rfl); have z1 : w1.cell? ⟨w.heap.size + 1, 1, none⟩ = some .nilFunc := (by rw [Lib.cell_of_heap hzk]; rfl); have z2 : w1.cell? ⟨w.heap.size + 1, 2, none⟩ = some (.slice none 0 0) := (by rw [Lib.cell_of_heap hzk]; rfl); have zf : ∀ j, w1.frozen? ⟨w.heap.size + 1, j, none⟩ = false := (fun j => Lib.frozen_of_heap hzk j); have HZK := Lib.hid hzk; clear hzk; have HG := Lib.hid hg; have HK1 : Hid (Kp w w1) := Lib.hid (by first | exact (kp_alloc _ _).then ((Kp.drew _).then ((kp_alloc _ _).then hk1)) | exact (kp_alloc _ _).then ((kp_alloc _ _).then ((Kp.drew _).then hk1))); clear hg hcs hk1 hz0 hz1 hz2))
    all_goals go_wp2_with fail
    all_goals go_meet
    all_goals first | exact ⟨_, _, _, rfl, shpB HZK.out (by omega) HB1.out HK1.out _ _ _⟩ | exact ⟨_, _, _, rfl, shpA HB1.out HK1.out _⟩
  case rest =>
    obtain ⟨p, f, s, rfl, hp, hbx, hk⟩ := hcut
    clear hb0a
    obtain ⟨nu, hnu⟩ : ∃ nu, nu = cntW [85] (formI 88 ((i : Int) + 1)) := ⟨_, rfl⟩
    obtain ⟨nn, hnn⟩ : ∃ nn, nn = cntW [88] (formI 88 ((i : Int) + 1)) := ⟨_, rfl⟩
    have hnu1 : nu ≤ 100 := by rw [hnu]; exact cnt_le _ _
    have hnn1 : nn ≤ 100 := by rw [hnn]; exact cnt_le _ _
    have HNU := Lib.hid (And.intro hnu hnn)
    clear hnu hnn
    have c1 : wc.cell? ⟨w.heap.size, 1, none⟩ = some (.slice au us.length cu) := by rw [Lib.cell_of_heap hbx]; rfl
    have c2 : wc.cell? ⟨w.heap.size, 2, none⟩ = some (.slice an ns.length cn) := by rw [Lib.cell_of_heap hbx]; rfl
    have p0 : wc.cell? ⟨p, 0, none⟩ = some (sv (kwB (i + 1))) := by rw [Lib.cell_of_heap hp]; rfl
    have p1 : wc.cell? ⟨p, 1, none⟩ = some f := by rw [Lib.cell_of_heap hp]; rfl
    have p2 : wc.cell? ⟨p, 2, none⟩ = some s := by rw [Lib.cell_of_heap hp]; rfl
    have HP := Lib.hid hp
    have HX := Lib.hid hbx
    have HK := Lib.hid hk
    clear hp hbx hk HX0
    have e85 : cntW [85] (spl (kwB (i + 1))) = nu := by rw [HNU.out.1, cnt_U hi]
    have e78 : cntW [78] (spl (kwB (i + 1))) = nn := by rw [HNU.out.2, cnt_N hi]
    have HKL : Hid ((kwB (i + 1)).length ≤ 1000) := Lib.hid (by omega)
    have HX5 := HX
    have HP5 := HP
    have HK5 := HK
    have HSC := Lib.hid (shpS HX.out HP.out)
    obtain ⟨bad, hbad⟩ : ∃ bad : Bool, bad = decide (¬ (us.length = nu ∧ ns.length = nn)) := ⟨_, rfl⟩
    have HBAD := Lib.hid hbad
    clear hbad
    go_upto_region 4 with fail
    go_cut [36] (fun t W => t = .bool bad ∧ W.heap[w.heap.size]? = some (.cells #[.int .i64 ((i : Int) + 1), .slice au us.length cu, .slice an ns.length cn] 26 (0, 0)) ∧ Kp w W)
    case first =>
      by_cases hU : us.length = nu
      case neg =>
        have hne : ((us.length : Int) != (nu : Int)) = true := by rw [bne_iff_ne]; omega
        have HR := Lib.hid (show bad = true by rw [HBAD.out]; exact decide_eq_true (fun h => hU h.1))
        clear hU
        first | go_region_with (first | (go_at_call 28; refine Calls.mono (kcount_walk _ f s _ HKL.out _) ?_; rintro e w5 ⟨rfl, hk5⟩; have HX5 := Lib.hid ((hk5.block _ (Array.getElem?_eq_some_iff.1 HX5.out).1).trans HX5.out); have HP5 := Lib.hid ((hk5.block _ (Array.getElem?_eq_some_iff.1 HP5.out).1).trans HP5.out); obtain ⟨s1, s2, s3, s4, s5⟩ := shpS HX5.out HP5.out; have HK5 := Lib.hid (Kp.then HK5.out (by first | exact hk5 | exact (Kp.drew _).then hk5)); clear hk5)) | fail "no"
        all_goals (try go_wp2_with fail)
        all_goals go_meet
        all_goals exact ⟨by rw [HR.out], HX5.out, HK5.out⟩
      have hUe : ((us.length : Int) != (nu : Int)) = false := by rw [bne_eq_false_iff_eq, hU]
      by_cases hN : ns.length = nn
      case neg =>
        have hne : ((ns.length : Int) != (nn : Int)) = true := by rw [bne_iff_ne]; omega
        have HR := Lib.hid (show bad = true by rw [HBAD.out]; exact decide_eq_true (fun h => hN h.2))
        clear hU hN
        first | go_region_held3 (fun w' => w'.cell? ⟨w.heap.size, 1, none⟩ = some (.slice au us.length cu) ∧ w'.cell? ⟨w.heap.size, 2, none⟩ = some (.slice an ns.length cn) ∧ w'.cell? ⟨p, 0, none⟩ = some (sv (kwB (i + 1))) ∧ w'.cell? ⟨p, 1, none⟩ = some f ∧ w'.cell? ⟨p, 2, none⟩ = some s)
          (first | exact HS5.out | exact HSC.out)
          (first | (go_at_call 28; refine Calls.mono (kcount_walk _ f s _ HKL.out _) ?_; rintro e w5 ⟨rfl, hk5⟩; have HX5 := Lib.hid ((hk5.block _ (Array.getElem?_eq_some_iff.1 HX5.out).1).trans HX5.out); have HP5 := Lib.hid ((hk5.block _ (Array.getElem?_eq_some_iff.1 HP5.out).1).trans HP5.out); have HS5 := Lib.hid (shpS HX5.out HP5.out); have HK5 := Lib.hid (Kp.then HK5.out (by first | exact hk5 | exact (Kp.drew _).then hk5)); clear hk5)) | fail "no"
        all_goals (try go_wp2_with fail)
        all_goals go_meet
        all_goals exact ⟨by rw [HR.out], HX5.out, HK5.out⟩
      have hNe : ((ns.length : Int) != (nn : Int)) = false := by rw [bne_eq_false_iff_eq, hN]
      have HR := Lib.hid (show bad = false by rw [HBAD.out]; exact decide_eq_false (fun h => h ⟨hU, hN⟩))
      clear hU hN
      first | go_region_held3 (fun w' => w'.cell? ⟨w.heap.size, 1, none⟩ = some (.slice au us.length cu) ∧ w'.cell? ⟨w.heap.size, 2, none⟩ = some (.slice an ns.length cn) ∧ w'.cell? ⟨p, 0, none⟩ = some (sv (kwB (i + 1))) ∧ w'.cell? ⟨p, 1, none⟩ = some f ∧ w'.cell? ⟨p, 2, none⟩ = some s)
          (first | exact HS5.out | exact HSC.out)
          (first | (go_at_call 28; refine Calls.mono (kcount_walk _ f s _ HKL.out _) ?_; rintro e w5 ⟨rfl, hk5⟩; have HX5 := Lib.hid ((hk5.block _ (Array.getElem?_eq_some_iff.1 HX5.out).1).trans HX5.out); have HP5 := Lib.hid ((hk5.block _ (Array.getElem?_eq_some_iff.1 HP5.out).1).trans HP5.out); have HS5 := Lib.hid (shpS HX5.out HP5.out); have HK5 := Lib.hid (Kp.then HK5.out (by first | exact hk5 | exact (Kp.drew _).then hk5)); clear hk5)) | fail "no"
      all_goals (try go_wp2_with fail)
      all_goals go_meet
      all_goals exact ⟨by rw [HR.out], HX5.out, HK5.out⟩
    case rest =>
    obtain ⟨rfl, hbx5, hk5⟩ := hcut
    clear c1 c2 p0 p1 p2 HX HP HX5 HP5 HK5 HK HSC HKL e85 e78
    have g1 : wc.cell? ⟨w.heap.size, 1, none⟩ = some (.slice au us.length cu) := by rw [Lib.cell_of_heap hbx5]; rfl
    have HX := Lib.hid hbx5
    have HK := Lib.hid hk5
    clear hbx5 hk5
    cases bad with
    | true =>
      have hE5 : E = 5 := by
        rw [HE.out]
        refine shpE_size H0.out ?_
        have h := of_decide_eq_true HBAD.out.symm
        rw [← HNU.out.1, ← HNU.out.2]
        omega
      have H5 := Lib.hid hE5
      clear hE5
      go_wp2_with fail
      go_ret
      exact ⟨by rw [H5.out]; rfl, HK.out⟩
    | false =>
      have hun : us.length = nu ∧ ns.length = nn := Decidable.not_not.1 (of_decide_eq_false HBAD.out.symm)
      have hsz : ¬ (us.length ≠ cntW [85] (formI 88 ((i : Int) + 1)) ∨ ns.length ≠ cntW [88] (formI 88 ((i : Int) + 1))) := by rw [← HNU.out.1, ← HNU.out.2]; omega
      have HSZ := Lib.hid hsz
      have hul : us.length ≤ 100 := by omega
      have hnl : ns.length ≤ 100 := by omega
      clear hun hsz HBAD HNU hnu1 hnn1
      go_wp2_with fail
      clear g1
      go_loopw [40] (fun t W => ∃ j, j ≤ us.length ∧ t = .int .i64 j ∧ (∀ x ∈ us.take j, badU x = false) ∧ W.heap[w.heap.size]? = some (.cells #[.int .i64 ((i : Int) + 1), .slice au us.length cu, .slice an ns.length cn] 26 (0, 0)) ∧ Kp w W) (fun t _ => 101 - (intOf t).toNat)
      case atStart => exact ⟨0, Nat.zero_le _, rfl, (fun x h => by simp at h), HX.out, HK.out⟩
      case round =>
        obtain ⟨j, hj, rfl, hno, hbx, hk⟩ := hrel
        have HNO := Lib.hid hno
        have HY := Lib.hid hbx
        have HL := Lib.hid hk
        clear hno hbx hk
        by_cases hlt : j < us.length
        · obtain ⟨b, o, rfl⟩ := HU.out.addr (by omega)
          have hc := HU.out.cells HL.out hlt
          have hall := take_all (p := fun x => badU x = false) hlt HNO.out
          have hmem : us[j] ∈ us := List.getElem_mem hlt
          obtain ⟨x, hx⟩ : ∃ x, x = us[j] := ⟨_, rfl⟩
          rw [← hx] at hc hall hmem
          have hxl := HB.out.1 x hmem
          have HM := Lib.hid hmem
          have HA := Lib.hid hall
          clear hx hmem hall
          by_cases hx0 : x = []
          · subst hx0
            have H9 := Lib.hid (HA.out rfl)
            clear HA
            go_wp2_with fail
            go_roundw
            case rel => exact ⟨j + 1, by omega, by go_num, H9.out, HY.out, HL.out⟩
            case measure => simp only [intOf]; omega
          · have hxe : x.isEmpty = false := by
              cases x with
              | nil => exact absurd rfl hx0
              | cons => rfl
            clear hx0
            by_cases hnm : nmB x = true
            · have H9 := Lib.hid (HA.out (by unfold badU; rw [hnm]; simp))
              have HNM := Lib.hid hnm
              clear HA hnm
              go_wp2_with fail
              refine (isNameR_core x hxl true HNM.out.symm _).mono ?_
              rintro e w6 ⟨rfl, hk6⟩
              have HK6 := Lib.hid hk6
              clear hk6
              go_wp2_with fail
              go_roundw
              case rel => exact ⟨j + 1, by omega, by go_num, H9.out, (HK6.out.block _ (Array.getElem?_eq_some_iff.1 HY.out).1).trans HY.out, HL.out.then HK6.out⟩
              case measure => simp only [intOf]; omega
            · have hnm' : nmB x = false := by simpa using hnm
              have hE8 : E = 8 := by rw [HE.out]; exact shpE_name H0.out HSZ.out HM.out (by unfold badU; rw [hnm', hxe]; rfl)
              have H8 := Lib.hid hE8
              have HNM := Lib.hid hnm'
              clear hnm hnm' hE8
              go_wp2_with fail
              refine (isNameR_core x hxl false HNM.out.symm _).mono ?_
              rintro e w6 ⟨rfl, hk6⟩
              have HK6 := Lib.hid hk6
              clear hk6
              go_wp2_with fail
              go_ret
              exact ⟨by rw [H8.out]; rfl, HL.out.then HK6.out⟩
        · obtain rfl : j = us.length := by omega
          have hno := HNO.out
          rw [List.take_length] at hno
          have HNB := Lib.hid hno
          have g2 : wr.cell? ⟨w.heap.size, 2, none⟩ = some (.slice an ns.length cn) := by rw [Lib.cell_of_heap HY.out]; rfl
          clear hno HNO
          go_wp2_with fail
          clear g2
          go_loopw [55] (fun t W => ∃ j, j ≤ ns.length ∧ t = .int .i64 j ∧ (∀ x ∈ ns.take j, ratOk x = true) ∧ Kp w W) (fun t _ => 101 - (intOf t).toNat)
          case atStart => exact ⟨0, Nat.zero_le _, rfl, (fun x h => by simp at h), HL.out⟩
          case round =>
            obtain ⟨j, hj, rfl, hno, hk⟩ := hrel
            have HNO := Lib.hid hno
            have HL := Lib.hid hk
            clear hno hk
            by_cases hlt : j < ns.length
            · obtain ⟨b, o, rfl⟩ := HN.out.addr (by omega)
              have hc := HN.out.cells HL.out hlt
              have hall := take_all (p := fun x => ratOk x = true) hlt HNO.out
              have hmem : ns[j] ∈ ns := List.getElem_mem hlt
              obtain ⟨x, hx⟩ : ∃ x, x = ns[j] := ⟨_, rfl⟩
              rw [← hx] at hc hall hmem
              have hxl := HB.out.2 x hmem
              have HM := Lib.hid hmem
              have HA := Lib.hid hall
              clear hx hmem hall
              go_wp2_with fail
              refine (rcheck_any x hxl _ (HT.out.kp HL.out)).mono ?_
              rintro e w6 ⟨rfl, hk6⟩
              have HK6 := Lib.hid hk6
              clear hk6
              by_cases hr : ratOk x = true
              · have H9 := Lib.hid (HA.out hr)
                rw [if_pos hr]
                clear hr HA
                go_wp2_with fail
                go_roundw
                case rel => exact ⟨j + 1, by omega, by go_num, H9.out, HL.out.then HK6.out⟩
                case measure => simp only [intOf]; omega
              · have hE2 : E = 2 := by rw [HE.out]; exact shpE_num H0.out HSZ.out HNB.out HM.out (by simpa using hr)
                have H2 := Lib.hid hE2
                rw [if_neg hr]
                clear hr hE2
                go_wp2_with fail
                go_ret
                exact ⟨by rw [H2.out]; rfl, HL.out.then HK6.out⟩
            · obtain rfl : j = ns.length := by omega
              have hno := HNO.out
              rw [List.take_length] at hno
              have hE0 : E = 0 := by rw [HE.out]; exact shpE_ok H0.out HSZ.out HNB.out hno
              have HE0 := Lib.hid hE0
              clear hno hE0
              go_wp2_with fail
              go_ret
              exact ⟨by rw [HE0.out]; rfl, HL.out⟩
end Go.Proofs.YtjcfejncjdhplaaGreatDoor
