/-
  klippelaw53.QueryParses: true at any text, if known is.
-/
import Derived.Test.YtjcfejncjdhplaaGreatDoorRefW
import Derived.Test.YtjcfejncjdhplaaGreatDoorBigH
import Derived.Laws.IdiomStrings
set_option linter.unusedSectionVars false
set_option linter.unusedVariables false
set_option linter.unusedSimpArgs false
namespace Klp
open Go Go.Lib
theorem prs_is {ws : List (List UInt8)} {i : Nat} {p : List (List UInt8) × List (List UInt8)} (h : prs ws = some (i, p)) : i < 11 ∧ fit 78 (spl (kwB (i + 1))) ws [] [] = some p := by
  unfold prs at h
  obtain ⟨j, hj, e⟩ := List.exists_of_findSome?_eq_some h
  rw [Option.map_eq_some_iff] at e
  obtain ⟨q, hq, e⟩ := e
  simp only [Prod.mk.injEq] at e
  obtain ⟨rfl, rfl⟩ := e
  exact ⟨List.mem_range.1 hj, hq⟩
theorem fit_cnt {N : UInt8} : ∀ {F W u n u' n' : List (List UInt8)}, fit N F W u n = some (u', n') → u'.length ≤ u.length + F.length ∧ n'.length ≤ n.length + F.length
  | [], [], u, n, u', n', h => by
    simp only [fit, Option.some.injEq, Prod.mk.injEq] at h
    obtain ⟨rfl, rfl⟩ := h
    simp
  | [], _ :: _, _, _, _, _, h => by simp [fit] at h
  | _ :: _, [], _, _, _, _, h => by simp [fit] at h
  | f :: F, v :: W, u, n, u', n', h => by
    rw [fit] at h
    split at h
    · cases h
    · split at h
      · have := fit_cnt h; simp at this ⊢; omega
      · split at h
        · have := fit_cnt h; simp at this ⊢; omega
        · split at h
          · have := fit_cnt h; simp at this ⊢; omega
          · cases h
theorem kw_nine9 : ∀ i, i < 11 → (spl (kwB (i + 1))).length ≤ 9 := by decide
end Klp
namespace Go.Proofs.YtjcfejncjdhplaaGreatDoor
open Go.RowKit Go Klp
abbrev PR := Option (Nat × List (List UInt8) × List (List UInt8))
def eOf : PR → Int
  | none => 15
  | some (i, u, n) => shpE ((i : Int) + 1) (u.map qm) n
def qK : PR → Int
  | none => 0
  | some (i, u, n) => if shpE ((i : Int) + 1) (u.map qm) n = 0 then (i : Int) + 1 else 0
def qU : PR → List (List UInt8)
  | none => []
  | some (i, u, n) => if shpE ((i : Int) + 1) (u.map qm) n = 0 then u.map qm else []
def qN : PR → List (List UInt8)
  | none => []
  | some (i, u, n) => if shpE ((i : Int) + 1) (u.map qm) n = 0 then n else []
theorem PrsP.agg {R : PR} {r : Value} {E : Int} {W : World} (h : PrsP R r E W) : E = eOf R ∧ ∃ vu vn, r = .agg #[.int .i64 (qK R), vu, vn] ∧ Sts W vu (qU R) ∧ Sts W vn (qN R) := by
  cases R with
  | none =>
    obtain ⟨rfl, rfl⟩ := h
    exact ⟨rfl, _, _, rfl, Sts.nil _, Sts.nil _⟩
  | some p =>
    obtain ⟨i, u, n⟩ := p
    obtain ⟨rfl, h1, h2⟩ := h
    refine ⟨rfl, ?_⟩
    unfold qK qU qN
    by_cases e : shpE ((i : Int) + 1) (u.map qm) n = 0
    · simp only [if_pos e]
      exact h2 e
    · simp only [if_neg e]
      obtain rfl := h1 e
      exact ⟨_, _, rfl, Sts.nil _, Sts.nil _⟩
theorem q_len (ws : List (List UInt8)) : (qU (prs ws)).length ≤ 9 ∧ (qN (prs ws)).length ≤ 9 := by
  cases h : prs ws with
  | none => exact ⟨by simp [qU], by simp [qN]⟩
  | some p =>
    obtain ⟨i, u, n⟩ := p
    obtain ⟨hi, hf⟩ := prs_is h
    have h1 := fit_cnt hf
    have h2 := kw_nine9 i hi
    simp at h1
    unfold qU qN
    dsimp only
    split <;> simp <;> omega
theorem cell3_0 {W : World} {b T : Nat} {x0 x1 x2 : Value} (h : W.heap[b]? = some (.cells #[x0, x1, x2] T (0, 0))) : W.cell? ⟨b, 0, none⟩ = some x0 := by rw [Lib.cell_of_heap h]; rfl
theorem cell3_1 {W : World} {b T : Nat} {x0 x1 x2 : Value} (h : W.heap[b]? = some (.cells #[x0, x1, x2] T (0, 0))) : W.cell? ⟨b, 1, none⟩ = some x1 := by rw [Lib.cell_of_heap h]; rfl
theorem cell3_2 {W : World} {b T : Nat} {x0 x1 x2 : Value} (h : W.heap[b]? = some (.cells #[x0, x1, x2] T (0, 0))) : W.cell? ⟨b, 2, none⟩ = some x2 := by rw [Lib.cell_of_heap h]; rfl
set_option maxRecDepth 100000 in
set_option maxHeartbeats 4000000 in
theorem parses_true (l : List UInt8) (W : World) (ht : PTab W) (hkn : ∀ w, Kp W w → Calls Tryz.prog 5 #[] w fun e w' => e = .returned (.bool true) ∧ Kp w w') :
    Calls Tryz.prog 3 #[sv l] W fun e w' => e = .returned (.bool true) ∧ Kp W w' := by
  have HT := Lib.hid ht
  have HKN := Lib.hid hkn
  clear ht hkn
  have hsz : (⟨l.toArray⟩ : ByteArray).size = l.length := size_mk l
  go_enter Tryz.func3, Tryz.ntmps3
  go_wp2_with fail
  refine (HKN.out _ (Kp.refl _)).mono ?_
  rintro e w1 ⟨rfl, hk1⟩
  have HK1 := Lib.hid hk1
  clear hk1
  by_cases hl : l.length ≤ 120
  case neg =>
    have hl1 : (120 : Int) < (l.length : Int) := by omega
    clear hl
    go_wp2_with fail
    refine (HKN.out _ HK1.out).mono ?_
    rintro e w2 ⟨rfl, hk2⟩
    have HK2 := Lib.hid hk2
    clear hk2
    go_wp2_with fail
    go_ret
    exact ⟨rfl, HK1.out.then HK2.out⟩
  have hl1 : ¬ (120 : Int) < (l.length : Int) := by omega
  obtain ⟨R, hR⟩ : ∃ R, R = prs (spl l) := ⟨_, rfl⟩
  have hql := q_len (spl l)
  rw [← hR] at hql
  have HR := Lib.hid hR
  have HQL := Lib.hid hql
  have HLL := Lib.hid hl
  clear hR hql hl
  go_wp2_with fail
  refine Calls.mono (parse_walk l (by have := HLL.out; omega) R HR.out _ (HT.out.kp HK1.out)) ?_
  rintro e w2 ⟨r, E, rfl, hp, hk2⟩
  obtain ⟨rfl, vu, vn, rfl, hsu, hsn⟩ := hp.agg
  obtain ⟨au, cu, rfl, _⟩ := hsu.val
  obtain ⟨an, cn, rfl, _⟩ := hsn.val
  have HU := Lib.hid hsu
  have HN := Lib.hid hsn
  have HK2 := Lib.hid (HK1.out.then hk2)
  clear hp hsu hsn hk2
  obtain ⟨E, hE⟩ : ∃ E, E = eOf R := ⟨_, rfl⟩
  obtain ⟨K, hK⟩ : ∃ K, K = qK R := ⟨_, rfl⟩
  rw [← hE, ← hK]
  have HE := Lib.hid hE
  have HKK := Lib.hid hK
  clear hE hK
  go_wp2_with fail
  refine Calls.mono (refParse_walk l (by have := HLL.out; omega) R HR.out _ (HT.out.kp (HK2.out.then (kp_alloc _ _)))) ?_
  rintro e w3 ⟨r, E', rfl, hp, hk3⟩
  obtain ⟨hE', vu', vn', rfl, hsu, hsn⟩ := hp.agg
  rw [← HE.out] at hE'
  rw [← HKK.out]
  subst hE'
  obtain ⟨au', cu', rfl, _⟩ := hsu.val
  obtain ⟨an', cn', rfl, _⟩ := hsn.val
  have HU' := Lib.hid hsu
  have HN' := Lib.hid hsn
  have hq1 : w3.heap[w2.heap.size]? = some (.cells #[.int .i64 K, .slice au (qU R).length cu, .slice an (qN R).length cn] 26 (0, 0)) := (hk3.block _ (by simp)).trans (heap_alloc_new w2 _)
  have HQ1 := Lib.hid hq1
  have HK23 := Lib.hid ((kp_alloc w2 _).then hk3)
  clear hp hsu hsn hk3 hq1
  obtain ⟨N, hN⟩ : ∃ N : Nat, N = 65537 := ⟨_, rfl⟩
  have HNN := Lib.hid hN
  have hN64 : 65536 < N := by omega
  have hNb : N ≤ 100000 := by omega
  clear hN
  obtain ⟨i0, hi, hz0, hz1, hz2⟩ := info_parts infoB
  go_wp2_with (at_make; refine wpList_make_full _ rfl _ _ 30 rfl (w3.heap.size + 1) 5 i0 (.int .u8 0) 1 Tryz.underlying30 hi hz0 hz1 _ _ _ _ N rfl rfl (by rw [HNN.out]; rfl) (by rw [HNN.out]; rfl) ?b2 ?b3 ?b4 ?_)
  case b2 => rw [hz2]; omega
  case b3 => unfold maxLen; omega
  case b4 => simp
  intro w4 hown4 hgrow4
  rw [toList_madeCells_one] at hown4
  have hk4 := (Below.refl _ _).grown hgrow4 (Nat.le_refl _) (fun k h => by cases h)
  have hq2 : w4.heap[w3.heap.size]? = some (.cells #[.int .i64 K, .slice au' (qU R).length cu', .slice an' (qN R).length cn'] 26 (0, 0)) := (hk4.block _ (by simp)).trans (heap_alloc_new w3 _)
  obtain ⟨Z, hZ⟩ : ∃ Z : List UInt8, Z = List.replicate N 0 := ⟨_, rfl⟩
  have hZl : Z.length = N := by rw [hZ, List.length_replicate]
  have hcv : (convert 30 9 (.slice (some ⟨w3.heap.size + 1, 0, none⟩) N N)).run Tryz.prog w4 = .ok (.string ⟨Z.toArray⟩) w4 := by
    have h := run_convert_bytes_back (P := Tryz.prog) w4 30 9 5 ⟨w3.heap.size + 1, 0, none⟩ N Z Tryz.underlying30 Tryz.underlying5 Tryz.underlying9 (fun j hj => by
      have h := hown4.cellAt j (by omega)
      rw [List.getElem?_replicate, if_pos (by omega)] at h
      rw [Lib.add_plain, Nat.zero_add]
      have e : Z[j] = 0 := by
        have hm : ∀ x ∈ Z, x = 0 := fun x hx => by rw [hZ] at hx; exact (List.mem_replicate.1 hx).2
        exact hm _ (List.getElem_mem hj)
      rw [e]
      simpa using h)
    rw [hZl] at h
    exact h
  have HQ2 := Lib.hid hq2
  have HK34 := Lib.hid ((kp_alloc w3 _).then (show Kp _ w4 from hk4))
  have HZ := Lib.hid (show 65536 < Z.length by omega)
  clear hgrow4 hown4 hk4 hq2 hZ hZl hi hz0 hz1 hz2
  go_wp2_with fail
  refine Calls.mono (parse_long Z HZ.out _) ?_
  rintro e w5 ⟨rfl, hk5⟩
  have HK5 := Lib.hid (show Kp w4 w5 from hk5)
  clear hk5 hcv
  have hx1 : w5.heap[w2.heap.size]? = _ := ((HK34.out.then HK5.out).block _ (Array.getElem?_eq_some_iff.1 HQ1.out).1).trans HQ1.out
  have hx2 : w5.heap[w3.heap.size]? = _ := (HK5.out.block _ (Array.getElem?_eq_some_iff.1 HQ2.out).1).trans HQ2.out
  have hy1 : ∀ ob, (w5.alloc ob).heap[w2.heap.size]? = _ := fun ob => (@heap_alloc_old w5 ob _ (Array.getElem?_eq_some_iff.1 hx1).1).trans hx1
  have hy2 : ∀ ob, (w5.alloc ob).heap[w3.heap.size]? = _ := fun ob => (@heap_alloc_old w5 ob _ (Array.getElem?_eq_some_iff.1 hx2).1).trans hx2
  have a0 := fun ob => cell3_0 (hy1 ob)
  have a1 := fun ob => cell3_1 (hy1 ob)
  have a2 := fun ob => cell3_2 (hy1 ob)
  have b0 := fun ob => cell3_0 (hy2 ob)
  have b1 := fun ob => cell3_1 (hy2 ob)
  have b2 := fun ob => cell3_2 (hy2 ob)
  clear hx1 hx2 hy1 hy2
  go_wp2_with fail
  refine Calls.mono (sameQ_walk K K _ _ _ _ (qU R) (qU R) (qN R) (qN R) true (by simp) _ ?a1 ?a2 ?a3 ?a4 ?a5 ?a6) ?_
  case a1 => exact HU.out.kp (HK23.out.then (HK34.out.then (HK5.out.then (kp_alloc _ _))))
  case a2 => exact HU'.out.kp (HK34.out.then (HK5.out.then (kp_alloc _ _)))
  case a3 => exact HN.out.kp (HK23.out.then (HK34.out.then (HK5.out.then (kp_alloc _ _))))
  case a4 => exact HN'.out.kp (HK34.out.then (HK5.out.then (kp_alloc _ _)))
  case a5 => have := HQL.out.1; omega
  case a6 => have := HQL.out.2; omega
  rintro e w6 ⟨rfl, hk6⟩
  have HK6 := Lib.hid (HK2.out.then (HK23.out.then (HK34.out.then (HK5.out.then ((kp_alloc _ _).then hk6)))))
  clear hk6 a0 a1 a2 b0 b1 b2
  go_wp2_with fail
  go_ret
  exact ⟨rfl, HK6.out⟩
end Go.Proofs.YtjcfejncjdhplaaGreatDoor
