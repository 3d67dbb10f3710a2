/-
  klippelaw53.sameQuery.
-/
import Derived.Test.YtjcfejncjdhplaaGreatDoorParW
set_option linter.unusedSectionVars false
set_option linter.unusedVariables false
set_option linter.unusedSimpArgs false
namespace Klp
open Go Go.Lib
def qmP (u : List UInt8) : List UInt8 := if u = [63] then [] else u
def fitQ (N : UInt8) : List (List UInt8) → List (List UInt8) → List (List UInt8) → List (List UInt8) → Option (List (List UInt8) × List (List UInt8))
  | [], [], u, n => some (u, n)
  | f :: F, w :: W, u, n => if w = [] then none else if f = [85] then fitQ N F W (u ++ [qmP w]) n else if f = [N] then fitQ N F W u (n ++ [w]) else if f = w then fitQ N F W u n else none
  | _, _, _, _ => none
theorem fitQ_eq (N : UInt8) : ∀ (F W u n : List (List UInt8)), fitQ N F W (u.map qmP) n = (fit N F W u n).map fun p => (p.1.map qmP, p.2)
  | [], [], u, n => rfl
  | [], _ :: _, _, _ => by simp [fitQ, fit]
  | _ :: _, [], _, _ => by simp [fitQ, fit]
  | f :: F, w :: W, u, n => by
    rw [fitQ, fit]
    split
    · rfl
    · split
      · rw [← fitQ_eq N F W (u ++ [w]) n, List.map_append]; rfl
      · split
        · exact fitQ_eq N F W u (n ++ [w])
        · split
          · exact fitQ_eq N F W u n
          · rfl
def sw (f : List UInt8) : List UInt8 := if f = [78] then [88] else f
theorem fit_sw : ∀ (F W u n : List (List UInt8)), (∀ f ∈ F, f ≠ [88]) → (∀ x ∈ F, x = [78] ∨ x ≠ [78]) → fit 78 F W u n = fit 88 (F.map sw) W u n
  | [], [], _, _, _, _ => rfl
  | [], _ :: _, _, _, _, _ => by simp [fit]
  | _ :: _, [], _, _, _, _ => by simp [fit]
  | f :: F, w :: W, u, n, h, h' => by
    have hf := h f (by simp)
    have ih := fun u n => fit_sw F W u n (fun x hx => h x (List.mem_cons_of_mem _ hx)) (fun x hx => h' x (List.mem_cons_of_mem _ hx))
    rw [List.map_cons, fit, fit]
    by_cases hw : w = []
    · rw [if_pos hw, if_pos hw]
    · rw [if_neg hw, if_neg hw]
      by_cases hU : f = [85]
      · subst hU
        rw [if_pos rfl, if_pos (by decide)]
        exact ih _ _
      · by_cases hN : f = [78]
        · subst hN
          rw [if_neg (by decide), if_pos rfl, if_neg (by decide), if_pos (by decide)]
          exact ih _ _
        · have e : sw f = f := by unfold sw; rw [if_neg hN]
          rw [e, if_neg hU, if_neg hN, if_neg hU, if_neg hf, ih]
theorem formN_sw {k : Nat} (h1 : 1 ≤ k) (h2 : k ≤ 11) : (formN 78 k).map sw = formN 88 k ∧ ∀ f ∈ formN 78 k, f ≠ [88] := by
  rcases (show k = 1 ∨ k = 2 ∨ k = 3 ∨ k = 4 ∨ k = 5 ∨ k = 6 ∨ k = 7 ∨ k = 8 ∨ k = 9 ∨ k = 10 ∨ k = 11 by omega) with rfl | rfl | rfl | rfl | rfl | rfl | rfl | rfl | rfl | rfl | rfl <;> decide
theorem fit_ref {i : Nat} (h : i < 11) (W : List (List UInt8)) : fitQ 88 (formI 88 ((i : Int) + 1)) W [] [] = (fit 78 (spl (kwB (i + 1))) W [] []).map fun p => (p.1.map qmP, p.2) := by
  have e : formI 88 ((i : Int) + 1) = formN 88 (i + 1) := by
    unfold formI
    rw [if_pos (by omega)]
    rfl
  obtain ⟨h1, h2⟩ := formN_sw (k := i + 1) (by omega) (by omega)
  rw [e, kw_spl _ (by omega) (by omega), fit_sw _ _ _ _ h2 (fun x _ => Classical.em _), h1]
  exact fitQ_eq 88 _ W [] []
end Klp
namespace Go.Proofs.YtjcfejncjdhplaaGreatDoor
open Go.RowKit Go Klp
set_option maxHeartbeats 4000000 in
theorem same_walk (va vb : Value) (la lb : List (List UInt8)) (res : Bool) (hres : res = decide (la = lb)) (hl : la.length ≤ 100000) (w : World) (ha : Sts w va la) (hb : Sts w vb lb) :
    Calls Tryz.prog 17 #[va, vb] w fun e w' => e = .returned (.bool res) ∧ Kp w w' := by
  obtain ⟨aa, ca, rfl, hca⟩ := ha.val
  obtain ⟨ab, cb, rfl, hcb⟩ := hb.val
  have HA := Lib.hid ha
  have HB := Lib.hid hb
  have HR := Lib.hid hres
  clear ha hb hres
  go_enter Tryz.func17, Tryz.ntmps17
  by_cases hlen : la.length = lb.length
  case neg =>
    have hne : ((la.length : Int) != (lb.length : Int)) = true := by rw [bne_iff_ne]; omega
    have H := Lib.hid (show res = false by rw [HR.out]; exact decide_eq_false (fun h => hlen (by rw [h])))
    clear hlen
    go_wp2_with fail
    go_ret
    exact ⟨by rw [H.out]; rfl, Kp.refl _⟩
  have hne : ((la.length : Int) != (lb.length : Int)) = false := by rw [bne_eq_false_iff_eq, hlen]
  have HL := Lib.hid hlen
  clear hlen
  go_wp2_with fail
  clear hne
  go_loopw [5] (fun t W => ∃ j, j ≤ la.length ∧ t = .int .i64 j ∧ (∀ i (h : i < la.length) (h' : i < lb.length), i < j → la[i] = lb[i]) ∧ Kp w W) (fun t _ => 100001 - (intOf t).toNat)
  case atStart => exact ⟨0, Nat.zero_le _, rfl, fun i _ _ h => absurd h (by omega), Kp.refl _⟩
  case round =>
    obtain ⟨j, hj, rfl, hno, hk⟩ := hrel
    have HNO := Lib.hid hno
    have HK := Lib.hid hk
    clear hno hk
    by_cases hlt : j < la.length
    · have hll := HL.out
      have hlt' : j < lb.length := by omega
      obtain ⟨b1, o1, rfl⟩ := HA.out.addr (by omega)
      obtain ⟨b2, o2, rfl⟩ := HB.out.addr (by omega)
      have c1 := HA.out.cells HK.out hlt
      have c2 := HB.out.cells HK.out hlt'
      clear hll
      by_cases hx : la[j] = lb[j]
      · have hbx : (la[j] == lb[j]) = true := by rw [hx]; exact beq_self_eq_true _
        have hnx : (la[j] != lb[j]) = false := by rw [hx]; simp
        have HX := Lib.hid hx
        clear hx
        go_wp2_with fail
        go_region
        all_goals (try go_wp2_with fail)
        all_goals (try go_roundw)
        all_goals first | exact ⟨j + 1, by omega, by go_num, (fun i h h' hi => by
          by_cases e : i < j
          · exact HNO.out i h h' e
          · obtain rfl : i = j := by omega
            exact HX.out), HK.out.then (Kp.drew _)⟩ | (simp only [intOf]; omega)
      · have hbx : (la[j] == lb[j]) = false := by rw [beq_eq_false_iff_ne]; exact hx
        have hnx : (la[j] != lb[j]) = true := by rw [bne_iff_ne]; exact hx
        have H := Lib.hid (show res = false by rw [HR.out]; exact decide_eq_false (fun h => hx (by subst h; rfl)))
        clear hx
        go_wp2_with fail
        go_region
        all_goals (try go_wp2_with fail)
        all_goals go_ret
        all_goals exact ⟨by rw [H.out]; rfl, HK.out.then (Kp.drew _)⟩
    · obtain rfl : j = la.length := by omega
      have H := Lib.hid (show res = true by rw [HR.out]; exact decide_eq_true (List.ext_getElem HL.out fun i h h' => HNO.out i h h' h))
      go_wp2_with fail
      go_ret
      exact ⟨by rw [H.out]; rfl, HK.out⟩
set_option maxHeartbeats 4000000 in
theorem sameR_walk (va vb : Value) (la lb : List (List UInt8)) (res : Bool) (hres : res = decide (la = lb)) (hl : la.length ≤ 100000) (w : World) (ha : Sts w va la) (hb : Sts w vb lb) :
    Calls Tryz.prog 22 #[va, vb] w fun e w' => e = .returned (.bool res) ∧ Kp w w' := by
  obtain ⟨aa, ca, rfl, hca⟩ := ha.val
  obtain ⟨ab, cb, rfl, hcb⟩ := hb.val
  have HA := Lib.hid ha
  have HB := Lib.hid hb
  have HR := Lib.hid hres
  clear ha hb hres
  go_enter Tryz.func22, Tryz.ntmps22
  by_cases hlen : la.length = lb.length
  case neg =>
    have hne : ((la.length : Int) != (lb.length : Int)) = true := by rw [bne_iff_ne]; omega
    have H := Lib.hid (show res = false by rw [HR.out]; exact decide_eq_false (fun h => hlen (by rw [h])))
    clear hlen
    go_wp2_with fail
    go_ret
    exact ⟨by rw [H.out]; rfl, Kp.refl _⟩
  have hne : ((la.length : Int) != (lb.length : Int)) = false := by rw [bne_eq_false_iff_eq, hlen]
  have HL := Lib.hid hlen
  clear hlen
  go_wp2_with fail
  clear hne
  go_loopw [5] (fun t W => ∃ j, j ≤ la.length ∧ t = .int .i64 j ∧ (∀ i (h : i < la.length) (h' : i < lb.length), i < j → la[i] = lb[i]) ∧ Kp w W) (fun t _ => 100001 - (intOf t).toNat)
  case atStart => exact ⟨0, Nat.zero_le _, rfl, fun i _ _ h => absurd h (by omega), Kp.refl _⟩
  case round =>
    obtain ⟨j, hj, rfl, hno, hk⟩ := hrel
    have HNO := Lib.hid hno
    have HK := Lib.hid hk
    clear hno hk
    by_cases hlt : j < la.length
    · have hll := HL.out
      have hlt' : j < lb.length := by omega
      obtain ⟨b1, o1, rfl⟩ := HA.out.addr (by omega)
      obtain ⟨b2, o2, rfl⟩ := HB.out.addr (by omega)
      have c1 := HA.out.cells HK.out hlt
      have c2 := HB.out.cells HK.out hlt'
      clear hll
      by_cases hx : la[j] = lb[j]
      · have hbx : (la[j] == lb[j]) = true := by rw [hx]; exact beq_self_eq_true _
        have hnx : (la[j] != lb[j]) = false := by rw [hx]; simp
        have HX := Lib.hid hx
        clear hx
        go_wp2_with fail
        go_region
        all_goals (try go_wp2_with fail)
        all_goals (try go_roundw)
        all_goals first | exact ⟨j + 1, by omega, by go_num, (fun i h h' hi => by
          by_cases e : i < j
          · exact HNO.out i h h' e
          · obtain rfl : i = j := by omega
            exact HX.out), HK.out.then (Kp.drew _)⟩ | (simp only [intOf]; omega)
      · have hbx : (la[j] == lb[j]) = false := by rw [beq_eq_false_iff_ne]; exact hx
        have hnx : (la[j] != lb[j]) = true := by rw [bne_iff_ne]; exact hx
        have H := Lib.hid (show res = false by rw [HR.out]; exact decide_eq_false (fun h => hx (by subst h; rfl)))
        clear hx
        go_wp2_with fail
        go_region
        all_goals (try go_wp2_with fail)
        all_goals go_ret
        all_goals exact ⟨by rw [H.out]; rfl, HK.out.then (Kp.drew _)⟩
    · obtain rfl : j = la.length := by omega
      have H := Lib.hid (show res = true by rw [HR.out]; exact decide_eq_true (List.ext_getElem HL.out fun i h h' => HNO.out i h h' h))
      go_wp2_with fail
      go_ret
      exact ⟨by rw [H.out]; rfl, HK.out⟩
end Go.Proofs.YtjcfejncjdhplaaGreatDoor
namespace Go.Proofs.YtjcfejncjdhplaaGreatDoor
open Go.RowKit Go Klp
set_option maxHeartbeats 4000000 in
theorem sameQ_walk (ka kb : Int) (va vb xa xb : Value) (ua ub na nb : List (List UInt8)) (res : Bool) (hres : res = decide (ka = kb ∧ ua = ub ∧ na = nb)) (w : World) (hua : Sts w va ua) (hub : Sts w vb ub) (hna : Sts w xa na) (hnb : Sts w xb nb) (hl1 : ua.length ≤ 100000) (hl2 : na.length ≤ 100000) :
    Calls Tryz.prog 8 #[.agg #[.int .i64 ka, va, xa], .agg #[.int .i64 kb, vb, xb]] w fun e w' => e = .returned (.bool res) ∧ Kp w w' := by
  obtain ⟨a1, c1, rfl, _⟩ := hua.val
  obtain ⟨a2, c2, rfl, _⟩ := hub.val
  obtain ⟨a3, c3, rfl, _⟩ := hna.val
  obtain ⟨a4, c4, rfl, _⟩ := hnb.val
  have HU := Lib.hid (And.intro hua hub)
  have HN := Lib.hid (And.intro hna hnb)
  have HR := Lib.hid hres
  have HL := Lib.hid (And.intro hl1 hl2)
  clear hua hub hna hnb hres hl1 hl2
  go_enter Tryz.func8, Tryz.ntmps8
  have hk2 : Kp w ((w.alloc (.cells #[.int .i64 ka, .slice a1 ua.length c1, .slice a3 na.length c3] 26)).alloc (.cells #[.int .i64 kb, .slice a2 ub.length c2, .slice a4 nb.length c4] 26)) := (kp_alloc _ _).then (kp_alloc _ _)
  have HK2 := Lib.hid hk2
  clear hk2
  by_cases hk : ka = kb
  case neg =>
    have hb : (ka == kb) = false := by rw [beq_eq_false_iff_ne]; exact hk
    have H := Lib.hid (show res = false by rw [HR.out]; exact decide_eq_false (fun h => hk h.1))
    clear hk
    go_wp2_with fail
    go_ret
    exact ⟨by rw [H.out]; rfl, HK2.out⟩
  have hb : (ka == kb) = true := by rw [hk]; exact beq_self_eq_true _
  have HKE := Lib.hid hk
  clear hk
  go_wp2_with fail
  refine Calls.mono (same_walk _ _ ua ub (decide (ua = ub)) rfl HL.out.1 _ ?a1 ?a2) ?_
  case a1 => exact HU.out.1.kp HK2.out
  case a2 => exact HU.out.2.kp HK2.out
  rintro e w3 ⟨rfl, hk3⟩
  have HK3 := Lib.hid (HK2.out.then hk3)
  have x0 : w3.heap[w.heap.size]? = some (.cells #[.int .i64 ka, .slice a1 ua.length c1, .slice a3 na.length c3] 26 (0, 0)) := (hk3.block _ (by simp; omega)).trans ((@heap_alloc_old _ _ _ (by simp)).trans (heap_alloc_new w _))
  have x1 : w3.heap[w.heap.size + 1]? = some (.cells #[.int .i64 kb, .slice a2 ub.length c2, .slice a4 nb.length c4] 26 (0, 0)) := (hk3.block _ (by simp)).trans (two_new w _ _)
  have g0 : w3.cell? ⟨w.heap.size, 2, none⟩ = some (.slice a3 na.length c3) := by rw [Lib.cell_of_heap x0]; rfl
  have g1 : w3.cell? ⟨w.heap.size + 1, 2, none⟩ = some (.slice a4 nb.length c4) := by rw [Lib.cell_of_heap x1]; rfl
  clear x0 x1 hk3
  by_cases hu : ua = ub
  case neg =>
    have H := Lib.hid (show res = false by rw [HR.out]; exact decide_eq_false (fun h => hu h.2.1))
    rw [decide_eq_false hu]
    clear hu
    go_wp2_with fail
    go_ret
    exact ⟨by rw [H.out]; rfl, HK3.out⟩
  rw [decide_eq_true hu]
  have HUE := Lib.hid hu
  clear hu
  go_wp2_with fail
  refine Calls.mono (sameR_walk _ _ na nb (decide (na = nb)) rfl HL.out.2 _ ?a3 ?a4) ?_
  case a3 => exact HN.out.1.kp HK3.out
  case a4 => exact HN.out.2.kp HK3.out
  rintro e w4 ⟨rfl, hk4⟩
  have HK4 := Lib.hid (HK3.out.then hk4)
  have H := Lib.hid (show res = decide (na = nb) by
    rw [HR.out]
    by_cases h : na = nb
    · rw [decide_eq_true h]; exact decide_eq_true ⟨HKE.out, HUE.out, h⟩
    · rw [decide_eq_false h]; exact decide_eq_false (fun h' => h h'.2.2))
  clear hk4
  go_wp2_with fail
  go_ret
  exact ⟨by rw [H.out]; rfl, HK4.out⟩
end Go.Proofs.YtjcfejncjdhplaaGreatDoor
