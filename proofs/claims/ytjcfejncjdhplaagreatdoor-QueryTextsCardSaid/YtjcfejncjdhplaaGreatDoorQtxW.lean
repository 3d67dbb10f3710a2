/-
  klippelaw53.QueryTexts: true at any query, if known is.
-/
import Derived.Test.YtjcfejncjdhplaaGreatDoorParW
import Derived.Test.YtjcfejncjdhplaaGreatDoorSamqW
import Derived.Test.YtjcfejncjdhplaaGreatDoorTxqW
set_option linter.unusedSectionVars false
set_option linter.unusedVariables false
set_option linter.unusedSimpArgs false
namespace Go.Proofs.YtjcfejncjdhplaaGreatDoor
open Go.RowKit Go Klp
theorem shB_parts {us ns : List (List UInt8)} (h : shB us ns = true) : (∀ u ∈ us, u.length ≤ 36) ∧ (∀ x ∈ ns, x.length ≤ 40) ∧ us.length ≤ 3 ∧ ns.length ≤ 7 := by
  unfold shB at h
  simp only [Bool.and_eq_true, List.all_eq_true, decide_eq_true_eq] at h
  exact ⟨h.1.1.1, h.1.1.2, h.1.2, h.2⟩
set_option maxRecDepth 100000 in
set_option maxHeartbeats 4000000 in
theorem texts_true (k : Int) (vu vn : Value) (us ns : List (List UInt8)) (W : World) (hu : Sts W vu us) (hn : Sts W vn ns) (hul : us.length ≤ 9223372036854775807) (hnl : ns.length ≤ 9223372036854775807) (ht : PTab W) (hkn : ∀ w, Kp W w → Calls Tryz.prog 5 #[] w fun e w' => e = .returned (.bool true) ∧ Kp w w') :
    Calls Tryz.prog 4 #[.agg #[.int .i64 k, vu, vn]] W fun e w' => e = .returned (.bool true) ∧ Kp W w' := by
  obtain ⟨au, cu, rfl, hcu⟩ := hu.val
  obtain ⟨an, cn, rfl, hcn⟩ := hn.val
  have HT := Lib.hid ht
  have HKN := Lib.hid hkn
  have HU := Lib.hid hu
  have HN := Lib.hid hn
  clear ht hkn hu hn
  go_enter Tryz.func4, Tryz.ntmps4
  go_wp2_with fail
  refine (HKN.out _ (kp_alloc _ _)).mono ?_
  rintro e w1 ⟨rfl, hk1⟩
  have hbx1 : w1.heap[W.heap.size]? = some (.cells #[.int .i64 k, .slice au us.length cu, .slice an ns.length cn] 26 (0, 0)) := (hk1.block _ (by simp)).trans (heap_alloc_new W _)
  have HK1 := Lib.hid ((kp_alloc W _).then hk1)
  have HX1 := Lib.hid hbx1
  have c0 := cellq0 hbx1
  have c1 := cellq1 hbx1
  have c2 := cellq2 hbx1
  clear hk1 hbx1
  obtain ⟨b, hb⟩ : ∃ b, b = shB us ns := ⟨_, rfl⟩
  have HB := Lib.hid hb
  clear hb
  go_wp2_with fail
  refine Calls.mono (short_walk k _ _ us ns b HB.out _ ?a1 ?a2 hul hnl) ?_
  case a1 => exact HU.out.kp HK1.out
  case a2 => exact HN.out.kp HK1.out
  rintro e w2 ⟨rfl, hk2⟩
  have hbx2 : w2.heap[W.heap.size]? = _ := (hk2.block _ (Array.getElem?_eq_some_iff.1 HX1.out).1).trans HX1.out
  have HK2 := Lib.hid (HK1.out.then hk2)
  have HX2 := Lib.hid hbx2
  clear hk2 hbx2 c0 c1 c2 HX1
  cases b with
  | false =>
    go_wp2_with fail
    refine (HKN.out _ HK2.out).mono ?_
    rintro e w3 ⟨rfl, hk3⟩
    have HK3 := Lib.hid (HK2.out.then hk3)
    clear hk3
    go_wp2_with fail
    go_ret
    exact ⟨rfl, HK3.out⟩
  | true =>
    have hsh := shB_parts HB.out.symm
    have HSH := Lib.hid hsh
    clear hsh
    have c0 := cellq0 HX2.out
    have c1 := cellq1 HX2.out
    have c2 := cellq2 HX2.out
    by_cases hk : k < 1 ∨ 11 < k
    · have HKO := Lib.hid hk
      clear hk
      go_wp2_with fail
      refine Calls.mono (shapeL_no k HKO.out _ _ _ _ _ _ _) ?_
      rintro e w3 ⟨rfl, hk3⟩
      have hbx3 : w3.heap[W.heap.size]? = _ := (hk3.block _ (Array.getElem?_eq_some_iff.1 HX2.out).1).trans HX2.out
      have HK3 := Lib.hid (HK2.out.then hk3)
      have HX3 := Lib.hid hbx3
      clear hk3 hbx3 c0 c1 c2
      have c0 := cellq0 HX3.out
      have c1 := cellq1 HX3.out
      have c2 := cellq2 HX3.out
      go_wp2_with fail
      refine Calls.mono (textQ_no k HKO.out _ _ _ _ _ _ _) ?_
      rintro e w4 ⟨rfl, hk4⟩
      have hbx4 : w4.heap[W.heap.size]? = _ := (hk4.block _ (Array.getElem?_eq_some_iff.1 HX3.out).1).trans HX3.out
      have HK4 := Lib.hid (HK3.out.then hk4)
      have HX4 := Lib.hid hbx4
      clear hk4 hbx4 c0 c1 c2
      have c0 := cellq0 HX4.out
      have c1 := cellq1 HX4.out
      have c2 := cellq2 HX4.out
      go_wp2_with fail
      refine Calls.mono (shapeQ_no k HKO.out _ _ _ _ _ _ _) ?_
      rintro e w5 ⟨rfl, hk5⟩
      have HK5 := Lib.hid (HK4.out.then hk5)
      clear hk5 c0 c1 c2
      go_wp2_with fail
      go_ret
      exact ⟨rfl, HK5.out⟩
    · obtain ⟨i, hi, rfl⟩ : ∃ i : Nat, i < 11 ∧ k = (i : Int) + 1 := ⟨(k - 1).toNat, by omega, by omega⟩
      have HKI := Lib.hid hk
      have HI := Lib.hid hi
      obtain ⟨E, hE⟩ : ∃ E, E = shpE ((i : Int) + 1) us ns := ⟨_, rfl⟩
      have HE := Lib.hid hE
      clear hk hi hE
      go_wp2_with fail
      refine Calls.mono (shapeL_in ((i : Int) + 1) HKI.out _ _ us ns E HE.out (fun u h => by have := HSH.out.1 u h; omega) (fun x h => by have := HSH.out.2.1 x h; omega) _ ?a1 ?a2 ?a3 ?a4 ?a5) ?_
      case a1 => exact HU.out.kp HK2.out
      case a2 => exact HN.out.kp HK2.out
      case a3 => have := HSH.out.2.2.1; omega
      case a4 => have := HSH.out.2.2.2; omega
      case a5 => exact HT.out.kp HK2.out
      rintro e w3 ⟨rfl, hk3⟩
      have hbx3 : w3.heap[W.heap.size]? = _ := (hk3.block _ (Array.getElem?_eq_some_iff.1 HX2.out).1).trans HX2.out
      have HK3 := Lib.hid (HK2.out.then hk3)
      have HX3 := Lib.hid hbx3
      clear hk3 hbx3 c0 c1 c2
      have c0 := cellq0 HX3.out
      have c1 := cellq1 HX3.out
      have c2 := cellq2 HX3.out
      by_cases hE0 : E = 0
      case neg =>
        have hEb : (E != 0) = true := by rw [bne_iff_ne]; exact hE0
        have HE0 := Lib.hid hE0
        clear hE0
        go_wp2_with fail
        refine Calls.mono (textQ_bad i HI.out _ _ us ns E HE.out HE0.out (fun u h => by have := HSH.out.1 u h; omega) (fun x h => by have := HSH.out.2.1 x h; omega) _ ?a1 ?a2 ?a3) ?_
        case a1 => exact HU.out.kp HK3.out
        case a2 => exact HN.out.kp HK3.out
        case a3 => exact HT.out.kp HK3.out
        rintro e w4 ⟨rfl, hk4⟩
        have hbx4 : w4.heap[W.heap.size]? = _ := (hk4.block _ (Array.getElem?_eq_some_iff.1 HX3.out).1).trans HX3.out
        have HK4 := Lib.hid (HK3.out.then hk4)
        have HX4 := Lib.hid hbx4
        clear hk4 hbx4 c0 c1 c2
        have c0 := cellq0 HX4.out
        have c1 := cellq1 HX4.out
        have c2 := cellq2 HX4.out
        go_wp2_with fail
        refine Calls.mono (shapeQ_in i HI.out _ _ us ns E HE.out (fun u h => by have := HSH.out.1 u h; omega) (fun x h => by have := HSH.out.2.1 x h; omega) _ ?a1 ?a2 ?a3) ?_
        case a1 => exact HU.out.kp HK4.out
        case a2 => exact HN.out.kp HK4.out
        case a3 => exact HT.out.kp HK4.out
        rintro e w5 ⟨rfl, hk5⟩
        have HK5 := Lib.hid (HK4.out.then hk5)
        clear hk5 c0 c1 c2
        go_wp2_with fail
        go_ret
        exact ⟨rfl, HK5.out⟩
      subst hE0
      obtain ⟨T, hT⟩ : ∃ T, T = txt i us ns := ⟨_, rfl⟩
      have HTX := Lib.hid hT
      clear hT
      go_wp2_with fail
      refine Calls.mono (textQ_ok i HI.out _ _ us ns T HTX.out HE.out.symm (fun u h => by have := HSH.out.1 u h; omega) (fun x h => HSH.out.2.1 x h) _ ?a1 ?a2 ?a3) ?_
      case a1 => exact HU.out.kp HK3.out
      case a2 => exact HN.out.kp HK3.out
      case a3 => exact HT.out.kp HK3.out
      rintro e w4 ⟨rfl, hk4⟩
      have hbx4 : w4.heap[W.heap.size]? = _ := (hk4.block _ (Array.getElem?_eq_some_iff.1 HX3.out).1).trans HX3.out
      have HK4 := Lib.hid (HK3.out.then hk4)
      have HX4 := Lib.hid hbx4
      clear hk4 hbx4 c0 c1 c2
      have c0 := cellq0 HX4.out
      have c1 := cellq1 HX4.out
      have c2 := cellq2 HX4.out
      go_wp2_with fail
      refine Calls.mono (shapeQ_in i HI.out _ _ us ns 0 HE.out (fun u h => by have := HSH.out.1 u h; omega) (fun x h => by have := HSH.out.2.1 x h; omega) _ ?a1 ?a2 ?a3) ?_
      case a1 => exact HU.out.kp HK4.out
      case a2 => exact HN.out.kp HK4.out
      case a3 => exact HT.out.kp HK4.out
      rintro e w5 ⟨rfl, hk5⟩
      have hbx5 : w5.heap[W.heap.size]? = _ := (hk5.block _ (Array.getElem?_eq_some_iff.1 HX4.out).1).trans HX4.out
      have HK5 := Lib.hid (HK4.out.then hk5)
      have HX5 := Lib.hid hbx5
      clear hk5 hbx5 c0 c1 c2
      have hpt := prs_txt HI.out HE.out.symm
      rw [← HTX.out] at hpt
      have HPT := Lib.hid hpt
      have htl := txt_len HI.out HE.out.symm (fun u h => by have := HSH.out.1 u h; omega) (fun x h => HSH.out.2.1 x h)
      rw [← HTX.out] at htl
      have HTL := Lib.hid htl
      clear hpt htl
      go_wp2_with fail
      refine Calls.mono (parse_walk T (by have := HTL.out; omega) _ HPT.out.1.symm _ (HT.out.kp HK5.out)) ?_
      rintro e w6 ⟨r, E', rfl, hp, hk6⟩
      obtain ⟨hE', _, h2⟩ := hp
      have e2 : (us.map wrU).map qm = us := HPT.out.2
      rw [e2] at hE' h2
      rw [← HE.out] at hE'
      subst hE'
      obtain ⟨vu', vn', rfl, hsu, hsn⟩ := h2 rfl
      obtain ⟨au', cu', rfl, _⟩ := hsu.val
      obtain ⟨an', cn', rfl, _⟩ := hsn.val
      have HU' := Lib.hid hsu
      have HN' := Lib.hid hsn
      have hbx6 : w6.heap[W.heap.size]? = _ := (hk6.block _ (Array.getElem?_eq_some_iff.1 HX5.out).1).trans HX5.out
      have HK6 := Lib.hid (HK5.out.then hk6)
      have HX6 := Lib.hid ((@heap_alloc_old w6 (.cells #[.int .i64 ((i : Int) + 1), .slice au' us.length cu', .slice an' ns.length cn'] 26) _ (Array.getElem?_eq_some_iff.1 hbx6).1).trans hbx6)
      clear h2 hsu hsn hbx6 hk6 e2
      have c0 := cellq0 HX6.out
      have c1 := cellq1 HX6.out
      have c2 := cellq2 HX6.out
      go_wp2_with fail
      refine Calls.mono (textL_walk i HI.out _ _ us ns T HTX.out (shp_parts HI.out HE.out.symm).1 (shp_parts HI.out HE.out.symm).2.1 (fun u h => by have := HSH.out.1 u h; omega) (fun x h => HSH.out.2.1 x h) _ ?a1 ?a2) ?_
      case a1 => exact HU.out.kp (HK6.out.then (kp_alloc _ _))
      case a2 => exact HN.out.kp (HK6.out.then (kp_alloc _ _))
      rintro e w7 ⟨rfl, hk7⟩
      have hbx7 : w7.heap[W.heap.size]? = _ := (hk7.block _ (Array.getElem?_eq_some_iff.1 HX6.out).1).trans HX6.out
      have hby7 : w7.heap[w6.heap.size]? = some (.cells #[.int .i64 ((i : Int) + 1), .slice au' us.length cu', .slice an' ns.length cn'] 26 (0, 0)) := (hk7.block _ (by simp)).trans (heap_alloc_new w6 _)
      have HK67 := Lib.hid ((kp_alloc w6 _).then hk7)
      clear hk7 c0 c1 c2
      have c0 := cellq0 hbx7
      have c1 := cellq1 hbx7
      have c2 := cellq2 hbx7
      have d0 := cellq0 hby7
      have d1 := cellq1 hby7
      have d2 := cellq2 hby7
      clear hbx7 hby7
      go_wp2_with fail
      refine Calls.mono (sameQ_walk ((i : Int) + 1) ((i : Int) + 1) _ _ _ _ us us ns ns true (by simp) _ ?a1 ?a2 ?a3 ?a4 ?a5 ?a6) ?_
      case a1 => exact HU'.out.kp HK67.out
      case a2 => exact HU.out.kp (HK6.out.then HK67.out)
      case a3 => exact HN'.out.kp HK67.out
      case a4 => exact HN.out.kp (HK6.out.then HK67.out)
      case a5 => have := HSH.out.2.2.1; omega
      case a6 => have := HSH.out.2.2.2; omega
      rintro e w8 ⟨rfl, hk8⟩
      have HK8 := Lib.hid (HK6.out.then (HK67.out.then hk8))
      clear hk8 c0 c1 c2 d0 d1 d2
      go_wp2_with fail
      go_ret
      exact ⟨rfl, HK8.out⟩
end Go.Proofs.YtjcfejncjdhplaaGreatDoor
