/-
  query.Parse: the query of a text.
-/
import Derived.Test.YtjcfejncjdhplaaGreatDoorShpW
import Derived.Test.YtjcfejncjdhplaaGreatDoorBigC
import Derived.Test.YtjcfejncjdhplaaGreatDoorSplW
set_option linter.unusedSectionVars false
set_option linter.unusedVariables false
set_option linter.unusedSimpArgs false
namespace Go.Proofs.YtjcfejncjdhplaaGreatDoor
open Go.RowKit Go Klp
theorem form_pos {k : Int} (h : ¬ (k < 1 ∨ 11 < k)) : 0 < (formI 88 k).length := by
  rcases (show k = 1 ∨ k = 2 ∨ k = 3 ∨ k = 4 ∨ k = 5 ∨ k = 6 ∨ k = 7 ∨ k = 8 ∨ k = 9 ∨ k = 10 ∨ k = 11 by omega) with rfl | rfl | rfl | rfl | rfl | rfl | rfl | rfl | rfl | rfl | rfl <;> decide
set_option maxRecDepth 100000 in
set_option maxHeartbeats 4000000 in
theorem shapeL_no (k : Int) (hk : k < 1 ∨ 11 < k) (ao an : Option Addr) (n1 c1 n2 c2 : Nat) (w : World) :
    Calls Tryz.prog 10 #[.agg #[.int .i64 k, .slice ao n1 c1, .slice an n2 c2]] w fun e w' => e = .returned (.int .i64 12) ∧ Kp w w' := by
  go_enter Tryz.func10, Tryz.ntmps10
  go_wp2_with fail
  refine (form_walk k _).mono ?_
  rintro e w1 ⟨v, rfl, hs, hk1⟩
  rw [formI_no hk] at hs
  obtain ⟨a1, d1, rfl, _⟩ := hs.val
  have HK := Lib.hid hk1
  clear hk1 hs
  rw [List.length_nil]
  go_wp2_with fail
  go_ret
  exact ⟨rfl, (kp_alloc _ _).then HK.out⟩
set_option maxRecDepth 100000 in
set_option maxHeartbeats 4000000 in
theorem shapeL_in (k : Int) (hk : ¬ (k < 1 ∨ 11 < k)) (vu vn : Value) (us ns : List (List UInt8)) (E : Int) (hE : E = shpE k us ns) (hub : ∀ u ∈ us, u.length ≤ 1000) (hnb : ∀ x ∈ ns, x.length ≤ 1000) (w : World) (hu : Sts w vu us) (hn : Sts w vn ns) (hul : us.length ≤ 100000) (hnl : ns.length ≤ 100000) (ht : PTab w) :
    Calls Tryz.prog 10 #[.agg #[.int .i64 k, vu, vn]] w fun e w' => e = .returned (.int .i64 E) ∧ Kp w w' := by
  obtain ⟨au, cu, rfl, hcu⟩ := hu.val
  obtain ⟨an, cn, rfl, hcn⟩ := hn.val
  have HU := Lib.hid hu
  have HN := Lib.hid hn
  have HT := Lib.hid ht
  have HE := Lib.hid hE
  have H0 := Lib.hid hk
  have HB := Lib.hid (And.intro hub hnb)
  have hfp := form_pos hk
  clear hu hn ht hE hub hnb hk
  go_enter Tryz.func10, Tryz.ntmps10
  go_wp2_with fail
  refine (form_walk k _).mono ?_
  rintro e w1 ⟨v, rfl, hs, hk1⟩
  obtain ⟨a1, d1, rfl, _⟩ := hs.val
  have hbx : w1.heap[w.heap.size]? = some (.cells #[.int .i64 k, .slice au us.length cu, .slice an ns.length cn] 26 (0, 0)) := (hk1.block _ (by simp)).trans (heap_alloc_new w _)
  have HK := Lib.hid ((kp_alloc w _).then hk1)
  clear hk1 hs
  obtain ⟨fl, hfl⟩ : ∃ fl, fl = (formI 88 k).length := ⟨_, rfl⟩
  rw [← hfl] at hfp ⊢
  clear hfl
  have hfp2 : ((fl : Int) == 0) = false := by rw [beq_eq_false_iff_ne]; omega
  have g0 : w1.cell? ⟨w.heap.size, 0, none⟩ = some (.int .i64 k) := by rw [Lib.cell_of_heap hbx]; rfl
  have HX := Lib.hid hbx
  clear hbx
  go_wp2_with fail
  refine (counts_walk k _).mono ?_
  rintro e w2 ⟨rfl, hk2⟩
  obtain ⟨nu, hnu⟩ : ∃ nu, nu = cntW [85] (formI 88 k) := ⟨_, rfl⟩
  obtain ⟨nn, hnn⟩ : ∃ nn, nn = cntW [88] (formI 88 k) := ⟨_, rfl⟩
  rw [← hnu, ← hnn]
  have HNU := Lib.hid (And.intro hnu hnn)
  clear hnu hnn g0
  have hbx : w2.heap[w.heap.size]? = _ := (hk2.block _ (Array.getElem?_eq_some_iff.1 HX.out).1).trans HX.out
  have HK2 := Lib.hid (HK.out.then hk2)
  have g1 : w2.cell? ⟨w.heap.size, 1, none⟩ = some (.slice au us.length cu) := by rw [Lib.cell_of_heap hbx]; rfl
  have g2 : w2.cell? ⟨w.heap.size, 2, none⟩ = some (.slice an ns.length cn) := by rw [Lib.cell_of_heap hbx]; rfl
  have HX2 := Lib.hid hbx
  clear hbx hk2 HX HK hfp hfp2
  by_cases hU : us.length = nu
  case neg =>
    have hne : ((us.length : Int) != (nu : Int)) = true := by rw [bne_iff_ne]; omega
    have H5 := Lib.hid (show E = 5 by rw [HE.out]; exact shpE_size H0.out (.inl (by rw [← HNU.out.1]; exact hU)))
    clear hU
    go_wp2_with fail
    go_ret
    exact ⟨by rw [H5.out]; rfl, HK2.out⟩
  have hUe : ((us.length : Int) != (nu : Int)) = false := by rw [bne_eq_false_iff_eq, hU]
  by_cases hN : ns.length = nn
  case neg =>
    have hne : ((ns.length : Int) != (nn : Int)) = true := by rw [bne_iff_ne]; omega
    have H5 := Lib.hid (show E = 5 by rw [HE.out]; exact shpE_size H0.out (.inr (by rw [← HNU.out.2]; exact hN)))
    clear hU hN
    go_wp2_with fail
    go_ret
    exact ⟨by rw [H5.out]; rfl, HK2.out⟩
  have hNe : ((ns.length : Int) != (nn : Int)) = false := by rw [bne_eq_false_iff_eq, hN]
  have HSZ := Lib.hid (show ¬ (us.length ≠ cntW [85] (formI 88 k) ∨ ns.length ≠ cntW [88] (formI 88 k)) by rw [← HNU.out.1, ← HNU.out.2]; omega)
  clear hU hN
  go_wp2_with fail
  clear g1 g2 hUe hNe
  go_loopw [5] (fun t W => ∃ j, j ≤ us.length ∧ t = .int .i64 j ∧ (∀ x ∈ us.take j, badU x = false) ∧ W.heap[w.heap.size]? = some (.cells #[.int .i64 k, .slice au us.length cu, .slice an ns.length cn] 26 (0, 0)) ∧ Kp w W) (fun t _ => 100001 - (intOf t).toNat)
  case atStart => exact ⟨0, Nat.zero_le _, rfl, (fun x h => by simp at h), HX2.out, HK2.out⟩
  case round =>
    obtain ⟨j, hj, rfl, hno, hbx, hk⟩ := hrel
    have HNO := Lib.hid hno
    have g1 : wr.cell? ⟨w.heap.size, 1, none⟩ = some (.slice au us.length cu) := by rw [Lib.cell_of_heap hbx]; rfl
    have HY := Lib.hid hbx
    have HL := Lib.hid hk
    clear hno hbx hk
    by_cases hlt : j < us.length
    · obtain ⟨b, o, rfl⟩ := HU.out.addr (by omega)
      have hc := HU.out.cells HL.out hlt
      have hall := take_all (p := fun x => badU x = false) hlt HNO.out
      have hmem : us[j] ∈ us := List.getElem_mem hlt
      obtain ⟨x, hx⟩ : ∃ x, x = us[j] := ⟨_, rfl⟩
      rw [← hx] at hc hall hmem
      have hxl := HB.out.1 x hmem
      have HM := Lib.hid hmem
      have HA := Lib.hid hall
      clear hx hmem hall
      by_cases hx0 : x = []
      · subst hx0
        have H9 := Lib.hid (HA.out rfl)
        clear HA
        go_wp2_with fail
        go_roundw
        case rel => exact ⟨j + 1, by omega, by go_num, H9.out, HY.out, HL.out⟩
        case measure => simp only [intOf]; omega
      · have hxe : x.isEmpty = false := by
          cases x with
          | nil => exact absurd rfl hx0
          | cons => rfl
        clear hx0
        by_cases hnm : nmB x = true
        · have H9 := Lib.hid (HA.out (by unfold badU; rw [hnm]; simp))
          have HNM := Lib.hid hnm
          clear HA hnm
          go_wp2_with fail
          refine (isName_core x hxl true HNM.out.symm _).mono ?_
          rintro e w6 ⟨rfl, hk6⟩
          have HK6 := Lib.hid hk6
          clear hk6
          go_wp2_with fail
          go_roundw
          case rel => exact ⟨j + 1, by omega, by go_num, H9.out, (HK6.out.block _ (Array.getElem?_eq_some_iff.1 HY.out).1).trans HY.out, HL.out.then HK6.out⟩
          case measure => simp only [intOf]; omega
        · have hnm' : nmB x = false := by simpa using hnm
          have H8 := Lib.hid (show E = 8 by rw [HE.out]; exact shpE_name H0.out HSZ.out HM.out (by unfold badU; rw [hnm', hxe]; rfl))
          have HNM := Lib.hid hnm'
          clear hnm hnm'
          go_wp2_with fail
          refine (isName_core x hxl false HNM.out.symm _).mono ?_
          rintro e w6 ⟨rfl, hk6⟩
          have HK6 := Lib.hid hk6
          clear hk6
          go_wp2_with fail
          go_ret
          exact ⟨by rw [H8.out]; rfl, HL.out.then HK6.out⟩
    · obtain rfl : j = us.length := by omega
      have hno := HNO.out
      rw [List.take_length] at hno
      have HNB := Lib.hid hno
      clear hno HNO
      go_wp2_with fail
      clear g1
      go_loopw [6] (fun t W => ∃ j, j ≤ ns.length ∧ t = .int .i64 j ∧ (∀ x ∈ ns.take j, ratOk x = true) ∧ W.heap[w.heap.size]? = some (.cells #[.int .i64 k, .slice au us.length cu, .slice an ns.length cn] 26 (0, 0)) ∧ Kp w W) (fun t _ => 100001 - (intOf t).toNat)
      case atStart => exact ⟨0, Nat.zero_le _, rfl, (fun x h => by simp at h), HY.out, HL.out⟩
      case round =>
        obtain ⟨j, hj, rfl, hno, hbx, hk⟩ := hrel
        have HNO := Lib.hid hno
        have g2 : wr.cell? ⟨w.heap.size, 2, none⟩ = some (.slice an ns.length cn) := by rw [Lib.cell_of_heap hbx]; rfl
        have HY := Lib.hid hbx
        have HL := Lib.hid hk
        clear hno hbx hk
        by_cases hlt : j < ns.length
        · obtain ⟨b, o, rfl⟩ := HN.out.addr (by omega)
          have hc := HN.out.cells HL.out hlt
          have hall := take_all (p := fun x => ratOk x = true) hlt HNO.out
          have hmem : ns[j] ∈ ns := List.getElem_mem hlt
          obtain ⟨x, hx⟩ : ∃ x, x = ns[j] := ⟨_, rfl⟩
          rw [← hx] at hc hall hmem
          have hxl := HB.out.2 x hmem
          have HM := Lib.hid hmem
          have HA := Lib.hid hall
          clear hx hmem hall
          go_wp2_with fail
          refine (right02_any x hxl _ (HT.out.kp HL.out)).mono ?_
          rintro e w6 ⟨rfl, hk6⟩
          have HK6 := Lib.hid hk6
          clear hk6
          by_cases hr : ratOk x = true
          · have H9 := Lib.hid (HA.out hr)
            rw [hr]
            clear hr HA
            go_wp2_with fail
            go_roundw
            case rel => exact ⟨j + 1, by omega, by go_num, H9.out, (HK6.out.block _ (Array.getElem?_eq_some_iff.1 HY.out).1).trans HY.out, HL.out.then HK6.out⟩
            case measure => simp only [intOf]; omega
          · have hr' : ratOk x = false := by simpa using hr
            have H2 := Lib.hid (show E = 2 by rw [HE.out]; exact shpE_num H0.out HSZ.out HNB.out HM.out hr')
            rw [hr']
            clear hr hr'
            go_wp2_with fail
            go_ret
            exact ⟨by rw [H2.out]; rfl, HL.out.then HK6.out⟩
        · obtain rfl : j = ns.length := by omega
          have hno := HNO.out
          rw [List.take_length] at hno
          have HE0 := Lib.hid (show E = 0 by rw [HE.out]; exact shpE_ok H0.out HSZ.out HNB.out hno)
          clear hno
          go_wp2_with fail
          go_ret
          exact ⟨by rw [HE0.out]; rfl, HL.out⟩
end Go.Proofs.YtjcfejncjdhplaaGreatDoor
namespace Klp
open Go Go.Lib
def prs (ws : List (List UInt8)) : Option (Nat × List (List UInt8) × List (List UInt8)) := (List.range 11).findSome? fun i => (fit 78 (spl (kwB (i + 1))) ws [] []).map fun p => (i, p)
theorem prs_none {ws : List (List UInt8)} (h : ∀ i, i < 11 → fit 78 (spl (kwB (i + 1))) ws [] [] = none) : prs ws = none := by
  unfold prs
  rw [List.findSome?_eq_none_iff]
  intro i hi
  rw [h i (List.mem_range.1 hi)]
  rfl
theorem prs_some {ws : List (List UInt8)} {i : Nat} {p : List (List UInt8) × List (List UInt8)} (hi : i < 11) (h : ∀ j, j < i → fit 78 (spl (kwB (j + 1))) ws [] [] = none) (hp : fit 78 (spl (kwB (i + 1))) ws [] [] = some p) : prs ws = some (i, p) := by
  unfold prs
  have e : List.range 11 = List.range i ++ i :: (List.range' (i + 1) (11 - (i + 1))) := by
    rcases (show i = 0 ∨ i = 1 ∨ i = 2 ∨ i = 3 ∨ i = 4 ∨ i = 5 ∨ i = 6 ∨ i = 7 ∨ i = 8 ∨ i = 9 ∨ i = 10 by omega) with rfl | rfl | rfl | rfl | rfl | rfl | rfl | rfl | rfl | rfl | rfl <;> decide
  rw [e, List.findSome?_append]
  have e1 : (List.range i).findSome? (fun i => (fit 78 (spl (kwB (i + 1))) ws [] []).map fun p => (i, p)) = none := by
    rw [List.findSome?_eq_none_iff]
    intro j hj
    rw [h j (List.mem_range.1 hj)]
    rfl
  rw [e1, List.findSome?_cons, hp]
  rfl
theorem fit_mem {N : UInt8} : ∀ {F W u n u' n' : List (List UInt8)}, fit N F W u n = some (u', n') → (∀ x ∈ u', x ∈ u ∨ x ∈ W) ∧ ∀ x ∈ n', x ∈ n ∨ x ∈ W
  | [], [], u, n, u', n', h => by
    simp only [fit, Option.some.injEq, Prod.mk.injEq] at h
    obtain ⟨rfl, rfl⟩ := h
    exact ⟨fun x hx => .inl hx, fun x hx => .inl hx⟩
  | [], _ :: _, _, _, _, _, h => by simp [fit] at h
  | _ :: _, [], _, _, _, _, h => by simp [fit] at h
  | f :: F, v :: W, u, n, u', n', h => by
    rw [fit] at h
    split at h
    · cases h
    · split at h
      · obtain ⟨h1, h2⟩ := fit_mem h
        refine ⟨fun x hx => ?_, fun x hx => ?_⟩
        · rcases h1 x hx with h | h
          · rcases List.mem_append.1 h with h | h
            · exact .inl h
            · simp at h; subst h; exact .inr (by simp)
          · exact .inr (List.mem_cons_of_mem _ h)
        · rcases h2 x hx with h | h
          · exact .inl h
          · exact .inr (List.mem_cons_of_mem _ h)
      · split at h
        · obtain ⟨h1, h2⟩ := fit_mem h
          refine ⟨fun x hx => ?_, fun x hx => ?_⟩
          · rcases h1 x hx with h | h
            · exact .inl h
            · exact .inr (List.mem_cons_of_mem _ h)
          · rcases h2 x hx with h | h
            · rcases List.mem_append.1 h with h | h
              · exact .inl h
              · simp at h; subst h; exact .inr (by simp)
            · exact .inr (List.mem_cons_of_mem _ h)
        · split at h
          · obtain ⟨h1, h2⟩ := fit_mem h
            refine ⟨fun x hx => ?_, fun x hx => ?_⟩
            · rcases h1 x hx with h | h
              · exact .inl h
              · exact .inr (List.mem_cons_of_mem _ h)
            · rcases h2 x hx with h | h
              · exact .inl h
              · exact .inr (List.mem_cons_of_mem _ h)
          · cases h
theorem spl_mem : ∀ {l x : List UInt8}, x ∈ spl l → x.length ≤ l.length
  | [], x, h => by simp [spl] at h; subst h; simp
  | c :: l, x, h => by
    rw [spl] at h
    have h0 := spl_eq l
    split at h
    · rcases List.mem_cons.1 h with h | h
      · subst h; simp
      · have := spl_mem h; simp; omega
    · rcases List.mem_cons.1 h with h | h
      · subst h
        have : (spl l).headD [] ∈ spl l := by rw [h0]; simp
        have := spl_mem this
        simp only [List.length_cons]; omega
      · have : x ∈ spl l := by rw [h0]; exact List.mem_cons_of_mem _ h
        have := spl_mem this
        simp only [List.length_cons]; omega
end Klp
namespace Go.Proofs.YtjcfejncjdhplaaGreatDoor
open Go.RowKit Go Klp
def PrsP (R : Option (Nat × List (List UInt8) × List (List UInt8))) (r : Value) (E : Int) (W : World) : Prop :=
  match R with
  | none => r = noQ ∧ E = 15
  | some (i, u, n) => E = shpE ((i : Int) + 1) (u.map qm) n ∧ (E ≠ 0 → r = noQ) ∧ (E = 0 → ∃ vu vn, r = .agg #[.int .i64 ((i : Int) + 1), vu, vn] ∧ Sts W vu (u.map qm) ∧ Sts W vn n)
def isStr : Value → Bool
  | .string _ => true
  | _ => false
theorem sts_far {w : World} {v : Value} {l : List (List UInt8)} (h : Sts w v l) {B T : Nat} {cs : Array Value} {fr : Nat × Nat} (hb : w.heap[B]? = some (.cells cs T fr)) (hs : cs.toList.all (fun v => !isStr v) = true) (j : Nat) (u : Value) : Sts (w.setCell ⟨B, j, none⟩ u) v l := by
  obtain ⟨ao, cap, rfl, hc, hn, hx⟩ := h
  refine ⟨ao, cap, rfl, hc, hn, fun hl => ?_⟩
  obtain ⟨b, o, rfl, hcell⟩ := hx hl
  refine ⟨b, o, rfl, fun i hi => ?_⟩
  rw [← hcell i hi]
  refine World.cell?_of_block (a := ⟨b, o + i, Option.none⟩) (Below.heap_setCell _ _ _ _ ?_)
  show b ≠ B
  rintro rfl
  have h1 := hcell i hi
  rw [Lib.cell_of_heap hb] at h1
  have h2 := List.all_eq_true.1 hs (sv l[i]) (by
    rw [← Array.getElem?_toList] at h1
    exact List.mem_of_getElem? h1)
  cases h2
theorem sts_set3 {w3 w4 : World} {B T : Nat} {x0 : Int} {a1 a2 b1 : Option Addr} {n1 n2 c1 c2 m1 d1 : Nat} (hk : Kp w3 w4) (hb : w4.heap[B]? = some (.cells #[.int .i64 x0, .slice a1 n1 c1, .slice a2 n2 c2] T (0, 0))) {v : Value} {l : List (List UInt8)} (h : Sts w3 v l) (y0 : Int) (y2 : Value) :
    Sts (((w4.setCell ⟨B, 0, none⟩ (.int .i64 y0)).setCell ⟨B, 1, none⟩ (.slice b1 m1 d1)).setCell ⟨B, 2, none⟩ y2) v l := by
  have h1 := sts_far (h.kp hk) hb (by rfl) 0 (.int .i64 y0)
  have hb1 : (w4.setCell ⟨B, 0, none⟩ (.int .i64 y0)).heap[B]? = some (.cells #[.int .i64 y0, .slice a1 n1 c1, .slice a2 n2 c2] T (0, 0)) := by simp [World.setCell, Array.getElem?_modify, hb]
  have h2 := sts_far h1 hb1 (by rfl) 1 (.slice b1 m1 d1)
  exact sts_far h2 (set3_cells1 hb1 _) (by rfl) 2 y2
set_option maxRecDepth 100000 in
set_option maxHeartbeats 4000000 in
theorem parse_long (l : List UInt8) (hl : 65536 < l.length) (w : World) : Calls Tryz.prog 6 #[sv l] w fun e w' => e = .returned (.tuple #[noQ, .int .i64 16]) ∧ Kp w w' := by
  have hsz : (⟨l.toArray⟩ : ByteArray).size = l.length := size_mk l
  have hl2 : (65536 : Int) < (l.length : Int) := by omega
  go_enter Tryz.func6, Tryz.ntmps6
  go_wp2_with fail
  refine bodyPost_ret (results_cellT (t := 2) (u := 3) (ty := 26) rfl rfl (heap_alloc_new w _) Tryz.underlying26 rfl (by kernel_rfl) rfl) rfl ?_
  exact ⟨rfl, kp_alloc _ _⟩
set_option maxRecDepth 100000 in
set_option maxHeartbeats 4000000 in
theorem parse_walk (l : List UInt8) (hl : l.length ≤ 800) (R : Option (Nat × List (List UInt8) × List (List UInt8))) (hR : R = prs (spl l)) (w : World) (ht : PTab w) :
    Calls Tryz.prog 6 #[sv l] w fun e w' => ∃ r E, e = .returned (.tuple #[r, .int .i64 E]) ∧ PrsP R r E w' ∧ Kp w w' := by
  have HR := Lib.hid hR
  have HT := Lib.hid ht
  clear hR ht
  have hsz : (⟨l.toArray⟩ : ByteArray).size = l.length := size_mk l
  have hl2 : ¬ (65536 : Int) < (l.length : Int) := by omega
  go_enter Tryz.func6, Tryz.ntmps6
  go_wp2_with fail
  refine (split_walk l (by omega) _).mono ?_
  rintro e w1 ⟨rfl, hr, hk1⟩
  have hwl : (spl l).length ≤ 801 := Nat.le_trans (spl_len l) (by omega)
  have hwm : ∀ x ∈ spl l, x.length ≤ 800 := fun x hx => Nat.le_trans (spl_mem hx) hl
  obtain ⟨ws, hws⟩ : ∃ ws, ws = spl l := ⟨_, rfl⟩
  rw [← hws] at hr hwl hwm ⊢
  have HWS := Lib.hid hws
  have HWM := Lib.hid hwm
  have h0 : w1.heap[w.heap.size]? = some (.cells #[.int .i64 0, .slice none 0 0, .slice none 0 0] 26 (0, 0)) := (hk1.block _ (by simp)).trans (heap_alloc_new w _)
  have hst : Sts w1 (.slice (some ⟨w.heap.size + 1, 0, none⟩) ws.length ws.length) ws := by
    have h := hr.sts (Nat.le_refl _)
    rw [show (w.alloc (.cells #[.int .i64 0, .slice none 0 0, .slice none 0 0] 26)).heap.size = w.heap.size + 1 from by simp] at h
    exact h
  have HK := Lib.hid ((kp_alloc w _).then hk1)
  have HST := Lib.hid hst
  have HZ := Lib.hid h0
  clear hws hwm hr hk1 hst h0 hsz hl2
  go_wp2_with fail
  refine (kinds_walk _).mono ?_
  rintro e w2 ⟨g, cs, rfl, hg, hcs, hk2⟩
  have HCS := Lib.hid hcs
  have HG := Lib.hid hg
  have HK2 := Lib.hid (HK.out.then hk2)
  have HST2 := Lib.hid (HST.out.kp hk2)
  have HZ2 := Lib.hid ((hk2.block _ (Array.getElem?_eq_some_iff.1 HZ.out).1).trans HZ.out)
  clear hg hcs hk2 HK HST HZ
  go_wp2_with fail
  go_loopw [18] (fun t W => ∃ i : Nat, i ≤ 11 ∧ t = .int .i64 i ∧ Kp w2 W ∧ ∀ j, j < i → fit 78 (spl (kwB (j + 1))) ws [] [] = none) (fun t _ => 12 - (intOf t).toNat)
  case atStart => exact ⟨0, by omega, rfl, Kp.refl _, fun j h => absurd h (by omega)⟩
  case round =>
    obtain ⟨i, hi, rfl, hk, hno⟩ := hrel
    have HL := Lib.hid hk
    have HNO := Lib.hid hno
    clear hk hno
    have hzr : wr.heap[w.heap.size]? = some (.cells #[.int .i64 0, .slice none 0 0, .slice none 0 0] 26 (0, 0)) := (HL.out.block _ (Array.getElem?_eq_some_iff.1 HZ2.out).1).trans HZ2.out
    have HZR := Lib.hid hzr
    clear hzr
    by_cases hlt : i < 11
    · have hgr : wr.heap[g]? = some (.cells cs 62 (0, 0)) := (HL.out.block _ (Array.getElem?_eq_some_iff.1 HG.out).1).trans HG.out
      obtain ⟨hz0, ⟨fn, fa, fb, hz1⟩, ⟨sa, sn, sc, hz2⟩⟩ := HCS.out i hlt
      have d0 : wr.cell? ⟨g, i * 3, none⟩ = some (sv (kwB (i + 1))) := by rw [Lib.cell_of_heap hgr, Nat.mul_comm]; exact hz0
      have d1 : wr.cell? ⟨g, i * 3 + 1, none⟩ = some (.func fn fa fb) := by rw [Lib.cell_of_heap hgr, Nat.mul_comm]; exact hz1
      have d2 : wr.cell? ⟨g, i * 3 + 2, none⟩ = some (.slice sa sn sc) := by rw [Lib.cell_of_heap hgr, Nat.mul_comm]; exact hz2
      clear hz0 hz1 hz2 hgr
      have hkl := kwB_len hlt
      go_wp2_with fail
      refine (read_walk ((i : Int) + 1) (kwB (i + 1)) _ _ _ ws _ rfl (by omega) _ (HST2.out.kp (HL.out.then (kp_alloc _ _))) (by omega)).mono ?_
      rintro e w3 ⟨r, b, rfl, hrd, hk3⟩
      obtain ⟨Fi, hFi⟩ : ∃ Fi, Fi = fit 78 (spl (kwB (i + 1))) ws [] [] := ⟨_, rfl⟩
      rw [← hFi] at hrd
      have HF := Lib.hid hFi
      have hkw3 : Kp w2 w3 := HL.out.then ((kp_alloc _ _).then hk3)
      have HL3 := Lib.hid hkw3
      have hz3 : w3.heap[w.heap.size]? = some (.cells #[.int .i64 0, .slice none 0 0, .slice none 0 0] 26 (0, 0)) := (hkw3.block _ (Array.getElem?_eq_some_iff.1 HZ2.out).1).trans HZ2.out
      have HZ3 := Lib.hid hz3
      clear hFi hk3 hkw3 hz3 d0 d1 d2
      cases Fi with
      | none =>
        obtain ⟨rfl, rfl⟩ := hrd
        go_wp2_with fail
        go_roundw
        case rel => exact ⟨i + 1, by omega, by go_num, HL3.out.then (kp_alloc _ _), fun j hj => by
          by_cases h : j < i
          · exact HNO.out j h
          · obtain rfl : j = i := by omega
            exact HF.out.symm⟩
        case measure => simp only [intOf]; omega
      | some p =>
        obtain ⟨u, n⟩ := p
        obtain ⟨rfl, vu, vn, rfl, hu, hn⟩ := hrd
        obtain ⟨au, cu, rfl, hcu⟩ := hu.val
        obtain ⟨an, cn, rfl, hcn⟩ := hn.val
        have hfm := fit_mem HF.out.symm
        have hub : ∀ x ∈ u.map qm, x.length ≤ 1000 := fun x hx => by
          obtain ⟨y, hy, rfl⟩ := List.mem_map.1 hx
          have h1 := (hfm.1 y hy).resolve_left (by simp)
          have h2 := HWM.out y h1
          unfold qm
          split
          · simp
          · omega
        have hnb : ∀ x ∈ n, x.length ≤ 900 := fun x hx => by
          have h1 := (hfm.2 x hx).resolve_left (by simp)
          have h2 := HWM.out x h1
          omega
        have HRR := Lib.hid (show R = some (i, u, n) by rw [HR.out, ← HWS.out]; exact prs_some hlt HNO.out HF.out.symm)
        rw [List.length_map] at hu
        have HU := Lib.hid hu
        have HN := Lib.hid hn
        have HBB := Lib.hid (And.intro hub hnb)
        clear hu hn hub hnb hfm
        go_wp2_with fail
        obtain ⟨E, hE⟩ : ∃ E, E = shpE ((i : Int) + 1) (u.map qm) n := ⟨_, rfl⟩
        refine Calls.mono (shapeQ_in i hlt _ _ (u.map qm) n E hE HBB.out.1 HBB.out.2 _ ?a1 ?a2 ?a3) ?_
        case a1 => exact HU.out.kp (kp_alloc _ _)
        case a2 => exact HN.out.kp (kp_alloc _ _)
        case a3 => exact HT.out.kp (HK2.out.then (HL3.out.then (kp_alloc _ _)))
        rintro e w4 ⟨rfl, hk4⟩
        have HE := Lib.hid hE
        have hq4 : w4.heap[w3.heap.size]? = some (.cells #[.int .i64 ((i : Int) + 1), .slice au u.length cu, .slice an n.length cn] 26 (0, 0)) := (hk4.block _ (by simp)).trans (heap_alloc_new w3 _)
        have hz4 : w4.heap[w.heap.size]? = some (.cells #[.int .i64 0, .slice none 0 0, .slice none 0 0] 26 (0, 0)) := (hk4.block _ (by have := (Array.getElem?_eq_some_iff.1 HZ3.out).1; simp; omega)).trans ((@heap_alloc_old _ _ _ (Array.getElem?_eq_some_iff.1 HZ3.out).1).trans HZ3.out)
        have z0 : w4.cell? ⟨w.heap.size, 0, none⟩ = some (.int .i64 0) := by rw [Lib.cell_of_heap hz4]; rfl
        have z1 : w4.cell? ⟨w.heap.size, 1, none⟩ = some (.slice none 0 0) := by rw [Lib.cell_of_heap hz4]; rfl
        have z2 : w4.cell? ⟨w.heap.size, 2, none⟩ = some (.slice none 0 0) := by rw [Lib.cell_of_heap hz4]; rfl
        have zf : ∀ j, w4.frozen? ⟨w.heap.size, j, none⟩ = false := fun j => Lib.frozen_of_heap hz4 j
        have q0 : w4.cell? ⟨w3.heap.size, 0, none⟩ = some (.int .i64 ((i : Int) + 1)) := by rw [Lib.cell_of_heap hq4]; rfl
        have q1 : w4.cell? ⟨w3.heap.size, 1, none⟩ = some (.slice au u.length cu) := by rw [Lib.cell_of_heap hq4]; rfl
        have q2 : w4.cell? ⟨w3.heap.size, 2, none⟩ = some (.slice an n.length cn) := by rw [Lib.cell_of_heap hq4]; rfl
        have HZ4 := Lib.hid hz4
        have HK34 := Lib.hid ((kp_alloc w3 _).then hk4)
        have hws4 : w.heap.size ≤ w4.heap.size := Nat.le_of_lt (Array.getElem?_eq_some_iff.1 hz4).1
        have HK4 := Lib.hid (HK2.out.then (HL3.out.then ((kp_alloc w3 _).then hk4)))
        clear hE hk4 hq4 hz4
        by_cases hE0 : E = 0
        · have HE0 := Lib.hid hE0
          subst hE0
          go_wp2_with fail
          refine bodyPost_ret (results_cellT (t := 2) (u := 3) (ty := 26) rfl rfl (set3_zero HZ4.out _ _ _) Tryz.underlying26 rfl (by kernel_rfl) rfl) rfl ?_
          refine ⟨_, _, rfl, ?_, kp_set3 HK4.out (Nat.le_refl _) _ _ _⟩
          rw [HRR.out]
          refine ⟨HE.out, fun h => absurd rfl h, fun _ => ⟨_, _, rfl, ?_, ?_⟩⟩
          · exact sts_set3 HK34.out HZ4.out HU.out _ _
          · exact sts_set3 HK34.out HZ4.out HN.out _ _
        · have hEb : (E != 0) = true := by rw [bne_iff_ne]; exact hE0
          have HE0 := Lib.hid hE0
          clear hE0
          go_wp2_with fail
          refine bodyPost_ret (results_cellT (t := 2) (u := 3) (ty := 26) rfl rfl (set3_zero HZ4.out _ _ _) Tryz.underlying26 rfl (by kernel_rfl) rfl) rfl ?_
          refine ⟨_, _, rfl, ?_, kp_set3 HK4.out (Nat.le_refl _) _ _ _⟩
          rw [HRR.out]
          exact ⟨HE.out, fun _ => rfl, fun h => absurd h HE0.out⟩
    · obtain rfl : i = 11 := by omega
      have HRR := Lib.hid (show R = none by rw [HR.out, ← HWS.out]; exact prs_none HNO.out)
      have z0 : wr.cell? ⟨w.heap.size, 0, none⟩ = some (.int .i64 0) := by rw [Lib.cell_of_heap HZR.out]; rfl
      have z1 : wr.cell? ⟨w.heap.size, 1, none⟩ = some (.slice none 0 0) := by rw [Lib.cell_of_heap HZR.out]; rfl
      have z2 : wr.cell? ⟨w.heap.size, 2, none⟩ = some (.slice none 0 0) := by rw [Lib.cell_of_heap HZR.out]; rfl
      have zf : ∀ j, wr.frozen? ⟨w.heap.size, j, none⟩ = false := fun j => Lib.frozen_of_heap HZR.out j
      go_wp2_with fail
      refine bodyPost_ret (results_cellT (t := 2) (u := 3) (ty := 26) rfl rfl (set3_zero HZR.out _ _ _) Tryz.underlying26 rfl (by kernel_rfl) rfl) rfl ?_
      refine ⟨_, _, rfl, by rw [HRR.out]; exact ⟨rfl, rfl⟩, kp_set3 (HK2.out.then HL.out) (Nat.le_refl _) _ _ _⟩
end Go.Proofs.YtjcfejncjdhplaaGreatDoor
