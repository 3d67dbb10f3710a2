/-
  query.Text: the text of a query.
-/
import Derived.Test.YtjcfejncjdhplaaGreatDoorSamqW
import Derived.Lib.Join
import Derived.Test.YtjcfejncjdhplaaGreatDoorSplW
import Derived.Test.YtjcfejncjdhplaaGreatDoorParW
set_option linter.unusedSectionVars false
set_option linter.unusedVariables false
set_option linter.unusedSimpArgs false
namespace Klp
open Go Go.Lib
def wrU (u : List UInt8) : List UInt8 := if u = [] then [63] else u
def fill (N : UInt8) : List (List UInt8) → List (List UInt8) → List (List UInt8) → List (List UInt8)
  | [], _, _ => []
  | f :: F, us, ns => if f = [85] then wrU (us.headD []) :: fill N F us.tail ns else if f = [N] then ns.headD [] :: fill N F us ns.tail else f :: fill N F us ns
theorem fill_len (N : UInt8) : ∀ (F us ns : List (List UInt8)), (fill N F us ns).length = F.length
  | [], _, _ => rfl
  | f :: F, us, ns => by
    rw [fill]
    split
    · simp [fill_len N F]
    · split <;> simp [fill_len N F]
theorem fill_mem {N : UInt8} : ∀ {F us ns : List (List UInt8)} {x : List UInt8}, x ∈ fill N F us ns → cntW [85] F = us.length → cntW [N] F = ns.length → N ≠ 85 → x ∈ F ∨ (∃ u ∈ us, x = wrU u) ∨ x ∈ ns
  | [], _, _, x, h, _, _, _ => by simp [fill] at h
  | f :: F, us, ns, x, h, hu, hn, hN => by
    rw [fill] at h
    by_cases hf : f = [85]
    · subst hf
      rw [if_pos rfl] at h
      have e1 : cntW [85] ([85] :: F) = cntW [85] F + 1 := by simp [cntW]
      have e2 : cntW [N] ([85] :: F) = cntW [N] F := by simp [cntW, Ne.symm hN]
      cases us with
      | nil => rw [e1] at hu; simp at hu
      | cons u us =>
        rcases List.mem_cons.1 h with h | h
        · subst h; exact .inr (.inl ⟨u, by simp, rfl⟩)
        · rcases fill_mem h (by simp at hu ⊢; omega) (by omega) hN with h | ⟨v, hv, h⟩ | h
          · exact .inl (List.mem_cons_of_mem _ h)
          · exact .inr (.inl ⟨v, List.mem_cons_of_mem _ hv, h⟩)
          · exact .inr (.inr h)
    · rw [if_neg hf] at h
      have e1 : cntW [85] (f :: F) = cntW [85] F := by simp [cntW, hf]
      by_cases hg : f = [N]
      · subst hg
        rw [if_pos rfl] at h
        have e2 : cntW [N] ([N] :: F) = cntW [N] F + 1 := by simp [cntW]
        cases ns with
        | nil => rw [e2] at hn; simp at hn
        | cons n ns =>
          rcases List.mem_cons.1 h with h | h
          · subst h; exact .inr (.inr (by simp))
          · rcases fill_mem h (by omega) (by simp at hn ⊢; omega) hN with h | ⟨v, hv, h⟩ | h
            · exact .inl (List.mem_cons_of_mem _ h)
            · exact .inr (.inl ⟨v, hv, h⟩)
            · exact .inr (.inr (List.mem_cons_of_mem _ h))
      · rw [if_neg hg] at h
        have e2 : cntW [N] (f :: F) = cntW [N] F := by simp [cntW, hg]
        rcases List.mem_cons.1 h with h | h
        · subst h; exact .inl (by simp)
        · rcases fill_mem h (by omega) (by omega) hN with h | h
          · exact .inl (List.mem_cons_of_mem _ h)
          · exact .inr h
theorem wrU_ne (u : List UInt8) : wrU u ≠ [] := by unfold wrU; split <;> simp_all
theorem fit_fill {N : UInt8} (hN : N ≠ 85) : ∀ {F us ns : List (List UInt8)} (U V : List (List UInt8)), cntW [85] F = us.length → cntW [N] F = ns.length → (∀ f ∈ F, f ≠ []) → (∀ x ∈ ns, x ≠ []) → fit N F (fill N F us ns) U V = some (U ++ us.map wrU, V ++ ns)
  | [], us, ns, U, V, hu, hn, _, _ => by
    cases us with
    | nil =>
      cases ns with
      | nil => simp [fill, fit]
      | cons => simp [cntW] at hn
    | cons => simp [cntW] at hu
  | f :: F, us, ns, U, V, hu, hn, hF, hx => by
    have hF' := fun x hx => hF x (List.mem_cons_of_mem _ hx)
    rw [fill]
    by_cases hf : f = [85]
    · subst hf
      rw [if_pos rfl, fit, if_neg (wrU_ne _), if_pos rfl]
      have e1 : cntW [85] ([85] :: F) = cntW [85] F + 1 := by simp [cntW]
      have e2 : cntW [N] ([85] :: F) = cntW [N] F := by simp [cntW, Ne.symm hN]
      cases us with
      | nil => rw [e1] at hu; simp at hu
      | cons u us =>
        simp only [List.headD_cons, List.tail_cons]
        rw [fit_fill hN _ _ (by simp at hu ⊢; omega) (by omega) hF' hx]
        simp
    · have e1 : cntW [85] (f :: F) = cntW [85] F := by simp [cntW, hf]
      rw [if_neg hf]
      by_cases hg : f = [N]
      · subst hg
        have e2 : cntW [N] ([N] :: F) = cntW [N] F + 1 := by simp [cntW]
        cases ns with
        | nil => rw [e2] at hn; simp at hn
        | cons n ns =>
          rw [if_pos rfl]
          simp only [List.headD_cons, List.tail_cons]
          rw [fit, if_neg (hx n (by simp)), if_neg hf, if_pos rfl, fit_fill hN _ _ (by omega) (by simp at hn ⊢; omega) hF' (fun x h => hx x (List.mem_cons_of_mem _ h))]
          simp
      · have e2 : cntW [N] (f :: F) = cntW [N] F := by simp [cntW, hg]
        rw [if_neg hg, fit, if_neg (hF f (by simp)), if_neg hf, if_neg hg, if_pos rfl, fit_fill hN _ _ (by omega) (by omega) hF' hx]
def kwH (i : Nat) : List UInt8 := (spl (kwB (i + 1))).headD []
theorem kwH_ne : ∀ i, i < 11 → ∀ j, j < i → kwH i ≠ kwH j := by decide
theorem kwH_lit : ∀ i, i < 11 → kwH i ≠ [] ∧ kwH i ≠ [85] ∧ kwH i ≠ [78] := by decide
theorem kw_lit : ∀ i, i < 11 → ∀ f ∈ spl (kwB (i + 1)), f ≠ [] ∧ f.length ≤ 40 ∧ ∀ c ∈ f, c ≠ 32 := by decide
theorem kw_nine : ∀ i, i < 11 → (spl (kwB (i + 1))).length ≤ 9 := by decide
theorem fit_other {i j : Nat} (hi : i < 11) (hj : j < i) (us ns : List (List UInt8)) : fit 78 (spl (kwB (j + 1))) (fill 78 (spl (kwB (i + 1))) us ns) [] [] = none := by
  have h1 := kwH_lit i hi
  have h2 := kwH_lit j (by omega)
  have h3 := kwH_ne i hi j hj
  rw [spl_eq (kwB (i + 1)), spl_eq (kwB (j + 1))]
  show fit 78 (kwH j :: _) (fill 78 (kwH i :: _) us ns) [] [] = none
  rw [fill, if_neg h1.2.1, if_neg h1.2.2, fit, if_neg h1.1, if_neg h2.2.1, if_neg h2.2.2, if_neg (Ne.symm h3)]
theorem prs_fill {i : Nat} (hi : i < 11) {us ns : List (List UInt8)} (hu : cntW [85] (spl (kwB (i + 1))) = us.length) (hn : cntW [78] (spl (kwB (i + 1))) = ns.length) (hx : ∀ x ∈ ns, x ≠ []) : prs (fill 78 (spl (kwB (i + 1))) us ns) = some (i, us.map wrU, ns) :=
  prs_some hi (fun j hj => fit_other hi hj us ns) (by rw [fit_fill (by decide) [] [] hu hn (fun f hf => (kw_lit i hi f hf).1) hx]; simp)
theorem chk_no {s : List UInt8} (h : chk s = true) : s ≠ [] ∧ ∀ c ∈ s, c ≠ 32 := by
  unfold chk canB at h
  rw [Bool.and_eq_true, Bool.and_eq_true] at h
  obtain ⟨⟨h1, h2⟩, _⟩ := h
  have hd : ∀ c ∈ (splM s).2, c ≠ 32 := fun c hc e => by
    have := List.all_eq_true.1 h1 c hc
    rw [e] at this
    exact absurd this (by decide)
  cases s with
  | nil => simp [splM] at h2
  | cons a r =>
    refine ⟨by simp, fun c hc => ?_⟩
    by_cases ha : a = 45
    · subst ha
      simp [splM] at hd
      rcases List.mem_cons.1 hc with rfl | hc
      · decide
      · exact hd c hc
    · simp [splM, ha] at hd
      rcases List.mem_cons.1 hc with rfl | hc
      · exact hd.1
      · exact hd.2 c hc
theorem index_is : ∀ {l : List UInt8} {k : Nat}, indexByte l 47 = (k : Int) → l = l.take k ++ 47 :: l.drop (k + 1)
  | [], k, h => by simp [indexByte] at h
  | b :: l, k, h => by
    rw [indexByte] at h
    by_cases hb : b = 47
    · subst hb
      simp at h
      obtain rfl : k = 0 := by omega
      simp
    · rw [if_neg (by simpa using hb)] at h
      by_cases hm : indexByte l 47 = -1
      · rw [hm] at h; simp at h
      · rw [if_neg (by simpa using hm)] at h
        cases k with
        | zero => have := indexByte_ge l 47; omega
        | succ k =>
          have := index_is (l := l) (k := k) (by omega)
          simp only [List.take_succ_cons, List.drop_succ_cons, List.cons_append]
          rw [← this]
theorem rat_no {s : List UInt8} (h : ratOk s = true) : s ≠ [] ∧ ∀ c ∈ s, c ≠ 32 := by
  unfold ratOk at h
  split at h
  · exact chk_no h
  · rename_i hk
    obtain ⟨k, hk⟩ : ∃ k : Nat, indexByte s 47 = (k : Int) := ⟨(indexByte s 47).toNat, by omega⟩
    rw [hk] at h
    simp only [qchk, Bool.and_eq_true, Int.toNat_natCast] at h
    obtain ⟨⟨⟨⟨h1, h2⟩, _⟩, _⟩, _⟩ := h
    have e := index_is hk
    refine ⟨by rw [e]; simp, ?_⟩
    rw [e]
    intro c hc
    rcases List.mem_append.1 hc with hc | hc
    · exact (chk_no h1).2 c hc
    · rcases List.mem_cons.1 hc with rfl | hc
      · decide
      · exact (chk_no h2).2 c hc
theorem nm_no {s : List UInt8} (h : nmB s = true) : (∀ c ∈ s, c ≠ 32) ∧ s ≠ [63] := by
  unfold nmB at h
  rw [Bool.and_eq_true, Bool.and_eq_true] at h
  refine ⟨fun c hc e => ?_, fun e => by rw [e] at h; exact absurd h.2 (by decide)⟩
  subst e
  obtain ⟨k, hk, e⟩ := List.mem_iff_getElem.1 hc
  have := nmAll_no hk (by rw [e]; unfold okAt; cases k <;> simp <;> decide)
  rw [this] at h
  exact absurd h.2 (by decide)
theorem wr_no {u : List UInt8} (h : badU u = false) : (∀ c ∈ wrU u, c ≠ 32) ∧ qmP (wrU u) = u := by
  unfold wrU
  split
  · rename_i e; subst e; exact ⟨by decide, by decide⟩
  · rename_i e
    have hn : nmB u = true := by
      unfold badU at h
      cases u with
      | nil => exact absurd rfl e
      | cons => simpa using h
    obtain ⟨h1, h2⟩ := nm_no hn
    exact ⟨h1, by unfold qmP; rw [if_neg h2]⟩
theorem wr_len {u : List UInt8} (h : u.length ≤ 40) : (wrU u).length ≤ 40 := by unfold wrU; split <;> first | exact h | decide
theorem jn_len {l : List (List UInt8)} (h : ∀ w ∈ l, w.length ≤ 40) : (jn l).length ≤ 41 * l.length := by
  induction l with
  | nil => simp [jn]
  | cons w ws ih =>
    have h0 := h w (by simp)
    have h1 := ih fun x hx => h x (List.mem_cons_of_mem _ hx)
    cases ws with
    | nil => simp [jn]; omega
    | cons v vs => simp [jn] at h1 ⊢; omega
theorem jn_snoc : ∀ {l : List (List UInt8)} (w : List UInt8), jn (l ++ [w]) = if l = [] then w else jn l ++ 32 :: w
  | [], w => by simp [jn]
  | [x], w => by simp [jn]
  | x :: y :: l, w => by
    have := jn_snoc (l := y :: l) w
    simp [jn] at this ⊢
    rw [this]
theorem jn_join : ∀ l : List (List UInt8), Lib.join l [32] = jn l
  | [] => rfl
  | [x] => Lib.join_one x _
  | x :: y :: l => by
    have := jn_join (y :: l)
    rw [Lib.join_cons] at this ⊢
    rw [jn, ← this]
    simp [Lib.joinTail]
theorem fill_sw : ∀ (F us ns : List (List UInt8)), (∀ f ∈ F, f ≠ [88]) → fill 78 F us ns = fill 88 (F.map sw) us ns
  | [], _, _, _ => rfl
  | f :: F, us, ns, h => by
    have hf := h f (by simp)
    have ih := fun us ns => fill_sw F us ns (fun x hx => h x (List.mem_cons_of_mem _ hx))
    rw [List.map_cons, fill, fill]
    by_cases hU : f = [85]
    · subst hU
      rw [if_pos rfl, if_pos (by decide), ih]
    · by_cases hN : f = [78]
      · subst hN
        rw [if_neg (by decide), if_pos rfl, if_neg (by decide), if_pos (by decide), ih]
      · have e : sw f = f := by unfold sw; rw [if_neg hN]
        rw [if_neg hU, if_neg hN, e, if_neg hU, if_neg hf, ih]
theorem fill_ref {i : Nat} (h : i < 11) (us ns : List (List UInt8)) : fill 88 (formI 88 ((i : Int) + 1)) us ns = fill 78 (spl (kwB (i + 1))) us ns := by
  have e : formI 88 ((i : Int) + 1) = formN 88 (i + 1) := by
    unfold formI
    rw [if_pos (by omega)]
    rfl
  obtain ⟨h1, h2⟩ := formN_sw (k := i + 1) (by omega) (by omega)
  rw [e, kw_spl _ (by omega) (by omega), fill_sw _ _ _ h2, h1]
def txt (i : Nat) (us ns : List (List UInt8)) : List UInt8 := jn (fill 78 (spl (kwB (i + 1))) us ns)
theorem shp_parts {i : Nat} (hi : i < 11) {us ns : List (List UInt8)} (h : shpE ((i : Int) + 1) us ns = 0) : cntW [85] (spl (kwB (i + 1))) = us.length ∧ cntW [78] (spl (kwB (i + 1))) = ns.length ∧ (∀ u ∈ us, badU u = false) ∧ ∀ x ∈ ns, ratOk x = true := by
  unfold shpE at h
  rw [if_neg (by omega)] at h
  rw [cnt_U hi, cnt_N hi]
  split at h
  · cases h
  · rename_i h1
    split at h
    · cases h
    · rename_i h2
      split at h
      · cases h
      · rename_i h3
        refine ⟨by omega, by omega, fun u hu => ?_, fun x hx => ?_⟩
        · cases hb : badU u with
          | false => rfl
          | true => exact absurd (List.any_eq_true.2 ⟨u, hu, hb⟩) h2
        · cases hb : ratOk x with
          | true => rfl
          | false => exact absurd (List.any_eq_true.2 ⟨x, hx, by rw [hb]; rfl⟩) h3
theorem prs_txt {i : Nat} (hi : i < 11) {us ns : List (List UInt8)} (h : shpE ((i : Int) + 1) us ns = 0) : prs (spl (txt i us ns)) = some (i, us.map wrU, ns) ∧ (us.map wrU).map qmP = us := by
  obtain ⟨h1, h2, h3, h4⟩ := shp_parts hi h
  have hne : fill 78 (spl (kwB (i + 1))) us ns ≠ [] := by
    intro e
    have := fill_len 78 (spl (kwB (i + 1))) us ns
    rw [e] at this
    exact spl_ne _ (List.length_eq_zero_iff.1 this.symm)
  have hb : ∀ w ∈ fill 78 (spl (kwB (i + 1))) us ns, ∀ c ∈ w, c ≠ 32 := fun w hw => by
    rcases fill_mem hw h1 h2 (by decide) with h | ⟨u, hu, rfl⟩ | h
    · exact (kw_lit i hi w h).2.2
    · exact (wr_no (h3 u hu)).1
    · exact (rat_no (h4 w h)).2
  refine ⟨?_, ?_⟩
  · unfold txt
    rw [spl_jn hne hb, prs_fill hi h1 h2 fun x hx => (rat_no (h4 x hx)).1]
  · rw [List.map_map]
    conv => rhs; rw [← List.map_id us]
    exact List.map_congr_left fun u hu => (wr_no (h3 u hu)).2
theorem txt_len {i : Nat} (hi : i < 11) {us ns : List (List UInt8)} (h : shpE ((i : Int) + 1) us ns = 0) (hu : ∀ u ∈ us, u.length ≤ 40) (hn : ∀ x ∈ ns, x.length ≤ 40) : (txt i us ns).length ≤ 400 := by
  obtain ⟨h1, h2, _, _⟩ := shp_parts hi h
  have h9 := kw_nine i hi
  have := jn_len (l := fill 78 (spl (kwB (i + 1))) us ns) fun w hw => by
    rcases fill_mem hw h1 h2 (by decide) with h | ⟨u, hu', rfl⟩ | h
    · exact (kw_lit i hi w h).2.1
    · exact wr_len (hu u hu')
    · exact hn w h
  rw [fill_len] at this
  unfold txt
  omega
theorem fill_stepU {N : UInt8} {F us ns : List (List UInt8)} {a : Nat} (h : a < us.length) : fill N ([85] :: F) (us.drop a) ns = wrU us[a] :: fill N F (us.drop (a + 1)) ns := by
  rw [fill, if_pos rfl, List.drop_eq_getElem_cons h]
  rfl
theorem fill_stepN {N : UInt8} (hN : N ≠ 85) {F us ns : List (List UInt8)} {b : Nat} (h : b < ns.length) : fill N ([N] :: F) us (ns.drop b) = ns[b] :: fill N F us (ns.drop (b + 1)) := by
  rw [fill, if_neg (by simpa using hN), if_pos rfl, List.drop_eq_getElem_cons h]
  rfl
theorem fill_stepL {N : UInt8} {f : List UInt8} {F us ns : List (List UInt8)} (h1 : f ≠ [85]) (h2 : f ≠ [N]) : fill N (f :: F) us ns = f :: fill N F us ns := by
  rw [fill, if_neg h1, if_neg h2]
theorem cnt_hit (x : List UInt8) (F : List (List UInt8)) : cntW x (x :: F) = cntW x F + 1 := by simp [cntW]
theorem cnt_miss {x f : List UInt8} (h : f ≠ x) (F : List (List UInt8)) : cntW x (f :: F) = cntW x F := by simp [cntW, h]
end Klp
namespace Go.Proofs.YtjcfejncjdhplaaGreatDoor
open Go.RowKit Go Klp
theorem wrU_some {u : List UInt8} (h : u ≠ []) : u.isEmpty = false ∧ wrU u = u := by
  refine ⟨?_, by unfold wrU; rw [if_neg h]⟩
  cases u with
  | nil => exact absurd rfl h
  | cons => rfl
set_option maxRecDepth 100000 in
theorem word_walk (u : List UInt8) (w : World) : Calls Tryz.prog 31 #[sv u] w fun e w' => e = .returned (sv (wrU u)) ∧ Kp w w' := by
  by_cases h : u = []
  · subst h
    go_enter Tryz.func31, Tryz.ntmps31
    go_wp2_with fail
    go_ret
    exact ⟨rfl, Kp.refl _⟩
  · obtain ⟨he, h1⟩ := wrU_some h
    have H1 := Lib.hid h1
    clear h h1
    go_enter Tryz.func31, Tryz.ntmps31
    go_wp2_with fail
    go_ret
    exact ⟨by rw [H1.out]; rfl, Kp.refl _⟩
set_option maxRecDepth 100000 in
theorem shown_walk (u : List UInt8) (w : World) : Calls Tryz.prog 26 #[sv u] w fun e w' => e = .returned (sv (wrU u)) ∧ Kp w w' := by
  by_cases h : u = []
  · subst h
    go_enter Tryz.func26, Tryz.ntmps26
    go_wp2_with fail
    go_ret
    exact ⟨rfl, Kp.refl _⟩
  · obtain ⟨he, h1⟩ := wrU_some h
    have H1 := Lib.hid h1
    clear h h1
    go_enter Tryz.func26, Tryz.ntmps26
    go_wp2_with fail
    go_ret
    exact ⟨by rw [H1.out]; rfl, Kp.refl _⟩
def shB (us ns : List (List UInt8)) : Bool := us.all (fun x => decide (x.length ≤ 36)) && ns.all (fun x => decide (x.length ≤ 40)) && decide (us.length ≤ 3) && decide (ns.length ≤ 7)
theorem take_alls {α : Type} {p : α → Bool} {l : List α} {j : Nat} (h : j < l.length) (ha : (l.take j).all p = true) (hp : p l[j] = true) : (l.take (j + 1)).all p = true := by
  rw [List.take_succ_eq_append_getElem h, List.all_append, ha]
  simp [hp]
set_option maxRecDepth 100000 in
set_option maxHeartbeats 4000000 in
theorem short_walk (k : Int) (vu vn : Value) (us ns : List (List UInt8)) (b : Bool) (hb : b = shB us ns) (w : World) (hu : Sts w vu us) (hn : Sts w vn ns) (hul : us.length ≤ 9223372036854775807) (hnl : ns.length ≤ 9223372036854775807) :
    Calls Tryz.prog 9 #[.agg #[.int .i64 k, vu, vn]] w fun e w' => e = .returned (.bool b) ∧ Kp w w' := by
  obtain ⟨au, cu, rfl, hcu⟩ := hu.val
  obtain ⟨an, cn, rfl, hcn⟩ := hn.val
  have HU := Lib.hid hu
  have HN := Lib.hid hn
  have HE := Lib.hid hb
  clear hu hn hb
  go_enter Tryz.func9, Tryz.ntmps9
  go_wp2_with fail
  go_loopw [3] (fun t W => ∃ j, j ≤ us.length ∧ t = .int .i64 j ∧ (us.take j).all (fun x => decide (x.length ≤ 36)) = true ∧ W.heap[w.heap.size]? = some (.cells #[.int .i64 k, .slice au us.length cu, .slice an ns.length cn] 26 (0, 0)) ∧ Kp w W) (fun t _ => us.length + 1 - (intOf t).toNat)
  case atStart => exact ⟨0, Nat.zero_le _, rfl, rfl, heap_alloc_new _ _, kp_alloc _ _⟩
  case round =>
    obtain ⟨j, hj, rfl, hno, hbx, hk⟩ := hrel
    have HNO := Lib.hid hno
    have g1 : wr.cell? ⟨w.heap.size, 1, none⟩ = some (.slice au us.length cu) := by rw [Lib.cell_of_heap hbx]; rfl
    have HY := Lib.hid hbx
    have HL := Lib.hid hk
    clear hno hbx hk
    by_cases hlt : j < us.length
    · obtain ⟨bu, o, rfl⟩ := HU.out.addr (by omega)
      have hc := HU.out.cells HL.out hlt
      have hall := take_alls (p := fun x => decide (x.length ≤ 36)) hlt HNO.out
      have hany : ¬ us[j].length ≤ 36 → us.all (fun x => decide (x.length ≤ 36)) = false := fun h => List.all_eq_false.2 ⟨us[j], List.getElem_mem hlt, by simpa using h⟩
      obtain ⟨x, hx⟩ : ∃ x, x = us[j] := ⟨_, rfl⟩
      rw [← hx] at hc hall hany
      have HA := Lib.hid (And.intro hall hany)
      have hsx : (⟨x.toArray⟩ : ByteArray).size = x.length := size_mk x
      clear hx hall hany
      by_cases h36 : x.length ≤ 36
      · have H9 := Lib.hid (HA.out.1 (by simpa using h36))
        have hgt : ¬ (36 : Int) < (x.length : Int) := by omega
        clear HA h36
        go_wp2_with fail
        go_roundw
        case rel => exact ⟨j + 1, by omega, by go_num, H9.out, HY.out, HL.out⟩
        case measure => simp only [intOf]; omega
      · have H9 := Lib.hid (HA.out.2 h36)
        have hgt : (36 : Int) < (x.length : Int) := by omega
        clear HA h36
        go_wp2_with fail
        go_ret
        exact ⟨by rw [HE.out]; unfold shB; rw [H9.out]; rfl, HL.out⟩
    · obtain rfl : j = us.length := by omega
      have hno := HNO.out
      rw [List.take_length] at hno
      have HNB := Lib.hid hno
      clear hno HNO
      go_wp2_with fail
      clear g1
      go_loopw [4] (fun t W => ∃ j, j ≤ ns.length ∧ t = .int .i64 j ∧ (ns.take j).all (fun x => decide (x.length ≤ 40)) = true ∧ W.heap[w.heap.size]? = some (.cells #[.int .i64 k, .slice au us.length cu, .slice an ns.length cn] 26 (0, 0)) ∧ Kp w W) (fun t _ => ns.length + 1 - (intOf t).toNat)
      case atStart => exact ⟨0, Nat.zero_le _, rfl, rfl, HY.out, HL.out⟩
      case round =>
        obtain ⟨j, hj, rfl, hno, hbx, hk⟩ := hrel
        have HNO := Lib.hid hno
        have g1 : wr.cell? ⟨w.heap.size, 1, none⟩ = some (.slice au us.length cu) := by rw [Lib.cell_of_heap hbx]; rfl
        have g2 : wr.cell? ⟨w.heap.size, 2, none⟩ = some (.slice an ns.length cn) := by rw [Lib.cell_of_heap hbx]; rfl
        have HY := Lib.hid hbx
        have HL := Lib.hid hk
        clear hno hbx hk
        by_cases hlt : j < ns.length
        · obtain ⟨bn, o, rfl⟩ := HN.out.addr (by omega)
          have hc := HN.out.cells HL.out hlt
          have hall := take_alls (p := fun x => decide (x.length ≤ 40)) hlt HNO.out
          have hany : ¬ ns[j].length ≤ 40 → ns.all (fun x => decide (x.length ≤ 40)) = false := fun h => List.all_eq_false.2 ⟨ns[j], List.getElem_mem hlt, by simpa using h⟩
          obtain ⟨x, hx⟩ : ∃ x, x = ns[j] := ⟨_, rfl⟩
          rw [← hx] at hc hall hany
          have HA := Lib.hid (And.intro hall hany)
          have hsx : (⟨x.toArray⟩ : ByteArray).size = x.length := size_mk x
          clear hx hall hany g1
          by_cases h40 : x.length ≤ 40
          · have H9 := Lib.hid (HA.out.1 (by simpa using h40))
            have hgt : ¬ (40 : Int) < (x.length : Int) := by omega
            clear HA h40
            go_wp2_with fail
            go_roundw
            case rel => exact ⟨j + 1, by omega, by go_num, H9.out, HY.out, HL.out⟩
            case measure => simp only [intOf]; omega
          · have H9 := Lib.hid (HA.out.2 h40)
            have hgt : (40 : Int) < (x.length : Int) := by omega
            clear HA h40
            go_wp2_with fail
            go_ret
            exact ⟨by rw [HE.out]; unfold shB; rw [H9.out]; simp, HL.out⟩
        · obtain rfl : j = ns.length := by omega
          have hno := HNO.out
          rw [List.take_length] at hno
          have HRB := Lib.hid (show b = (decide (us.length ≤ 3) && decide (ns.length ≤ 7)) by rw [HE.out]; unfold shB; rw [HNB.out, hno]; rfl)
          clear hno
          by_cases h3 : us.length ≤ 3
          · have h3i : (us.length : Int) ≤ 3 := by omega
            by_cases h7 : ns.length ≤ 7
            · have h7i : (ns.length : Int) ≤ 7 := by omega
              have H0 := Lib.hid (show b = true by rw [HRB.out]; simp [h3, h7])
              clear h3 h7
              go_wp2_with fail
              go_ret
              exact ⟨by rw [H0.out]; rfl, HL.out⟩
            · have h7i : ¬ (ns.length : Int) ≤ 7 := by omega
              have H0 := Lib.hid (show b = false by rw [HRB.out]; simp [h7])
              clear h3 h7
              go_wp2_with fail
              go_ret
              exact ⟨by rw [H0.out]; rfl, HL.out⟩
          · have h3i : ¬ (us.length : Int) ≤ 3 := by omega
            have H0 := Lib.hid (show b = false by rw [HRB.out]; simp [h3])
            clear h3
            go_wp2_with fail
            go_ret
            exact ⟨by rw [H0.out]; rfl, HL.out⟩
end Go.Proofs.YtjcfejncjdhplaaGreatDoor
namespace Go.Proofs.YtjcfejncjdhplaaGreatDoor
open Go.RowKit Go Klp
theorem formI_word (k : Int) : ∀ f ∈ formI 88 k, f.length ≤ 100 := by
  by_cases h : 1 ≤ k ∧ k ≤ 11
  · rcases (show k = 1 ∨ k = 2 ∨ k = 3 ∨ k = 4 ∨ k = 5 ∨ k = 6 ∨ k = 7 ∨ k = 8 ∨ k = 9 ∨ k = 10 ∨ k = 11 by omega) with rfl | rfl | rfl | rfl | rfl | rfl | rfl | rfl | rfl | rfl | rfl <;> decide
  · rw [formI_no (by omega)]; simp
theorem sv_blank (a b : List UInt8) : sv (a ++ 32 :: b) = .string ((⟨a.toArray⟩ : ByteArray) ++ ⟨#[32]⟩ ++ ⟨b.toArray⟩) := by
  show Value.string _ = _
  congr 1
  apply ByteArray.ext
  simp
theorem sv_app (a b : List UInt8) : sv (a ++ b) = .string ((⟨a.toArray⟩ : ByteArray) ++ ⟨b.toArray⟩) := by
  show Value.string _ = _
  congr 1
structure TxI (w : World) (F us ns D : List (List UInt8)) (m a b : Nat) (P : List (List UInt8)) : Prop where
  D : D = P ++ fill 88 (F.drop m) (us.drop a) (ns.drop b)
  P : P.length = m
  U : cntW [85] (F.drop m) + a = us.length
  N : cntW [88] (F.drop m) + b = ns.length
theorem TxI.stepU {w : World} {F us ns D : List (List UInt8)} {m a b : Nat} {P : List (List UInt8)} (h : TxI w F us ns D m a b P) (hm : m < F.length) (hf : F[m] = [85]) : ∃ ha : a < us.length, TxI w F us ns D (m + 1) (a + 1) b (P ++ [wrU us[a]]) := by
  have h1 := h.U
  have h2 := h.N
  rw [List.drop_eq_getElem_cons hm, hf] at h1 h2
  rw [cnt_hit] at h1
  rw [cnt_miss (by decide)] at h2
  have ha : a < us.length := by omega
  refine ⟨ha, ?_, by simp [h.P], by omega, h2⟩
  rw [h.D, List.drop_eq_getElem_cons hm, hf, fill_stepU ha]
  simp
theorem TxI.stepN {w : World} {F us ns D : List (List UInt8)} {m a b : Nat} {P : List (List UInt8)} (h : TxI w F us ns D m a b P) (hm : m < F.length) (hf : F[m] = [88]) : ∃ hb : b < ns.length, TxI w F us ns D (m + 1) a (b + 1) (P ++ [ns[b]]) := by
  have h1 := h.U
  have h2 := h.N
  rw [List.drop_eq_getElem_cons hm, hf] at h1 h2
  rw [cnt_hit] at h2
  rw [cnt_miss (by decide)] at h1
  have hb : b < ns.length := by omega
  refine ⟨hb, ?_, by simp [h.P], h1, by omega⟩
  rw [h.D, List.drop_eq_getElem_cons hm, hf, fill_stepN (by decide) hb]
  simp
theorem TxI.stepL {w : World} {F us ns D : List (List UInt8)} {m a b : Nat} {P : List (List UInt8)} (h : TxI w F us ns D m a b P) (hm : m < F.length) (h85 : F[m] ≠ [85]) (h88 : F[m] ≠ [88]) : TxI w F us ns D (m + 1) a b (P ++ [F[m]]) := by
  have h1 := h.U
  have h2 := h.N
  rw [List.drop_eq_getElem_cons hm] at h1 h2
  rw [cnt_miss h85] at h1
  rw [cnt_miss h88] at h2
  refine ⟨?_, by simp [h.P], h1, h2⟩
  rw [h.D, List.drop_eq_getElem_cons hm, fill_stepL h85 h88]
  simp
theorem TxI.short {w : World} {F us ns D : List (List UInt8)} {m a b : Nat} {P : List (List UInt8)} (h : TxI w F us ns D m a b P) (hD : ∀ x ∈ D, x.length ≤ 40) : (jn P).length ≤ 41 * m := by
  rw [← h.P]
  exact jn_len fun x hx => hD x (by rw [h.D]; exact List.mem_append_left _ hx)
set_option maxRecDepth 100000 in
set_option maxHeartbeats 4000000 in
theorem textL_walk (i : Nat) (hi : i < 11) (vu vn : Value) (us ns : List (List UInt8)) (T : List UInt8) (hT : T = txt i us ns) (hcu : cntW [85] (spl (kwB (i + 1))) = us.length) (hcn : cntW [78] (spl (kwB (i + 1))) = ns.length) (hub : ∀ u ∈ us, u.length ≤ 40) (hnb : ∀ x ∈ ns, x.length ≤ 40) (w : World) (hu : Sts w vu us) (hn : Sts w vn ns) :
    Calls Tryz.prog 13 #[.agg #[.int .i64 ((i : Int) + 1), vu, vn]] w fun e w' => e = .returned (sv T) ∧ Kp w w' := by
  have hD : ∀ x ∈ fill 78 (spl (kwB (i + 1))) us ns, x.length ≤ 40 := fun x hx => by
    rcases fill_mem hx hcu hcn (by decide) with h | ⟨u, hu', rfl⟩ | h
    · exact (kw_lit i hi x h).2.1
    · exact wr_len (hub u hu')
    · exact hnb x h
  unfold txt at hT
  rw [← fill_ref hi] at hT hD
  rw [cnt_U hi] at hcu
  rw [cnt_N hi] at hcn
  have hul : us.length ≤ 100 := by rw [← hcu]; exact cnt_le _ _
  have hnl : ns.length ≤ 100 := by rw [← hcn]; exact cnt_le _ _
  have hf9 : (formI 88 ((i : Int) + 1)).length ≤ 9 := by
    have := fill_len 88 (formI 88 ((i : Int) + 1)) us ns
    rw [fill_ref hi, fill_len] at this
    rw [← this]; exact kw_nine i hi
  have hfp := form_pos (k := (i : Int) + 1) (by omega)
  obtain ⟨F, hF⟩ : ∃ F, F = formI 88 ((i : Int) + 1) := ⟨_, rfl⟩
  rw [← hF] at hT hD hcu hcn hf9 hfp
  obtain ⟨D, hDD⟩ : ∃ D, D = fill 88 F us ns := ⟨_, rfl⟩
  rw [← hDD] at hT hD
  have HT0 : TxI w F us ns D 0 0 0 [] := ⟨hDD, rfl, hcu, hcn⟩
  obtain ⟨au, cu, rfl, hcu'⟩ := hu.val
  obtain ⟨an, cn, rfl, hcn'⟩ := hn.val
  have HT1 := Lib.hid HT0
  have HU := Lib.hid hu
  have HN := Lib.hid hn
  have HF := Lib.hid hF
  have HE := Lib.hid (And.intro hT hD)
  clear hu hn hT hD hF hDD hcu hcn hub hnb HT0
  go_enter Tryz.func13, Tryz.ntmps13
  go_wp2_with fail
  refine (form_walk ((i : Int) + 1) _).mono ?_
  rintro e w1 ⟨v, rfl, hs, hk1⟩
  rw [← HF.out] at hs
  obtain ⟨a1, d1, rfl, _⟩ := hs.val
  obtain ⟨bF, oF, rfl⟩ := hs.addr hfp
  have hbx : w1.heap[w.heap.size]? = some (.cells #[.int .i64 ((i : Int) + 1), .slice au us.length cu, .slice an ns.length cn] 26 (0, 0)) := (hk1.block _ (by simp)).trans (heap_alloc_new w _)
  have HFS := Lib.hid hs
  have HX := Lib.hid hbx
  have HK := Lib.hid ((kp_alloc w _).then hk1)
  clear hs hbx hk1
  go_wp2_with fail
  go_loopw [3, 4, 5, 12] (fun s a b t W => ∃ (m ca cb : Nat) (P : List (List UInt8)), m ≤ F.length ∧ t = .int .i64 m ∧ a = .int .i64 ca ∧ b = .int .i64 cb ∧ s = sv (jn P) ∧ TxI w F us ns D m ca cb P ∧ Kp w1 W) (fun _ _ _ t _ => 11 - (intOf t).toNat)
  case atStart => exact ⟨0, 0, 0, [], Nat.zero_le _, rfl, rfl, rfl, rfl, HT1.out, Kp.refl _⟩
  case round =>
    obtain ⟨m, ca, cb, P, hm, rfl, rfl, rfl, rfl, hI, hk⟩ := hrel
    have HI := Lib.hid hI
    have HL := Lib.hid hk
    have hsl := hI.short HE.out.2
    have hPm := hI.P
    clear hI hk
    by_cases hml : m < F.length
    · have hct : wr.cell? ⟨bF, oF + m, none⟩ = some (sv F[m]) := HFS.out.cells HL.out hml
      have sU := HI.out.stepU hml
      have sN := HI.out.stepN hml
      have sL := HI.out.stepL hml
      obtain ⟨f, hf⟩ : ∃ f, f = F[m] := ⟨_, rfl⟩
      rw [← hf] at hct sU sN sL
      have hfl : f.length ≤ 100 := by
        rw [hf]
        exact formI_word ((i : Int) + 1) F[m] (by rw [← HF.out]; exact List.getElem_mem hml)
      clear hf
      obtain ⟨S, hS⟩ : ∃ S, S = jn P := ⟨_, rfl⟩
      rw [← hS] at hsl ⊢
      have hS0 : m = 0 → S = [] := fun e => by
        rw [hS, List.eq_nil_of_length_eq_zero (by omega : P.length = 0)]; rfl
      have hsn : ∀ x, m ≠ 0 → jn (P ++ [x]) = S ++ 32 :: x := fun x e => by
        rw [jn_snoc, if_neg (by intro h; rw [h] at hPm; exact e hPm.symm), hS]
      have hsz : ∀ x, m = 0 → jn (P ++ [x]) = S ++ x := fun x e => by
        rw [hS0 e, jn_snoc, if_pos (List.eq_nil_of_length_eq_zero (by omega))]; rfl
      have HS := Lib.hid (And.intro hsn hsz)
      have hss : (⟨S.toArray⟩ : ByteArray).size = S.length := size_mk S
      have hs1 : (⟨#[32]⟩ : ByteArray).size = 1 := rfl
      have hbx : wr.heap[w.heap.size]? = _ := (HL.out.block _ (Array.getElem?_eq_some_iff.1 HX.out).1).trans HX.out
      clear hS hS0 hsn hsz hPm
      by_cases h85 : f = [85]
      · obtain ⟨hca, hst⟩ := sU h85
        subst h85
        have g1 : wr.cell? ⟨w.heap.size, 1, none⟩ = some (.slice au us.length cu) := by rw [Lib.cell_of_heap hbx]; rfl
        obtain ⟨bU, oU, rfl⟩ := HU.out.addr (by omega)
        have hcc : wr.cell? ⟨bU, oU + ca, none⟩ = some (sv us[ca]) := HU.out.cells (HK.out.then HL.out) hca
        obtain ⟨x, hx⟩ : ∃ x, x = us[ca] := ⟨_, rfl⟩
        have hxl : (wrU x).length ≤ 40 := by rw [hx]; exact HE.out.2 _ (by rw [hst.D]; simp)
        rw [← hx] at hcc hst
        obtain ⟨y, hy⟩ : ∃ y, y = wrU x := ⟨_, rfl⟩
        rw [← hy] at hst hxl
        have hsy : (⟨y.toArray⟩ : ByteArray).size = y.length := size_mk y
        have HY := Lib.hid hy
        have HSt := Lib.hid hst
        clear hx hy hst hbx sU sN sL
        by_cases hmz : m = 0
        · have hm0 : ¬ (0 : Int) < (m : Int) := by omega
          have HM := Lib.hid hmz
          clear hmz
          go_wp2_with fail
          refine (word_walk _ _).mono ?_
          rintro e w5 ⟨rfl, hk5⟩
          have HK5 := Lib.hid hk5
          clear hk5
          rw [← HY.out]
          go_wp2_with fail
          go_roundw
          case rel => exact ⟨m + 1, ca + 1, cb, _, by omega, by go_num, by go_num, by go_num, by rw [HS.out.2 _ HM.out, sv_app], HSt.out, HL.out.then HK5.out⟩
          case measure => simp only [intOf]; omega
        · have hm0 : (0 : Int) < (m : Int) := by omega
          have HM := Lib.hid hmz
          clear hmz
          go_wp2_with fail
          refine (word_walk _ _).mono ?_
          rintro e w5 ⟨rfl, hk5⟩
          have HK5 := Lib.hid hk5
          clear hk5
          rw [← HY.out]
          go_wp2_with fail
          go_roundw
          case rel => exact ⟨m + 1, ca + 1, cb, _, by omega, by go_num, by go_num, by go_num, by rw [HS.out.1 _ HM.out, sv_blank], HSt.out, HL.out.then HK5.out⟩
          case measure => simp only [intOf]; omega
      · by_cases h88 : f = [88]
        · obtain ⟨hcb, hst⟩ := sN h88
          subst h88
          have g2 : wr.cell? ⟨w.heap.size, 2, none⟩ = some (.slice an ns.length cn) := by rw [Lib.cell_of_heap hbx]; rfl
          obtain ⟨bN, oN, rfl⟩ := HN.out.addr (by omega)
          have hcc : wr.cell? ⟨bN, oN + cb, none⟩ = some (sv ns[cb]) := HN.out.cells (HK.out.then HL.out) hcb
          obtain ⟨x, hx⟩ : ∃ x, x = ns[cb] := ⟨_, rfl⟩
          have hxl : x.length ≤ 40 := by rw [hx]; exact HE.out.2 _ (by rw [hst.D]; simp)
          rw [← hx] at hcc hst
          have hsx : (⟨x.toArray⟩ : ByteArray).size = x.length := size_mk x
          have HSt := Lib.hid hst
          have H85 := Lib.hid h85
          clear hx hst hbx sU sN sL h85
          by_cases hmz : m = 0
          · have hm0 : ¬ (0 : Int) < (m : Int) := by omega
            have HM := Lib.hid hmz
            clear hmz
            go_wp2_with fail
            go_roundw
            case rel => exact ⟨m + 1, ca, cb + 1, _, by omega, by go_num, by go_num, by go_num, by rw [HS.out.2 _ HM.out, sv_app], HSt.out, HL.out⟩
            case measure => simp only [intOf]; omega
          · have hm0 : (0 : Int) < (m : Int) := by omega
            have HM := Lib.hid hmz
            clear hmz
            go_wp2_with fail
            go_roundw
            case rel => exact ⟨m + 1, ca, cb + 1, _, by omega, by go_num, by go_num, by go_num, by rw [HS.out.1 _ HM.out, sv_blank], HSt.out, HL.out⟩
            case measure => simp only [intOf]; omega
        · have hst := sL h85 h88
          have hb85 : (f == [85]) = false := by rw [beq_eq_false_iff_ne]; exact h85
          have hb88 : (f == [88]) = false := by rw [beq_eq_false_iff_ne]; exact h88
          have hsf : (⟨f.toArray⟩ : ByteArray).size = f.length := size_mk f
          have HSt := Lib.hid hst
          clear hst hbx sU sN sL h85 h88
          by_cases hmz : m = 0
          · have hm0 : ¬ (0 : Int) < (m : Int) := by omega
            have HM := Lib.hid hmz
            clear hmz
            go_wp2_with fail
            go_roundw
            case rel => exact ⟨m + 1, ca, cb, _, by omega, by go_num, by go_num, by go_num, by rw [HS.out.2 _ HM.out, sv_app], HSt.out, HL.out⟩
            case measure => simp only [intOf]; omega
          · have hm0 : (0 : Int) < (m : Int) := by omega
            have HM := Lib.hid hmz
            clear hmz
            go_wp2_with fail
            go_roundw
            case rel => exact ⟨m + 1, ca, cb, _, by omega, by go_num, by go_num, by go_num, by rw [HS.out.1 _ HM.out, sv_blank], HSt.out, HL.out⟩
            case measure => simp only [intOf]; omega
    · obtain rfl : m = F.length := by omega
      have hDe : D = P := by rw [HI.out.D, List.drop_eq_nil_of_le (Nat.le_refl _)]; simp [fill]
      have HR := Lib.hid (show T = jn P by rw [HE.out.1, hDe])
      clear hDe
      go_wp2_with fail
      go_ret
      exact ⟨by rw [HR.out]; rfl, HK.out.then HL.out⟩
end Go.Proofs.YtjcfejncjdhplaaGreatDoor
namespace Go.Proofs.YtjcfejncjdhplaaGreatDoor
open Go.RowKit Go Klp
structure TqI (L us ns D : List (List UInt8)) (m a b : Nat) (P : List (List UInt8)) : Prop where
  D : D = P ++ fill 78 (L.drop m) (us.drop a) (ns.drop b)
  P : P.length = m
  U : cntW [85] (L.drop m) + a = us.length
  N : cntW [78] (L.drop m) + b = ns.length
theorem TqI.stepU {L us ns D : List (List UInt8)} {m a b : Nat} {P : List (List UInt8)} (h : TqI L us ns D m a b P) (hm : m < L.length) (hf : L[m] = [85]) : ∃ ha : a < us.length, TqI L us ns D (m + 1) (a + 1) b (P ++ [wrU us[a]]) := by
  have h1 := h.U
  have h2 := h.N
  rw [List.drop_eq_getElem_cons hm, hf] at h1 h2
  rw [cnt_hit] at h1
  rw [cnt_miss (by decide)] at h2
  have ha : a < us.length := by omega
  refine ⟨ha, ?_, by simp [h.P], by omega, h2⟩
  rw [h.D, List.drop_eq_getElem_cons hm, hf, fill_stepU ha]
  simp
theorem TqI.stepN {L us ns D : List (List UInt8)} {m a b : Nat} {P : List (List UInt8)} (h : TqI L us ns D m a b P) (hm : m < L.length) (hf : L[m] = [78]) : ∃ hb : b < ns.length, TqI L us ns D (m + 1) a (b + 1) (P ++ [ns[b]]) := by
  have h1 := h.U
  have h2 := h.N
  rw [List.drop_eq_getElem_cons hm, hf] at h1 h2
  rw [cnt_hit] at h2
  rw [cnt_miss (by decide)] at h1
  have hb : b < ns.length := by omega
  refine ⟨hb, ?_, by simp [h.P], h1, by omega⟩
  rw [h.D, List.drop_eq_getElem_cons hm, hf, fill_stepN (by decide) hb]
  simp
theorem TqI.stepL {L us ns D : List (List UInt8)} {m a b : Nat} {P : List (List UInt8)} (h : TqI L us ns D m a b P) (hm : m < L.length) (h85 : L[m] ≠ [85]) (h78 : L[m] ≠ [78]) : TqI L us ns D (m + 1) a b (P ++ [L[m]]) := by
  have h1 := h.U
  have h2 := h.N
  rw [List.drop_eq_getElem_cons hm] at h1 h2
  rw [cnt_miss h85] at h1
  rw [cnt_miss h78] at h2
  refine ⟨?_, by simp [h.P], h1, h2⟩
  rw [h.D, List.drop_eq_getElem_cons hm, fill_stepL h85 h78]
  simp
theorem cellq0 {W : World} {b T : Nat} {x0 x1 x2 : Value} (h : W.heap[b]? = some (.cells #[x0, x1, x2] T (0, 0))) : W.cell? ⟨b, 0, none⟩ = some x0 := by rw [Lib.cell_of_heap h]; rfl
theorem cellq1 {W : World} {b T : Nat} {x0 x1 x2 : Value} (h : W.heap[b]? = some (.cells #[x0, x1, x2] T (0, 0))) : W.cell? ⟨b, 1, none⟩ = some x1 := by rw [Lib.cell_of_heap h]; rfl
theorem cellq2 {W : World} {b T : Nat} {x0 x1 x2 : Value} (h : W.heap[b]? = some (.cells #[x0, x1, x2] T (0, 0))) : W.cell? ⟨b, 2, none⟩ = some x2 := by rw [Lib.cell_of_heap h]; rfl
theorem row_step {P L : List (List UInt8)} {m : Nat} (hP : P.length = m) (hm : m < L.length) (z : List UInt8) : (P ++ L.drop m).set m z = (P ++ [z]) ++ L.drop (m + 1) := by
  subst hP
  rw [List.set_append_right _ _ (Nat.le_refl _), Nat.sub_self, List.drop_eq_getElem_cons hm, List.set_cons_zero, List.append_assoc]
  rfl
theorem row_same {P L : List (List UInt8)} {m : Nat} (hm : m < L.length) : P ++ L.drop m = (P ++ [L[m]]) ++ L.drop (m + 1) := by
  rw [List.drop_eq_getElem_cons hm]
  simp
theorem row_at {P L : List (List UInt8)} {m : Nat} (hP : P.length = m) (hm : m < L.length) : ∃ h : m < (P ++ L.drop m).length, (P ++ L.drop m)[m] = L[m] := by
  refine ⟨by simp; omega, ?_⟩
  rw [List.getElem_append_right (by omega)]
  simp [hP]
set_option maxRecDepth 100000 in
set_option maxHeartbeats 4000000 in
theorem textQ_no (k : Int) (hk : k < 1 ∨ 11 < k) (ao an : Option Addr) (n1 c1 n2 c2 : Nat) (w : World) :
    Calls Tryz.prog 11 #[.agg #[.int .i64 k, .slice ao n1 c1, .slice an n2 c2]] w fun e w' => e = .returned (.tuple #[sv [], .int .i64 12]) ∧ Kp w w' := by
  have H0 := Lib.hid hk
  clear hk
  go_enter Tryz.func11, Tryz.ntmps11
  go_wp2_with fail
  refine (shapeQ_no k H0.out _ _ _ _ _ _ _).mono ?_
  rintro e w1 ⟨rfl, hk1⟩
  have HK := Lib.hid ((kp_alloc w _).then hk1)
  clear hk1
  go_wp2_with fail
  go_ret2
  exact ⟨rfl, HK.out⟩
set_option maxRecDepth 100000 in
set_option maxHeartbeats 4000000 in
theorem textQ_bad (i : Nat) (hi : i < 11) (vu vn : Value) (us ns : List (List UInt8)) (E : Int) (hE : E = shpE ((i : Int) + 1) us ns) (hE0 : E ≠ 0) (hub : ∀ u ∈ us, u.length ≤ 1000) (hnb : ∀ x ∈ ns, x.length ≤ 900) (w : World) (hu : Sts w vu us) (hn : Sts w vn ns) (ht : PTab w) :
    Calls Tryz.prog 11 #[.agg #[.int .i64 ((i : Int) + 1), vu, vn]] w fun e w' => e = .returned (.tuple #[sv [], .int .i64 E]) ∧ Kp w w' := by
  obtain ⟨au, cu, rfl, hcu'⟩ := hu.val
  obtain ⟨an, cn, rfl, hcn'⟩ := hn.val
  have hEb : (E != 0) = true := by rw [bne_iff_ne]; exact hE0
  have HU := Lib.hid hu
  have HN := Lib.hid hn
  have HT := Lib.hid ht
  have HE := Lib.hid hE
  have HB := Lib.hid (And.intro hub hnb)
  clear hu hn ht hE hE0 hub hnb
  go_enter Tryz.func11, Tryz.ntmps11
  go_wp2_with fail
  refine Calls.mono (shapeQ_in i hi _ _ us ns E HE.out HB.out.1 HB.out.2 _ ?a1 ?a2 ?a3) ?_
  case a1 => exact HU.out.kp (kp_alloc _ _)
  case a2 => exact HN.out.kp (kp_alloc _ _)
  case a3 => exact HT.out.kp (kp_alloc _ _)
  rintro e w1 ⟨rfl, hk1⟩
  have HK := Lib.hid ((kp_alloc w _).then hk1)
  clear hk1
  go_wp2_with fail
  go_ret2
  exact ⟨rfl, HK.out⟩
set_option maxRecDepth 100000 in
set_option maxHeartbeats 4000000 in
theorem textQ_ok (i : Nat) (hi : i < 11) (vu vn : Value) (us ns : List (List UInt8)) (T : List UInt8) (hT : T = txt i us ns) (hE : shpE ((i : Int) + 1) us ns = 0) (hub : ∀ u ∈ us, u.length ≤ 40) (hnb : ∀ x ∈ ns, x.length ≤ 40) (w : World) (hu : Sts w vu us) (hn : Sts w vn ns) (ht : PTab w) :
    Calls Tryz.prog 11 #[.agg #[.int .i64 ((i : Int) + 1), vu, vn]] w fun e w' => e = .returned (.tuple #[sv T, .int .i64 0]) ∧ Kp w w' := by
  obtain ⟨hcu, hcn, _, _⟩ := shp_parts hi hE
  have hTl := txt_len hi hE hub hnb
  rw [← hT] at hTl
  have hul : us.length ≤ 100 := by rw [← hcu, cnt_U hi]; exact cnt_le _ _
  have hnl : ns.length ≤ 100 := by rw [← hcn, cnt_N hi]; exact cnt_le _ _
  have hl9 := kw_nine i hi
  have hkl := kwB_len hi
  obtain ⟨L, hL⟩ : ∃ L, L = spl (kwB (i + 1)) := ⟨_, rfl⟩
  unfold txt at hT
  rw [← hL] at hT hcu hcn hl9
  obtain ⟨D, hD⟩ : ∃ D, D = fill 78 L us ns := ⟨_, rfl⟩
  have hDl : D.length = L.length := by rw [hD, fill_len]
  rw [← hD] at hT
  have HT1 := Lib.hid (show TqI L us ns D 0 0 0 [] from ⟨hD, rfl, hcu, hcn⟩)
  obtain ⟨au, cu, rfl, hcu'⟩ := hu.val
  obtain ⟨an, cn, rfl, hcn'⟩ := hn.val
  have HU := Lib.hid hu
  have HN := Lib.hid hn
  have HT := Lib.hid ht
  have HE := Lib.hid hE
  have HTE := Lib.hid (And.intro hT (And.intro hDl hTl))
  have HLL := Lib.hid hL
  have HB := Lib.hid (And.intro hub hnb)
  clear hu hn ht hE hT hTl hub hnb hcu hcn hD hDl hL
  have hi11 : (i : Int) < 11 := by omega
  have hwr : IntKind.i64.wrap (i : Int) = i := by rw [IntKind.wrap_i64]; omega
  go_enter Tryz.func11, Tryz.ntmps11
  go_wp2_with fail
  refine Calls.mono (shapeQ_in i hi _ _ us ns 0 HE.out.symm (fun u h => by have := HB.out.1 u h; omega) (fun x h => by have := HB.out.2 x h; omega) _ ?a1 ?a2 ?a3) ?_
  case a1 => exact HU.out.kp (kp_alloc _ _)
  case a2 => exact HN.out.kp (kp_alloc _ _)
  case a3 => exact HT.out.kp (kp_alloc _ _)
  rintro e w1 ⟨rfl, hk1⟩
  have hbx : w1.heap[w.heap.size]? = some (.cells #[.int .i64 ((i : Int) + 1), .slice au us.length cu, .slice an ns.length cn] 26 (0, 0)) := (hk1.block _ (by simp)).trans (heap_alloc_new w _)
  have c0 := cellq0 hbx
  have HX := Lib.hid hbx
  have HK := Lib.hid ((kp_alloc w _).then hk1)
  clear hk1 hbx
  go_upto_region 4 with fail
  go_cut [5] (fun t W => ∃ g, t = .slice (some ⟨g, 0, none⟩) (spl (kwB (i + 1))).length (spl (kwB (i + 1))).length ∧ w.heap.size < g ∧ w1.heap.size ≤ g ∧ RowT W g (spl (kwB (i + 1))) ∧ Kp w1 W)
  case first =>
    go_region_with (first | (go_at_call 19; refine Calls.mono (kinds_walk _) ?_; rintro e w5 ⟨g, cs, rfl, hg, hcs, hk5⟩; obtain ⟨hz0, _, _⟩ := hcs i hi; have d0 : w5.cell? ⟨g, i * 3, none⟩ = some (sv (kwB (i + 1))) := (by rw [Lib.cell_of_heap hg, Nat.mul_comm]; exact hz0); have hb5 : w5.heap[w.heap.size]? = some (.cells #[.int .i64 ((i : Int) + 1), .slice au us.length cu, .slice an ns.length cn] 26 (0, 0)) := (hk5.block _ (Array.getElem?_eq_some_iff.1 HX.out).1).trans HX.out; have b5 := cellq0 hb5; have HK5 : Hid (Kp w1 w5) := Lib.hid (by first | exact hk5 | exact (Kp.drew _).then hk5); clear hg hcs hk5 hz0 hb5) | (go_at_call 18; refine Calls.mono (split_walk (kwB (i + 1)) (by omega) _) ?_; rintro e w6 ⟨rfl, hr6, hk6⟩; have HR6 : Hid (RowT w6 w5.heap.size (spl (kwB (i + 1)))) := Lib.hid hr6; have HK6 : Hid (Kp w1 w6) := Lib.hid (by first | exact HK5.out.then hk6 | exact HK5.out.then ((Kp.drew _).then hk6)); clear hr6 hk6))
    all_goals go_wp2_with fail
    all_goals go_meet
    all_goals exact ⟨_, rfl, by have := (Array.getElem?_eq_some_iff.1 HX.out).1; have := HK5.out.size; show w.heap.size < w5.heap.size; omega, HK5.out.size, HR6.out, HK6.out⟩
  case rest =>
    obtain ⟨g, rfl, hg1, hg2, hr, hk⟩ := hcut
    rw [← HLL.out] at hr ⊢
    have HG := Lib.hid (And.intro hg1 hg2)
    have HR0 := Lib.hid hr
    have HK0 := Lib.hid hk
    clear hr hk c0 hg1 hg2
    go_wp2_with fail
    go_loopw [6, 7, 25] (fun a b t W => ∃ (m ca cb : Nat) (P : List (List UInt8)), m ≤ L.length ∧ t = .int .i64 m ∧ a = .int .i64 ca ∧ b = .int .i64 cb ∧ TqI L us ns D m ca cb P ∧ RowT W g (P ++ L.drop m) ∧ Kp w1 W) (fun _ _ t _ => 11 - (intOf t).toNat)
    case atStart => exact ⟨0, 0, 0, [], Nat.zero_le _, rfl, rfl, rfl, HT1.out, HR0.out, HK0.out⟩
    case round =>
      obtain ⟨m, ca, cb, P, hm, rfl, rfl, rfl, hI, hr, hk⟩ := hrel
      have HI := Lib.hid hI
      have HRw := Lib.hid hr
      have HL := Lib.hid hk
      have HPm := Lib.hid hI.P
      have hbx : wr.heap[w.heap.size]? = _ := (hk.block _ (Array.getElem?_eq_some_iff.1 HX.out).1).trans HX.out
      clear hI hr hk
      by_cases hml : m < L.length
      · obtain ⟨hrl, hre⟩ := row_at HPm.out hml
        have hct : wr.cell? ⟨g, m, none⟩ = some (sv L[m]) := by
          have h := HRw.out.cell hrl
          rw [hre] at h
          exact h
        have hfr := HRw.out.frozen m
        have sU := HI.out.stepU hml
        have sN := HI.out.stepN hml
        have sL := HI.out.stepL hml
        have hsame := row_same (P := P) hml
        have hstep := row_step HPm.out hml
        obtain ⟨f, hf⟩ : ∃ f, f = L[m] := ⟨_, rfl⟩
        rw [← hf] at hct sU sN sL hsame
        have HSM := Lib.hid (And.intro hsame hstep)
        clear hf hsame hstep hre hrl
        by_cases h85 : f = [85]
        · obtain ⟨hca, hst⟩ := sU h85
          subst h85
          have g1 := cellq1 hbx
          obtain ⟨bU, oU, rfl⟩ := HU.out.addr (by omega)
          have hcc : wr.cell? ⟨bU, oU + ca, none⟩ = some (sv us[ca]) := HU.out.cells (HK.out.then HL.out) hca
          obtain ⟨x, hx⟩ : ∃ x, x = us[ca] := ⟨_, rfl⟩
          rw [← hx] at hcc hst
          obtain ⟨y, hy⟩ : ∃ y, y = wrU x := ⟨_, rfl⟩
          rw [← hy] at hst
          have HY := Lib.hid hy
          have HSt := Lib.hid hst
          clear hx hy hst hbx sU sN sL
          go_wp2_with fail
          refine (shown_walk _ _).mono ?_
          rintro e w5 ⟨rfl, hk5⟩
          rw [← HY.out]
          have HK5 := Lib.hid hk5
          have hct5 : w5.cell? ⟨g, m, none⟩ = some (sv [85]) := (Below.cell hk5 (p := ⟨g, m, none⟩) (World.block_lt_of_cell? wr _ hct)).trans hct
          have hfr5 := (HRw.out.kp hk5).frozen m
          clear hk5 hct hfr
          go_wp2_with fail
          go_roundw
          case rel => exact ⟨m + 1, ca + 1, cb, _, by omega, by go_num, by go_num, by go_num, HSt.out, by have h := (HRw.out.kp HK5.out).store m y; rw [HSM.out.2] at h; exact h, Below.setCell (HL.out.then HK5.out) (p := ⟨g, m, none⟩) HG.out.2 _⟩
          case measure => simp only [intOf]; omega
        · by_cases h78 : f = [78]
          · obtain ⟨hcb, hst⟩ := sN h78
            subst h78
            have g2 := cellq2 hbx
            obtain ⟨bN, oN, rfl⟩ := HN.out.addr (by omega)
            have hcc : wr.cell? ⟨bN, oN + cb, none⟩ = some (sv ns[cb]) := HN.out.cells (HK.out.then HL.out) hcb
            obtain ⟨x, hx⟩ : ∃ x, x = ns[cb] := ⟨_, rfl⟩
            rw [← hx] at hcc hst
            have HSt := Lib.hid hst
            clear hx hst hbx sU sN sL h85
            go_wp2_with fail
            go_roundw
            case rel => exact ⟨m + 1, ca, cb + 1, _, by omega, by go_num, by go_num, by go_num, HSt.out, by have h := HRw.out.store m x; rw [HSM.out.2] at h; exact h, Below.setCell HL.out (p := ⟨g, m, none⟩) HG.out.2 _⟩
            case measure => simp only [intOf]; omega
          · have hst := sL h85 h78
            have hb85 : (f == [85]) = false := by rw [beq_eq_false_iff_ne]; exact h85
            have hb78 : (f == [78]) = false := by rw [beq_eq_false_iff_ne]; exact h78
            have HSt := Lib.hid hst
            clear hst hbx sU sN sL h85 h78
            go_wp2_with fail
            go_roundw
            case rel => exact ⟨m + 1, ca, cb, _, by omega, by go_num, by go_num, by go_num, HSt.out, by have h := HRw.out; rw [HSM.out.1] at h; exact h, HL.out⟩
            case measure => simp only [intOf]; omega
      · obtain rfl : m = L.length := by omega
        have hDe : D = P := by rw [HI.out.D, List.drop_eq_nil_of_le (Nat.le_refl _)]; simp [fill]
        have hrw : RowT wr g D := by
          have h := HRw.out
          rw [List.drop_eq_nil_of_le (Nat.le_refl _), List.append_nil, ← hDe] at h
          exact h
        have e : Lib.join ((D.map fun x => (⟨x.toArray⟩ : ByteArray)).map (·.data.toList)) (⟨#[32]⟩ : ByteArray).data.toList = T := by
          rw [HTE.out.1, ← jn_join, List.map_map]
          congr 1
          conv => rhs; rw [← List.map_id D]
          rfl
        have hj := Tryz.strings_Join g 0 L.length (D.map fun x => ⟨x.toArray⟩) ⟨#[32]⟩ wr (fun j x hx => by
          rw [List.getElem?_map, Option.map_eq_some_iff] at hx
          obtain ⟨y, hy, rfl⟩ := hx
          obtain ⟨hy1, rfl⟩ := List.getElem?_eq_some_iff.1 hy
          rw [Nat.zero_add]
          exact hrw.cell hy1) hrw.lt (by rw [List.length_map, HTE.out.2.1]; omega) (by rw [List.length_map, HTE.out.2.1]; exact Nat.le_refl _) (by rw [e]; have := HTE.out.2.2; omega)
        rw [e, List.length_map, HTE.out.2.1] at hj
        have HJ := Lib.hid hj
        clear hDe hrw e hj hbx
        go_wp2_with fail
        refine HJ.out.mono ?_
        rintro e w6 ⟨rfl, hk6⟩
        have HK6 := Lib.hid (show Kp wr w6 from hk6)
        clear hk6
        go_wp2_with fail
        go_ret2
        exact ⟨rfl, HK.out.then (HL.out.then HK6.out)⟩
end Go.Proofs.YtjcfejncjdhplaaGreatDoor
