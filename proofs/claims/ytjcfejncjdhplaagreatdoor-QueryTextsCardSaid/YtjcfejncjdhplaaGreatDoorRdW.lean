/-
  query.read: the units and the numbers of a text's words.
-/
import Derived.Test.YtjcfejncjdhplaaGreatDoorFormW
import Derived.Deep.AppendLies
set_option linter.unusedSectionVars false
set_option linter.unusedVariables false
set_option linter.unusedSimpArgs false
namespace Go.Proofs.YtjcfejncjdhplaaGreatDoor
open Go.RowKit Go Klp
theorem infoR : (Tryz.prog.info? 46).map (fun i => (i.zero, i.size, i.bytes)) = some (some (.string ByteArray.empty), 1, 16) := by kernel_rfl
theorem results_cellT {P : Program} {fn : Func} {t u : Tmp} {ty : TypeId} (h : fn.results = #[.cell t ty, .tmp u]) {tmps : Array Value} {w : World} {g e : Nat} {cs : Array Value} {fr : Nat × Nat} {d : TypeDesc} (ht : tmps.getD t undef = .pointer (some ⟨g, 0, none⟩)) (hg : w.heap[g]? = some (.cells cs e fr))
    (hu : P.underlying ty = some d) (hd : (match d with | .struct _ | .array _ _ => true | _ => false) = true) (hi : (P.info? ty).map (·.size) = some cs.size) {v : Value} (hv : tmps.getD u undef = v) : (results fn tmps).run P w = .ok (.tuple #[.agg cs, v]) w := by
  rw [results_cell_tmp h]
  rw [ht, hv]
  have := run_loadVar_row w g e ty cs fr d hg hu hd hi
  simp [asAddr, this, Result.andThen]
abbrev noQ : Value := .agg #[.int .i64 0, .slice none 0 0, .slice none 0 0]
def qm (u : List UInt8) : List UInt8 := if u = [63] then [] else u
def RdP (R : Option (List (List UInt8) × List (List UInt8))) (k : Int) (r : Value) (b : Bool) (W : World) : Prop :=
  match R with
  | none => r = noQ ∧ b = false
  | some (u, n) => b = true ∧ ∃ vu vn, r = .agg #[.int .i64 k, vu, vn] ∧ Sts W vu (u.map qm) ∧ Sts W vn n
structure RdI (w : World) (k : Int) (kw : List UInt8) (vu vn : Value) (u n : List (List UInt8)) (W : World) : Prop where
  q : W.heap[w.heap.size + 2]? = some (.cells #[.int .i64 k, vu, vn] 26 (0, 0))
  r : W.heap[w.heap.size + 1]? = some (.cells #[.int .i64 0, .slice none 0 0, .slice none 0 0] 26 (0, 0))
  want : RowT W (w.heap.size + 3) (spl kw)
  ownU : W.ownsRow (w.heap.size + 4) 9 1 vu u.length (u.map sv)
  ownN : W.ownsRow (w.heap.size + 4) 46 1 vn n.length (n.map sv)
  below : Below w.heap.size w W
  big : w.heap.size + 4 ≤ W.heap.size
theorem own_set {w : World} {base e size n : Nat} {v : Value} {xs : List Value} (h : w.ownsRow base e size v n xs) {p i : Nat} (hp : p < base) (u : Value) : (w.setCell ⟨p, i, none⟩ u).ownsRow base e size v n xs := by
  rcases h.2 with h0 | ⟨g, cap, cur, h', hb, hg, hr⟩
  · exact ⟨h.1, .inl h0⟩
  · exact ⟨h.1, .inr ⟨g, cap, cur, h', hb, (Below.heap_setCell _ _ _ _ (by simp; omega)).trans hg, hr⟩⟩
theorem set3_cells1 {w : World} {b T : Nat} {x0 x1 x2 : Value} (h : w.heap[b]? = some (.cells #[x0, x1, x2] T (0, 0))) (y : Value) : (w.setCell ⟨b, 1, none⟩ y).heap[b]? = some (.cells #[x0, y, x2] T (0, 0)) := by
  simp [World.setCell, Array.getElem?_modify, h]
theorem set3_cells2 {w : World} {b T : Nat} {x0 x1 x2 : Value} (h : w.heap[b]? = some (.cells #[x0, x1, x2] T (0, 0))) (y : Value) : (w.setCell ⟨b, 2, none⟩ y).heap[b]? = some (.cells #[x0, x1, y] T (0, 0)) := by
  simp [World.setCell, Array.getElem?_modify, h]
theorem own_no {w : World} {base e size n : Nat} {v : Value} {xs : List Value} (h : w.ownsRow base e size v n xs) {p : Nat} (hp : p < base) : some p ≠ v.ownBlock := fun e => by
  have := (h.lt p e.symm).1
  omega
theorem own_two {w : World} {base base' e e' n n' : Nat} {v v' : Value} {xs xs' : List Value} (h : w.ownsRow base e 1 v n xs) (h' : w.ownsRow base' e' 1 v' n' xs') (he : e ≠ e') : v.ownBlock = none ∨ v.ownBlock ≠ v'.ownBlock := by
  cases hv : v.ownBlock with
  | none => exact .inl rfl
  | some g =>
    refine .inr fun e1 => he ?_
    rcases h.2 with ⟨rfl, _⟩ | ⟨g1, cap, cur, rfl, _, hg, _⟩
    · cases hv
    · rcases h'.2 with ⟨rfl, _⟩ | ⟨g2, cap', cur', rfl, _, hg', _⟩
      · cases e1
      · cases hv
        cases e1
        rw [hg] at hg'
        cases hg'
        rfl
theorem RdI.unit {w W W5 : World} {k : Int} {kw x : List UInt8} {vu vn v5 : Value} {u n : List (List UInt8)} {ob : Obj} (h : RdI w k kw vu vn u n W) (ho : W5.ownsRow (w.heap.size + 4) 9 1 v5 (u.length + 1) (u.map sv ++ [sv x])) (hg : (W.alloc ob).grownBy W5 vu.ownBlock) :
    RdI w k kw v5 vn (u ++ [x]) n (W5.setCell ⟨w.heap.size + 2, 1, none⟩ v5) := by
  have hb := h.big
  have hB : ∀ p, p < w.heap.size + 4 → W5.heap[p]? = W.heap[p]? := fun p hp => (hg.block p (by simp; omega) (own_no h.ownU hp)).trans (@heap_alloc_old _ _ _ (by omega))
  have hs := hg.size
  have hw := h.below.size
  simp at hs
  refine ⟨set3_cells1 ((hB _ (by omega)).trans h.q) _, ?_, ?_, ?_, ?_, ?_, ?_⟩
  · exact (Below.heap_setCell _ _ _ _ (by simp)).trans ((hB _ (by omega)).trans h.r)
  · exact (Below.heap_setCell _ _ _ _ (by simp)).trans ((hB _ (by omega)).trans h.want)
  · rw [List.map_append, List.length_append]; exact own_set ho (by omega) _
  · exact own_set ((h.ownN.alloc ob).kept hg (own_two (h.ownN.alloc ob) (h.ownU.alloc ob) (by decide))) (by omega) _
  · exact ((Below.alloc h.below hw _).grown hg (by simp; omega) (fun k e => by have := (h.ownU.lt k e).1; omega)).setCell (p := ⟨w.heap.size + 2, 1, none⟩) (by simp) _
  · simp; omega
theorem RdI.number {w W W5 : World} {k : Int} {kw x : List UInt8} {vu vn v5 : Value} {u n : List (List UInt8)} {ob : Obj} (h : RdI w k kw vu vn u n W) (ho : W5.ownsRow (w.heap.size + 4) 46 1 v5 (n.length + 1) (n.map sv ++ [sv x])) (hg : (W.alloc ob).grownBy W5 vn.ownBlock) :
    RdI w k kw vu v5 u (n ++ [x]) (W5.setCell ⟨w.heap.size + 2, 2, none⟩ v5) := by
  have hb := h.big
  have hB : ∀ p, p < w.heap.size + 4 → W5.heap[p]? = W.heap[p]? := fun p hp => (hg.block p (by simp; omega) (own_no h.ownN hp)).trans (@heap_alloc_old _ _ _ (by omega))
  have hs := hg.size
  have hw := h.below.size
  simp at hs
  refine ⟨set3_cells2 ((hB _ (by omega)).trans h.q) _, ?_, ?_, ?_, ?_, ?_, ?_⟩
  · exact (Below.heap_setCell _ _ _ _ (by simp)).trans ((hB _ (by omega)).trans h.r)
  · exact (Below.heap_setCell _ _ _ _ (by simp)).trans ((hB _ (by omega)).trans h.want)
  · exact own_set ((h.ownU.alloc ob).kept hg (own_two (h.ownU.alloc ob) (h.ownN.alloc ob) (by decide))) (by omega) _
  · rw [List.map_append, List.length_append]; exact own_set ho (by omega) _
  · exact ((Below.alloc h.below hw _).grown hg (by simp; omega) (fun k e => by have := (h.ownN.lt k e).1; omega)).setCell (p := ⟨w.heap.size + 2, 2, none⟩) (by simp) _
  · simp; omega
theorem RdI.q5U {w W W5 : World} {k : Int} {kw : List UInt8} {vu vn : Value} {u n : List (List UInt8)} {ob : Obj} (h : RdI w k kw vu vn u n W) (hg : (W.alloc ob).grownBy W5 vu.ownBlock) : W5.cell? ⟨w.heap.size + 1 + 1, 1, none⟩ = some vu ∧ W5.frozen? ⟨w.heap.size + 1 + 1, 1, none⟩ = false := by
  have hb := h.big
  have hq : W5.heap[w.heap.size + 1 + 1]? = _ := ((hg.block _ (by simp; omega) (own_no h.ownU (by omega))).trans (@heap_alloc_old _ _ _ (by omega))).trans h.q
  exact ⟨by rw [Lib.cell_of_heap hq]; rfl, Lib.frozen_of_heap hq 1⟩
theorem RdI.q5N {w W W5 : World} {k : Int} {kw : List UInt8} {vu vn : Value} {u n : List (List UInt8)} {ob : Obj} (h : RdI w k kw vu vn u n W) (hg : (W.alloc ob).grownBy W5 vn.ownBlock) : W5.cell? ⟨w.heap.size + 1 + 1, 2, none⟩ = some vn ∧ W5.frozen? ⟨w.heap.size + 1 + 1, 2, none⟩ = false := by
  have hb := h.big
  have hq : W5.heap[w.heap.size + 1 + 1]? = _ := ((hg.block _ (by simp; omega) (own_no h.ownN (by omega))).trans (@heap_alloc_old _ _ _ (by omega))).trans h.q
  exact ⟨by rw [Lib.cell_of_heap hq]; rfl, Lib.frozen_of_heap hq 2⟩
theorem own_set2 {w : World} {base e size n : Nat} {v : Value} {xs : List Value} (h : w.ownsRow base e size v n xs) {p i : Nat} (hp : v.ownBlock ≠ some p) (u : Value) : (w.setCell ⟨p, i, none⟩ u).ownsRow base e size v n xs := by
  rcases h.2 with h0 | ⟨g, cap, cur, rfl, hb, hg, hr⟩
  · exact ⟨h.1, .inl h0⟩
  · exact ⟨h.1, .inr ⟨g, cap, cur, rfl, hb, (Below.heap_setCell _ _ _ _ (fun q => hp (by have q' : g = p := q; rw [q']; rfl))).trans hg, hr⟩⟩
theorem RdI.blank {w W : World} {k : Int} {kw : List UInt8} {vn : Value} {g c j : Nat} {u n : List (List UInt8)} (h : RdI w k kw (.slice (some ⟨g, 0, none⟩) u.length c) vn u n W) (hj : j < u.length) : RdI w k kw (.slice (some ⟨g, 0, none⟩) u.length c) vn (u.set j []) n (W.setCell ⟨g, j, none⟩ (sv [])) := by
  have hg := (h.ownU.lt g rfl).1
  refine ⟨(Below.heap_setCell _ _ _ _ (by simp; omega)).trans h.q, (Below.heap_setCell _ _ _ _ (by simp; omega)).trans h.r, (Below.heap_setCell _ _ _ _ (by simp; omega)).trans h.want, ?_, own_set2 h.ownN ?_ _, h.below.setCell (p := ⟨g, j, none⟩) (by simp; omega) _, by have := h.big; simp; omega⟩
  · rw [List.map_set, List.length_set]
    exact (h.ownU.stored j _).1
  · rcases own_two h.ownN h.ownU (by decide) with e | e
    · rw [e]; simp
    · exact e
def uq (u : List (List UInt8)) (j : Nat) : List (List UInt8) := (u.take j).map qm ++ u.drop j
theorem uq_len (u : List (List UInt8)) (j : Nat) : (uq u j).length = u.length := by unfold uq; simp; omega
theorem uq_at {u : List (List UInt8)} {j : Nat} (h : j < u.length) : (uq u j)[j]? = some u[j] := by
  unfold uq
  rw [List.getElem?_append_right (by simp; omega)]
  simp
  rw [Nat.min_eq_left (by omega)]
  simp
theorem uq_set {u : List (List UInt8)} {j : Nat} (h : j < u.length) : uq u (j + 1) = (uq u j).set j (qm u[j]) := by
  unfold uq
  rw [List.set_append_right _ _ (by simp; omega), take_snoc u j h, List.map_append, List.append_assoc, List.drop_eq_getElem_cons h]
  congr 1
  rw [List.length_map, List.length_take, Nat.min_eq_left (by omega), Nat.sub_self]
  rfl
theorem uq_keep {u : List (List UInt8)} {j : Nat} (h : j < u.length) (hq : u[j] ≠ [63]) : uq u (j + 1) = uq u j := by
  rw [uq_set h, qm, if_neg hq]
  apply List.ext_getElem?
  intro i
  rw [List.getElem?_set]
  split
  · rename_i e
    subst e
    rw [if_pos (by rw [uq_len]; exact h), uq_at h]
  · rfl
theorem uq_end (u : List (List UInt8)) : uq u u.length = u.map qm := by simp [uq]
theorem set3_zero {w : World} {b T : Nat} {x0 x1 x2 : Value} (h : w.heap[b]? = some (.cells #[x0, x1, x2] T (0, 0))) (y0 y1 y2 : Value) : (((w.setCell ⟨b, 0, none⟩ y0).setCell ⟨b, 1, none⟩ y1).setCell ⟨b, 2, none⟩ y2).heap[b]? = some (.cells #[y0, y1, y2] T (0, 0)) := by
  simp [World.setCell, Array.getElem?_modify, h]
theorem kp_set3 {w W : World} (h : Kp w W) {b : Nat} (hb : w.heap.size ≤ b) (y0 y1 y2 : Value) : Kp w (((W.setCell ⟨b, 0, none⟩ y0).setCell ⟨b, 1, none⟩ y1).setCell ⟨b, 2, none⟩ y2) :=
  ((Below.setCell h (p := ⟨b, 0, none⟩) hb _).setCell (p := ⟨b, 1, none⟩) hb _).setCell (p := ⟨b, 2, none⟩) hb _
theorem fit_len {N : UInt8} : ∀ {F W u n : List (List UInt8)}, F.length ≠ W.length → fit N F W u n = none
  | [], [], _, _, h => absurd rfl h
  | [], _ :: _, _, _, _ => by simp [fit]
  | _ :: _, [], _, _, _ => by simp [fit]
  | f :: F, x :: W, u, n, h => by
    have h' : F.length ≠ W.length := by simpa using h
    rw [fit]
    split
    · rfl
    · split
      · exact fit_len h'
      · split
        · exact fit_len h'
        · split
          · exact fit_len h'
          · rfl
theorem own_sl {w : World} {base e size n : Nat} {v : Value} {xs : List Value} (h : w.ownsRow base e size v n xs) : ∃ ao c, v = .slice ao n c := by
  rcases h.2 with ⟨rfl, rfl⟩ | ⟨g, cap, cur, rfl, _⟩
  · exact ⟨_, _, rfl⟩
  · exact ⟨_, _, rfl⟩
set_option maxRecDepth 100000 in
set_option maxHeartbeats 4000000 in
theorem read_walk (k : Int) (kw : List UInt8) (f s v : Value) (ws : List (List UInt8)) (R : Option (List (List UInt8) × List (List UInt8))) (hR : R = fit 78 (spl kw) ws [] []) (hk : kw.length ≤ 1000) (w : World) (hv : Sts w v ws) (hwl : ws.length ≤ 100000) :
    Calls Tryz.prog 20 #[.int .i64 k, .agg #[sv kw, f, s], v] w fun e w' => ∃ r b, e = .returned (.tuple #[r, .bool b]) ∧ RdP R k r b w' ∧ Kp w w' := by
  obtain ⟨ao, cap, rfl, hcap⟩ := hv.val
  obtain ⟨i0, HA⟩ : ∃ i0, _ := info_parts infoT
  obtain ⟨i1, HB⟩ : ∃ i1, _ := info_parts infoR
  have HA := Lib.hid HA
  have HB := Lib.hid HB
  have HV := Lib.hid hv
  have HR := Lib.hid hR
  clear hv hR
  go_enter Tryz.func20, Tryz.ntmps20
  go_wp2_with fail
  refine (split_walk kw (by omega) _).mono ?_
  rintro e w1 ⟨rfl, hr, hk⟩
  have hsz3 : (((w.alloc (.cells #[sv kw, f, s] 62)).alloc (.cells #[.int .i64 0, .slice none 0 0, .slice none 0 0] 26)).alloc (.cells #[.int .i64 k, .slice none 0 0, .slice none 0 0] 26)).heap.size = w.heap.size + 1 + 1 + 1 := by simp
  rw [hsz3] at hr ⊢
  have hI : RdI w k kw (.slice none 0 0) (.slice none 0 0) [] [] w1 := by
    have h1 := hk.size
    rw [hsz3] at h1
    have hlt := hr.lt
    have hb : ∀ p, p < w.heap.size + 1 + 1 + 1 → w1.heap[p]? = _ := fun p hp => hk.block p (by rw [hsz3]; exact hp)
    refine ⟨?_, ?_, hr, ⟨rfl, .inl ⟨rfl, rfl⟩⟩, ⟨rfl, .inl ⟨rfl, rfl⟩⟩, ?_, by omega⟩
    · refine (hb _ (by omega)).trans ?_
      have := heap_alloc_new ((w.alloc (.cells #[sv kw, f, s] 62)).alloc (.cells #[.int .i64 0, .slice none 0 0, .slice none 0 0] 26)) (.cells #[.int .i64 k, .slice none 0 0, .slice none 0 0] 26)
      rw [show ((w.alloc (.cells #[sv kw, f, s] 62)).alloc (.cells #[.int .i64 0, .slice none 0 0, .slice none 0 0] 26)).heap.size = w.heap.size + 1 + 1 from by simp] at this
      exact this
    · refine (hb _ (by omega)).trans ?_
      refine (@heap_alloc_old _ _ _ (by simp)).trans ?_
      have := heap_alloc_new (w.alloc (.cells #[sv kw, f, s] 62)) (.cells #[.int .i64 0, .slice none 0 0, .slice none 0 0] 26)
      rw [show (w.alloc (.cells #[sv kw, f, s] 62)).heap.size = w.heap.size + 1 from by simp] at this
      exact this
    · exact (((kp_alloc _ _).then (kp_alloc _ _)).then (kp_alloc _ _)).then hk
  have hwl2 : (spl kw).length ≤ 1001 := Nat.le_trans (spl_len kw) (by omega)
  obtain ⟨want, hwant⟩ : ∃ l, l = spl kw := ⟨_, rfl⟩
  rw [← hwant] at hwl2 ⊢
  have HW := Lib.hid hwant
  have HI := Lib.hid hI
  clear hI hr hk hsz3 hwant
  have hQ1 : w1.heap[w.heap.size + 1]? = _ := HI.out.r
  have hf1 : ∀ j, w1.frozen? ⟨w.heap.size + 1, j, none⟩ = false := fun j => Lib.frozen_of_heap hQ1 j
  have hq0 : w1.cell? ⟨w.heap.size + 1, 0, none⟩ = some (.int .i64 0) := by rw [Lib.cell_of_heap hQ1]; rfl
  have hq1 : w1.cell? ⟨w.heap.size + 1, 1, none⟩ = some (.slice none 0 0) := by rw [Lib.cell_of_heap hQ1]; rfl
  have hq2 : w1.cell? ⟨w.heap.size + 1, 2, none⟩ = some (.slice none 0 0) := by rw [Lib.cell_of_heap hQ1]; rfl
  have HQ1 := Lib.hid hQ1
  clear hQ1
  by_cases hlen : want.length = ws.length
  case neg =>
    have hne : (↑want.length : Int) ≠ ↑ws.length := by omega
    go_wp2_with fail
    refine bodyPost_ret (results_cellT (t := 6) (u := 7) (ty := 26) rfl rfl (set3_zero HQ1.out _ _ _) Tryz.underlying26 rfl (by kernel_rfl) rfl) rfl ?_
    refine ⟨_, _, rfl, ?_, kp_set3 HI.out.below (by omega) _ _ _⟩
    rw [HR.out, fit_len (by rw [← HW.out]; exact hlen)]
    exact ⟨rfl, rfl⟩
  clear hq0 hq1 hq2 hf1
  go_wp2_with fail
  go_loopw [27] (fun i W => ∃ (m : Nat) (u n : List (List UInt8)) (vu vn : Value), m ≤ want.length ∧ i = .int .i64 m ∧ RdI w k kw vu vn u n W ∧ R = fit 78 (want.drop m) (ws.drop m) u n ∧ u.length ≤ m ∧ n.length ≤ m) (fun i _ => 1002 - (intOf i).toNat)
  case atStart => exact ⟨0, [], [], _, _, Nat.zero_le _, rfl, HI.out, by rw [HW.out]; exact HR.out, Nat.le_refl _, Nat.le_refl _⟩
  case round =>
    obtain ⟨m, u, n, vu, vn, hm, rfl, hI, hfit, hu, hn⟩ := hrel
    have HJ := Lib.hid hI
    have HF := Lib.hid hfit
    clear hI hfit
    by_cases hlt : m < want.length
    · obtain ⟨b, o, rfl⟩ := HV.out.addr (by omega)
      have hcw := HV.out.cells HJ.out.below (i := m) (by omega)
      have hct : wr.cell? ⟨w.heap.size + 1 + 1 + 1, m, none⟩ = some (sv want[m]) := RowT.cell (g := w.heap.size + 1 + 1 + 1) (by have := HJ.out.want; rw [← HW.out] at this; exact this) hlt
      have hst : R = fit 78 (want[m] :: want.drop (m + 1)) (ws[m] :: ws.drop (m + 1)) u n := by rw [HF.out, List.drop_eq_getElem_cons hlt, List.drop_eq_getElem_cons (by omega : m < ws.length)]
      obtain ⟨x, hx⟩ : ∃ x, x = ws[m] := ⟨_, rfl⟩
      obtain ⟨y, hy⟩ : ∃ y, y = want[m] := ⟨_, rfl⟩
      rw [← hx] at hcw hst
      rw [← hy] at hct hst
      clear hx hy HF
      have hms : m < ws.length := by omega
      have hQ1 : wr.heap[w.heap.size + 1]? = _ := HJ.out.r
      have hQ2 : wr.heap[w.heap.size + 1 + 1]? = _ := HJ.out.q
      obtain ⟨au, cu, rfl⟩ := own_sl HJ.out.ownU
      obtain ⟨an, cn, rfl⟩ := own_sl HJ.out.ownN
      have hf1 : ∀ j, wr.frozen? ⟨w.heap.size + 1, j, none⟩ = false := fun j => Lib.frozen_of_heap hQ1 j
      have hq0 : wr.cell? ⟨w.heap.size + 1, 0, none⟩ = some (.int .i64 0) := by rw [Lib.cell_of_heap hQ1]; rfl
      have hq1 : wr.cell? ⟨w.heap.size + 1, 1, none⟩ = some (.slice none 0 0) := by rw [Lib.cell_of_heap hQ1]; rfl
      have hq2 : wr.cell? ⟨w.heap.size + 1, 2, none⟩ = some (.slice none 0 0) := by rw [Lib.cell_of_heap hQ1]; rfl
      have hr1 : wr.cell? ⟨w.heap.size + 1 + 1, 1, none⟩ = some (.slice au u.length cu) := by rw [Lib.cell_of_heap hQ2]; rfl
      have hr2 : wr.cell? ⟨w.heap.size + 1 + 1, 2, none⟩ = some (.slice an n.length cn) := by rw [Lib.cell_of_heap hQ2]; rfl
      have HQ := Lib.hid (And.intro hQ1 hQ2)
      clear hQ1 hQ2
      have HS := Lib.hid hst
      clear hst
      by_cases hx0 : x = []
      · subst hx0
        go_wp2_with fail
        refine bodyPost_ret (results_cellT (t := 6) (u := 7) (ty := 26) rfl rfl (set3_zero HQ.out.1 _ _ _) Tryz.underlying26 rfl (by kernel_rfl) rfl) rfl ?_
        refine ⟨_, _, rfl, ?_, kp_set3 HJ.out.below (by omega) _ _ _⟩
        rw [HS.out, fit, if_pos rfl]
        exact ⟨rfl, rfl⟩
      · have hxe : x.isEmpty = false := by
          cases x with
          | nil => exact absurd rfl hx0
          | cons => rfl
        have HX0 := Lib.hid hx0
        clear hx0
        by_cases hyU : y = [85]
        · subst hyU
          have hr1a : (wr.alloc (.cells #[sv x] 9)).cell? ⟨w.heap.size + 1 + 1, 1, none⟩ = some (.slice au u.length cu) := (Below.cell (kp_alloc wr _) (p := ⟨w.heap.size + 1 + 1, 1, none⟩) (World.block_lt_of_cell? wr _ hr1)).trans hr1
          go_wp2_with fail
          go_region_law (refine step_append_lies _ rfl (.tmp 43) (.tmp 48) 23 rfl (w.heap.size + 4) 9 i0 (.string ByteArray.empty) 1 16 Tryz.underlying23 HA.out.1 HA.out.2.1 HA.out.2.2.1 HA.out.2.2.2 rfl (by decide) (.slice au u.length cu) u.length (u.map sv) rfl ?_ ⟨wr.heap.size, 0, none⟩ 1 1 [sv x] rfl rfl ?_ ?_ ?_ ?_ ?_ ?_ (wr.heap.size + 1) ?_ ?_; (first | exact own_kp HJ.out.ownU ((kp_alloc _ _).then (Kp.drew _)) | exact own_kp HJ.out.ownU ((Kp.drew _).then (kp_alloc _ _)) | exact own_kp HJ.out.ownU (kp_alloc _ _)); ((intro t z h; match t, h with | 0, h => simp at h; subst h; simp [Addr.add])); ((intro z hz; simp at hz; subst hz; rfl)); (omega); (unfold maxLen; omega); (omega); (have := HJ.out.big; simp; omega); (simp); (intro g cap5 w5 hown5 hgrow5 _ _; obtain ⟨p1, p2, p3, p4, p5⟩ := hgrow5; have HG := Lib.hid (show (wr.alloc (.cells #[sv x] 9)).grownBy w5 (Value.slice au u.length cu).ownBlock from ⟨p1, p2, p3, p4, p5⟩); have HO5 := Lib.hid hown5; obtain ⟨c5, f5⟩ := RdI.q5U HJ.out HG.out; clear p1 p2 p3 p4 p5 hown5))
          all_goals (try go_wp2_with fail)
          all_goals (try go_roundw)
          all_goals first | exact ⟨m + 1, u ++ [x], n, _, _, by omega, by go_num, RdI.unit HJ.out HO5.out HG.out, by rw [HS.out, fit, if_neg HX0.out, if_pos rfl], by simp; omega, by omega⟩ | exact ⟨⟨m + 1, u ++ [x], n, _, _, by omega, by go_num, RdI.unit HJ.out HO5.out HG.out, by rw [HS.out, fit, if_neg HX0.out, if_pos rfl], by simp; omega, by omega⟩, by simp only [intOf]; omega⟩ | (simp only [intOf]; omega)
        · have hbU : (y == [85]) = false := by rw [beq_eq_false_iff_ne]; exact hyU
          by_cases hyN : y = [78]
          · subst hyN
            have HU78 := Lib.hid hyU
            clear hyU
            have hr2a : (wr.alloc (.cells #[sv x] 46)).cell? ⟨w.heap.size + 1 + 1, 2, none⟩ = some (.slice an n.length cn) := (Below.cell (kp_alloc wr _) (p := ⟨w.heap.size + 1 + 1, 2, none⟩) (World.block_lt_of_cell? wr _ hr2)).trans hr2
            go_wp2_with fail
            go_region_law (refine step_append_lies _ rfl (.tmp 55) (.tmp 60) 24 rfl (w.heap.size + 4) 46 i1 (.string ByteArray.empty) 1 16 Tryz.underlying24 HB.out.1 HB.out.2.1 HB.out.2.2.1 HB.out.2.2.2 rfl (by decide) (.slice an n.length cn) n.length (n.map sv) rfl ?_ ⟨wr.heap.size, 0, none⟩ 1 1 [sv x] rfl rfl ?_ ?_ ?_ ?_ ?_ ?_ (wr.heap.size + 1) ?_ ?_; (first | exact own_kp HJ.out.ownN ((kp_alloc _ _).then (Kp.drew _)) | exact own_kp HJ.out.ownN ((Kp.drew _).then (kp_alloc _ _)) | exact own_kp HJ.out.ownN (kp_alloc _ _)); ((intro t z h; match t, h with | 0, h => simp at h; subst h; simp [Addr.add])); ((intro z hz; simp at hz; subst hz; rfl)); (omega); (unfold maxLen; omega); (omega); (have := HJ.out.big; simp; omega); (simp); (intro g cap5 w5 hown5 hgrow5 _ _; obtain ⟨p1, p2, p3, p4, p5⟩ := hgrow5; have HG := Lib.hid (show (wr.alloc (.cells #[sv x] 46)).grownBy w5 (Value.slice an n.length cn).ownBlock from ⟨p1, p2, p3, p4, p5⟩); have HO5 := Lib.hid hown5; obtain ⟨c5, f5⟩ := RdI.q5N HJ.out HG.out; clear p1 p2 p3 p4 p5 hown5))
            all_goals (try go_wp2_with fail)
            all_goals (try go_roundw)
            all_goals first | exact ⟨m + 1, u, n ++ [x], _, _, by omega, by go_num, RdI.number HJ.out HO5.out HG.out, by rw [HS.out, fit, if_neg HX0.out, if_neg HU78.out, if_pos rfl], by omega, by simp; omega⟩ | exact ⟨⟨m + 1, u, n ++ [x], _, _, by omega, by go_num, RdI.number HJ.out HO5.out HG.out, by rw [HS.out, fit, if_neg HX0.out, if_neg HU78.out, if_pos rfl], by omega, by simp; omega⟩, by simp only [intOf]; omega⟩ | (simp only [intOf]; omega)
          · by_cases hyx : y = x
            · subst hyx
              have HY := Lib.hid (And.intro hyU hyN)
              have hbN : (y == [78]) = false := by rw [beq_eq_false_iff_ne]; exact hyN
              clear hyU hyN
              go_wp2_with fail
              go_roundw
              case rel => exact ⟨m + 1, u, n, _, _, by omega, by go_num, HJ.out, by rw [HS.out, fit, if_neg HX0.out, if_neg HY.out.1, if_neg HY.out.2, if_pos rfl], by omega, by omega⟩
              case measure => simp only [intOf]; omega
            · have HY := Lib.hid (And.intro hyU (And.intro hyN hyx))
              have hbN : (y == [78]) = false := by rw [beq_eq_false_iff_ne]; exact hyN
              have hbx : (y == x) = false := by rw [beq_eq_false_iff_ne]; exact hyx
              clear hyU hyN hyx
              go_wp2_with fail
              refine bodyPost_ret (results_cellT (t := 6) (u := 7) (ty := 26) rfl rfl (set3_zero HQ.out.1 _ _ _) Tryz.underlying26 rfl (by kernel_rfl) rfl) rfl ?_
              refine ⟨_, _, rfl, ?_, kp_set3 HJ.out.below (by omega) _ _ _⟩
              rw [HS.out, fit, if_neg HX0.out, if_neg HY.out.1, if_neg HY.out.2.1, if_neg HY.out.2.2]
              exact ⟨rfl, rfl⟩
    · obtain rfl : m = want.length := by omega
      have hR : R = some (u, n) := by rw [HF.out, List.drop_eq_nil_of_le (Nat.le_refl _), List.drop_eq_nil_of_le (by omega)]; rfl
      have HRR := Lib.hid hR
      clear hR HF
      obtain ⟨au, cu, rfl⟩ := own_sl HJ.out.ownU
      obtain ⟨an, cn, rfl⟩ := own_sl HJ.out.ownN
      have hQ2 : wr.heap[w.heap.size + 1 + 1]? = _ := HJ.out.q
      have hr1 : wr.cell? ⟨w.heap.size + 1 + 1, 1, none⟩ = some (.slice au u.length cu) := by rw [Lib.cell_of_heap hQ2]; rfl
      clear hQ2
      have hul : u.length ≤ 1001 := by omega
      go_wp2_with fail
      clear hr1
      go_loopw [75] (fun i W => ∃ (j : Nat), j ≤ u.length ∧ i = .int .i64 j ∧ RdI w k kw (.slice au u.length cu) (.slice an n.length cn) (uq u j) n W) (fun i _ => 1002 - (intOf i).toNat)
      case atStart => exact ⟨0, Nat.zero_le _, rfl, HJ.out⟩
      case round =>
        obtain ⟨j, hj, rfl, hL⟩ := hrel
        have HL := Lib.hid hL
        clear hL
        by_cases hlt : j < u.length
        · have ho := HL.out.ownU
          rw [uq_len] at ho
          obtain ⟨g, rfl⟩ : ∃ g, au = some ⟨g, 0, none⟩ := by
            rcases ho.2 with ⟨h1, h2⟩ | ⟨g, cap, cur, h1, _⟩
            · exact absurd h2 (by omega)
            · exact ⟨g, by injection h1⟩
          have hj1 : j < u.length * 1 := by omega
          have hc := ho.cellAt j hj1
          clear hj1
          rw [List.getElem?_map, uq_at hlt] at hc
          have hf := ho.frozenAt j
          have hQ2 : wr.heap[w.heap.size + 1 + 1]? = _ := HL.out.q
          have hr1 : wr.cell? ⟨w.heap.size + 1 + 1, 1, none⟩ = some (.slice (some ⟨g, 0, none⟩) u.length cu) := by rw [Lib.cell_of_heap hQ2]; rfl
          clear hQ2 ho
          have hst := uq_set hlt
          have hkp := uq_keep hlt
          obtain ⟨x, hx⟩ : ∃ x, x = u[j] := ⟨_, rfl⟩
          rw [← hx] at hc hst hkp
          simp only [Option.map_some] at hc
          clear hx
          by_cases hq : x = [63]
          · subst hq
            have HS := Lib.hid hst
            clear hst hkp
            go_wp2_with fail
            go_roundw
            case rel =>
              refine ⟨j + 1, by omega, by go_num, ?_⟩
              rw [HS.out]
              have := HL.out
              rw [← uq_len u j] at this
              have := this.blank (j := j) (by rw [uq_len]; exact hlt)
              rw [uq_len] at this
              exact this
            case measure => simp only [intOf]; omega
          · have HS := Lib.hid (hkp hq)
            have hb : (x == [63]) = false := by rw [beq_eq_false_iff_ne]; exact hq
            clear hst hkp hq
            go_wp2_with fail
            go_roundw
            case rel => exact ⟨j + 1, by omega, by go_num, by rw [HS.out]; exact HL.out⟩
            case measure => simp only [intOf]; omega
        · obtain rfl : j = u.length := by omega
          have hQ1 : wr.heap[w.heap.size + 1]? = _ := HL.out.r
          have hQ2 : wr.heap[w.heap.size + 1 + 1]? = _ := HL.out.q
          have hf1 : ∀ j, wr.frozen? ⟨w.heap.size + 1, j, none⟩ = false := fun j => Lib.frozen_of_heap hQ1 j
          have hq0 : wr.cell? ⟨w.heap.size + 1, 0, none⟩ = some (.int .i64 0) := by rw [Lib.cell_of_heap hQ1]; rfl
          have hq1 : wr.cell? ⟨w.heap.size + 1, 1, none⟩ = some (.slice none 0 0) := by rw [Lib.cell_of_heap hQ1]; rfl
          have hq2 : wr.cell? ⟨w.heap.size + 1, 2, none⟩ = some (.slice none 0 0) := by rw [Lib.cell_of_heap hQ1]; rfl
          have hr0 : wr.cell? ⟨w.heap.size + 1 + 1, 0, none⟩ = some (.int .i64 k) := by rw [Lib.cell_of_heap hQ2]; rfl
          have hr1 : wr.cell? ⟨w.heap.size + 1 + 1, 1, none⟩ = some (.slice au u.length cu) := by rw [Lib.cell_of_heap hQ2]; rfl
          have hr2 : wr.cell? ⟨w.heap.size + 1 + 1, 2, none⟩ = some (.slice an n.length cn) := by rw [Lib.cell_of_heap hQ2]; rfl
          have HQ := Lib.hid hQ1
          clear hQ1 hQ2
          go_wp2_with fail
          refine bodyPost_ret (results_cellT (t := 6) (u := 7) (ty := 26) rfl rfl (set3_zero HQ.out _ _ _) Tryz.underlying26 rfl (by kernel_rfl) rfl) rfl ?_
          refine ⟨_, _, rfl, ?_, kp_set3 HL.out.below (by omega) _ _ _⟩
          rw [HRR.out]
          have h1 := HL.out.ownU
          rw [uq_end] at h1
          refine ⟨rfl, _, _, rfl, Sts.ownV (own_set (own_set (own_set h1 (by omega) _) (by omega) _) (by omega) _), Sts.ownV (own_set (own_set (own_set HL.out.ownN (by omega) _) (by omega) _) (by omega) _)⟩
end Go.Proofs.YtjcfejncjdhplaaGreatDoor
