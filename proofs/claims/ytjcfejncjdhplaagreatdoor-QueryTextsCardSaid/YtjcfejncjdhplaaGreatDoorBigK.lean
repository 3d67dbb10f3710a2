/-
  Numbers in pieces, the reference's: take (klippe/klipperef01): from digits to pieces.
-/
import Derived.Test.YtjcfejncjdhplaaGreatDoorBigV
import Derived.Test.YtjcfejncjdhplaaGreatDoorBigU
import Derived.Deep.OwnRows
import Derived.BigRegionIn
import Derived.Deep.RegionHeld
import Derived.RangeFuncNested
set_option linter.unusedSectionVars false
set_option linter.unusedVariables false
set_option linter.unusedSimpArgs false
namespace Go.Proofs.YtjcfejncjdhplaaGreatDoor
open Go.RowKit Go Klp Go.Shelf
attribute [local go_sem] Oper.semAt_some
def RowB (w : World) (g : Nat) (o : List Int) : Prop := w.heap[g]? = some (.cells (o.map (Value.int .u64)).toArray 271 (0, 0))
theorem RowB.cell {w : World} {g : Nat} {o : List Int} (h : RowB w g o) {j : Nat} (hj : j < o.length) : w.cell? ⟨g, j, none⟩ = some (.int .u64 o[j]) := by
  unfold World.cell?
  simp only [show w.heap[g]? = _ from h]
  rw [← Array.getElem?_toList, List.getElem?_map, List.getElem?_eq_getElem hj]
  rfl
theorem RowB.frozen {w : World} {g : Nat} {o : List Int} (h : RowB w g o) (j : Nat) : w.frozen? ⟨g, j, none⟩ = false := by
  unfold World.frozen?
  simp only [show w.heap[g]? = _ from h]
  rfl
theorem RowB.lt {w : World} {g : Nat} {o : List Int} (h : RowB w g o) : g < w.heap.size := (Array.getElem?_eq_some_iff.1 h).1
theorem RowB.store {w : World} {g : Nat} {o : List Int} (h : RowB w g o) (j : Nat) (z : Int) : RowB (w.setCell ⟨g, j, none⟩ (.int .u64 z)) g (o.set j z) := by
  unfold RowB World.setCell
  simp only [Array.getElem?_modify, if_true, show w.heap[g]? = _ from h, Option.map_some]
  congr 1
  rw [List.map_set, ← List.setIfInBounds_toArray]
  rfl
theorem RowB.zeros (w : World) (N : Nat) : RowB (w.alloc (.cells (madeCells #[Value.int IntKind.u64 0] N) 271)) w.heap.size (List.replicate N 0) := by
  unfold RowB
  rw [heap_alloc_new, List.map_replicate, ← toList_madeCells_one]
theorem RowB.sls {w : World} {g : Nat} {o : List Int} (h : RowB w g o) {cap : Nat} (hc : o.length ≤ cap) : Sls w .u64 (.slice (some ⟨g, 0, none⟩) o.length cap) o :=
  ⟨_, cap, rfl, hc, (fun e => by cases e), fun _ => ⟨g, 0, rfl, fun i hi => by rw [Nat.zero_add]; exact h.cell hi⟩⟩
def stepD (d : Int) (s : List Int × Int) (x : Nat × Int) : List Int × Int := (s.1.set x.1 ((s.2 * 1000000000 + x.2) / d), (s.2 * 1000000000 + x.2) % d)
def stD (d : Int) (n : Nat) (l : List (Nat × Int)) : List Int × Int := l.foldl (stepD d) (List.replicate n 0, 0)
theorem stD_snoc (d : Int) (n : Nat) (l : List (Nat × Int)) (x : Nat × Int) : stD d n (l ++ [x]) = stepD d (stD d n l) x := by simp [stD]
theorem stD_down {d : Int} (hd : 0 < d) (la : List Int) : ∀ k, k ≤ la.length → (stD d la.length ((downB la k).map (·.1))).1.length = la.length ∧
    pv 1000000000 (la.drop (la.length - k)) = pv 1000000000 ((stD d la.length ((downB la k).map (·.1))).1.drop (la.length - k)) * d + (stD d la.length ((downB la k).map (·.1))).2
  | 0, _ => by
    refine ⟨List.length_replicate, ?_⟩
    rw [Nat.sub_zero, List.drop_eq_nil_of_le (Nat.le_refl _)]
    show _ = pv 1000000000 ((List.replicate la.length 0).drop la.length) * d + 0
    rw [List.drop_eq_nil_of_le (by simp)]
    simp [pv]
  | k + 1, hk => by
    obtain ⟨h1, h2⟩ := stD_down hd la k (by omega)
    obtain ⟨m, hm⟩ : ∃ m, m = la.length - 1 - k := ⟨_, rfl⟩
    have hml : m < la.length := by omega
    rw [downB_succ la k m hm hml, List.map_append, List.map_cons, List.map_nil, stD_snoc]
    generalize stD d la.length ((downB la k).map (·.1)) = s at h1 h2
    obtain ⟨o, r⟩ := s
    refine ⟨by show (o.set _ _).length = _; rw [List.length_set]; exact h1, ?_⟩
    have hmo : m < o.length := by rw [h1]; exact hml
    rw [show la.length - k = m + 1 from by omega] at h2
    rw [show la.length - (k + 1) = m from by omega]
    show _ = pv 1000000000 ((o.set m ((r * 1000000000 + la[m]) / d)).drop m) * d + (r * 1000000000 + la[m]) % d
    rw [pv_drop _ la m hml, pv_drop _ (o.set m _) m (by rw [List.length_set]; exact hmo), List.getElem_set_self, List.drop_set_of_lt (by omega), h2]
    have h3 := Int.emod_add_mul_ediv (r * 1000000000 + la[m]) d
    grind
structure DivI (w0 : World) (Bb Bq g R : Nat) (la : List Int) (d : Int) (vb : Value) (pre : List (Pz la)) (W : World) : Prop where
  box : Boxed W Bb 190 vb
  boxq : Boxed W Bq 190 (.slice (some ⟨g, 0, none⟩) la.length la.length)
  below : Below w0.heap.size w0 W
  ex : ∃ (o : List Int) (r : Int), stD d la.length (pre.map (·.1)) = (o, r) ∧ RowB W g o ∧ Boxed W R 271 (.int .u64 r) ∧ o.length = la.length ∧ Dg 1000000000 o ∧ 0 ≤ r ∧ r < d
theorem blk_own {A B : World} {row : Option Nat} (hg : A.grownBy B row) (hr : ∀ r, row = some r → ∃ o : Obj, A.heap[r]? = some o ∧ o.isCells = false) {k : Nat} {c : Array Value} {t : Nat} {fr : Nat × Nat} (h : A.heap[k]? = some (.cells c t fr)) : B.heap[k]? = some (.cells c t fr) := by
  refine (hg.block k (Array.getElem?_eq_some_iff.1 h).1 (fun e => ?_)).trans h
  obtain ⟨o, ho, hc⟩ := hr k e.symm
  rw [h] at ho
  cases ho
  cases hc
theorem divI_own {w0 : World} {Bb Bq g R : Nat} {la : List Int} {d : Int} {vb : Value} {B : Nat} (hB : w0.heap.size ≤ B) : OwnFrom B (DivI w0 Bb Bq g R la d vb) := fun s W W' row hs hg hr => by
  have hr' : ∀ r, row = some r → ∃ o : Obj, W.heap[r]? = some o ∧ o.isCells = false := fun r e => (hr r e).2
  obtain ⟨o, r, h1, h3, h4, h5⟩ := hs.ex
  exact ⟨blk_own hg hr' hs.box, blk_own hg hr' hs.boxq, hs.below.grown hg hs.below.size (fun k e => Nat.le_trans hB (hr k e).1), ⟨o, r, h1, blk_own hg hr' h3, blk_own hg hr' h4, h5⟩⟩
def Fact11 (g n B : Nat) (o : List Int) (r : Int) (j : Nat) (v : Value) (w : World) : Prop :=
  match j with
  | 0 => v = .slice (some ⟨g, 0, none⟩) n n
  | 1 => ∃ m, m ≤ o.length ∧ v = .slice (some ⟨g, 0, none⟩) m n ∧ Pc 1000000000 (o.take m) ∧ pv 1000000000 (o.take m) = pv 1000000000 o
  | 2 => v = .int .u64 r
  | 3 => ∃ b, v = .slice (some ⟨b, 0, none⟩) 1 1 ∧ B ≤ b ∧ Sls w .u64 (.slice (some ⟨b, 0, none⟩) 1 1) [r]
  | 4 => ∃ b m, v = .slice (some ⟨b, 0, none⟩) m 1 ∧ B ≤ b ∧ ∃ l, Sls w .u64 (.slice (some ⟨b, 0, none⟩) m 1) l ∧ Pc 1000000000 l ∧ pv 1000000000 l = r
  | 6 => ∃ b m, v = .slice (some ⟨b, 0, none⟩) m 1 ∧ B ≤ b ∧ ∃ l, Sls w .u64 (.slice (some ⟨b, 0, none⟩) m 1) l ∧ Pc 1000000000 l ∧ pv 1000000000 l = r
  | _ => True
theorem Fact11.kp {g n B : Nat} {o : List Int} {r : Int} {j : Nat} {v : Value} {w w' : World} (h : Fact11 g n B o r j v w) (hk : Kp w w') : Fact11 g n B o r j v w' := by
  unfold Fact11 at h ⊢
  split
  all_goals first | exact h | trivial | skip
  · obtain ⟨b, h1, h2, h3⟩ := h
    exact ⟨b, h1, h2, h3.kp hk⟩
  · obtain ⟨b, m, h1, h2, l, h3, h4⟩ := h
    exact ⟨b, m, h1, h2, l, h3.kp hk, h4⟩
  · obtain ⟨b, m, h1, h2, l, h3, h4⟩ := h
    exact ⟨b, m, h1, h2, l, h3.kp hk, h4⟩
theorem Fact11.set {g n B p i : Nat} {o : List Int} {r : Int} {j : Nat} {v u : Value} {w : World} (h : Fact11 g n B o r j v w) (hp : p < B) : Fact11 g n B o r j v (w.setCell ⟨p, i, none⟩ u) := by
  unfold Fact11 at h ⊢
  split
  all_goals first | exact h | trivial | skip
  · obtain ⟨b, h1, h2, h3⟩ := h
    exact ⟨b, h1, h2, sls_far h3 (fun a e => by cases e; show p < b; omega)⟩
  · obtain ⟨b, m, h1, h2, l, h3, h4⟩ := h
    exact ⟨b, m, h1, h2, l, sls_far h3 (fun a e => by cases e; show p < b; omega), h4⟩
  · obtain ⟨b, m, h1, h2, l, h3, h4⟩ := h
    exact ⟨b, m, h1, h2, l, sls_far h3 (fun a e => by cases e; show p < b; omega), h4⟩
structure Wd11 (w0 W : World) (Bq g n : Nat) (o : List Int) (L : Array Bool) (w : World) : Prop where
  below : Below w0.heap.size w0 w
  size : W.heap.size ≤ w.heap.size
  same : ∀ k, k < W.heap.size → k ≠ Bq → w.heap[k]? = W.heap[k]?
  box : ∃ u, Boxed w Bq 190 u ∧ (L.getD 5 false = false → u = .slice (some ⟨g, 0, none⟩) n n) ∧ (L.getD 5 false = true → Fact11 g n 0 o 0 1 u w)
  ord : L.getD 5 false = true → L.getD 0 false = true ∧ L.getD 1 false = true
theorem Wd11.kp {w0 W : World} {Bq g n : Nat} {o : List Int} {L : Array Bool} {w w' : World} {i : Nat} (h : Wd11 w0 W Bq g n o L w) (hk : Kp w w') (hi : i ≠ 5) : Wd11 w0 W Bq g n o (L.setIfInBounds i true) w' := by
  obtain ⟨h1, h2, h3, ⟨u, h4, h5, h6⟩, h7⟩ := h
  refine ⟨Kp.then h1 hk, Nat.le_trans h2 hk.size, fun k hk1 hk2 => (hk.block k (by omega)).trans (h3 k hk1 hk2), ⟨u, (hk.block _ h4.lt).trans h4, ?_, ?_⟩, fun e => ?_⟩
  · rw [getD_set_ne (by omega)]
    exact h5
  · rw [getD_set_ne (by omega)]
    exact fun e => (h6 e).kp hk
  · rw [getD_set_ne (by omega)] at e
    obtain ⟨a1, a2⟩ := h7 e
    refine ⟨?_, ?_⟩
    · by_cases h : i = 0
      · subst h
        exact getD_set_eq (by
          rcases Nat.lt_or_ge 0 L.size with hs | hs
          · exact hs
          · rw [Array.getD_eq_getD_getElem?, Array.getElem?_eq_none hs] at a1; cases a1)
      · rw [getD_set_ne (fun e => h e.symm)]; exact a1
    · by_cases h : i = 1
      · subst h
        exact getD_set_eq (by
          rcases Nat.lt_or_ge 1 L.size with hs | hs
          · exact hs
          · rw [Array.getD_eq_getD_getElem?, Array.getElem?_eq_none hs] at a2; cases a2)
      · rw [getD_set_ne (fun e => h e.symm)]; exact a2
theorem results_ct {fn : Func} {k u : Nat} {ad : Addr} {ao : Option Addr} {n c : Nat} (h : fn.results = #[.cell k 190, .tmp u]) (tmps : Array Value) (w : World) (h1 : tmps[k]? = some (.pointer (some ad))) (h2 : w.cell? ad = some (.slice ao n c)) {v : Value} (h3 : tmps[u]? = some v) :
    (results fn tmps).run Tryz.prog w = .ok (.tuple #[.slice ao n c, v]) w := by
  have e1 : tmps.getD k undef = .pointer (some ad) := by rw [Array.getD_eq_getD_getElem?, h1]; rfl
  have e3 : tmps.getD u undef = v := by rw [Array.getD_eq_getD_getElem?, h3]; rfl
  simp [results, h, go_sem, h1, h3, h2, Result.andThen]
set_option maxRecDepth 100000 in
set_option maxHeartbeats 40000000 in
theorem divide1_in (la : List Int) (va vb : Value) (d : Int) (w : World) (hl : la.length ≤ 10000) (ha : Sls w .u64 va la) (hb : Sls w .u64 vb [d]) (pa : Pc 1000000000 la) (hd : 0 < d) (hd' : d < 1000000000) (hle : d ≤ pv 1000000000 la) :
    CallsIn Fence.wide 5 Tryz.prog 112 #[va, vb] w fun e w' => ∃ q r, e = .returned (.tuple #[q, r]) ∧ Pcs w' .u64 1000000000 q (pv 1000000000 la / d) ∧ Pcs w' .u64 1000000000 r (pv 1000000000 la % d) ∧ Kp w w' := by
  obtain ⟨aa, ca, rfl, hca⟩ := ha.val
  obtain ⟨ab, cb, rfl, hcb⟩ := hb.val
  obtain ⟨i0, hi, hz0, hz1, hz2⟩ := info_parts infoU
  have HA := Lib.hid ha; clear ha
  have HB := Lib.hid hb; clear hb
  have PA := Lib.hid pa; clear pa
  refine callsIn_of_wp_marks Tryz.func112 rfl trivial ?_ rfl
  simp only [Tryz.ntmps112, List.size_toArray, List.length_cons, List.length_nil, Nat.reduceAdd, Nat.reduceSub, Array.replicate_succ, Array.replicate_zero, List.push_toArray, List.append_toArray, List.nil_append, List.cons_append]
  have hmk := run_make_row' (P := Tryz.prog) 190 271 (.int .u64 0) 8 Tryz.underlying190 infoU rfl .i64 .i64 la.length (by omega) (by omega)
  gi_wp2_with fail
  have hKp0 : Kp w ((w.alloc (.cells #[.slice ab 1 cb] 190)).alloc (.cells #[.slice none 0 0] 190)) := (kp_alloc w _).then (kp_alloc _ _)
  have pb : Pc 1000000000 [d] := ⟨Dg.cons (by omega) hd' (Dg.nil _), fun x hx => by simp at hx; omega⟩
  refine ⟨trivial, (callsIn_wide.2 (order_walk la [d] _ _ _ (by omega) (by simp) (HA.out.kp hKp0) (HB.out.kp hKp0) PA.out pb)).mono ?_⟩
  rintro e wc ⟨rfl, hk⟩
  rw [pv_one]
  have hs : ¬ sgn (pv 1000000000 la) d < 0 := by unfold sgn; split <;> (try split) <;> omega
  have hb1 : Boxed ((w.alloc (.cells #[.slice ab 1 cb] 190)).alloc (.cells #[.slice none 0 0] 190)) w.heap.size 190 (.slice ab 1 cb) := (Boxed.new w _ _).alloc _
  have hq1 : Boxed ((w.alloc (.cells #[.slice ab 1 cb] 190)).alloc (.cells #[.slice none 0 0] 190)) (w.heap.size + 1) 190 (.slice none 0 0) := by
    have := Boxed.new (w.alloc (.cells #[.slice ab 1 cb] 190)) 190 (.slice none 0 0)
    rw [World.size_alloc] at this
    exact this
  have HB1 : Hid (Boxed wc w.heap.size 190 (.slice ab 1 cb)) := Lib.hid ((hk.block _ hb1.lt).trans hb1)
  have HQ1 : Hid (Boxed wc (w.heap.size + 1) 190 (.slice none 0 0)) := Lib.hid ((hk.block _ hq1.lt).trans hq1)
  have HK := Lib.hid (hKp0.then hk)
  have hsz : w.heap.size + 2 ≤ wc.heap.size := by have := hk.size; simp only [World.size_alloc] at this; omega
  clear hk hKp0 hb1 hq1
  have c1 := HB1.out.cell
  have c2 := HQ1.out.cell
  have f2 := HQ1.out.frozen
  have c2a : ∀ o, (wc.alloc o).cell? ⟨w.heap.size + 1, 0, none⟩ = some (.slice none 0 0) := fun o => (HQ1.out.alloc o).cell
  have f2a : ∀ o, (wc.alloc o).frozen? ⟨w.heap.size + 1, 0, none⟩ = false := fun o => (HQ1.out.alloc o).frozen
  gi_wp2_with fail
  refine ⟨trivial, (back_in Fence.wide 4 trivial rfl aa la.length ca _).mono ?_⟩
  rintro e w' ⟨rfl, rfl⟩
  obtain ⟨W0, hW0⟩ : ∃ W0, ((((wc.alloc (Obj.cells (madeCells #[Value.int IntKind.u64 0] la.length) 271)).setCell ⟨w.heap.size + 1, 0, none⟩ (Value.slice (some ⟨wc.heap.size, 0, none⟩) la.length la.length)).alloc (Obj.cells #[Value.int IntKind.u64 0] 271)).alloc (Obj.cells #[Value.slice aa la.length ca] 190)) = W0 := ⟨_, rfl⟩
  have hszW : W0.heap.size = wc.heap.size + 3 := by rw [← hW0]; simp
  have hBs : Boxed W0 (wc.heap.size + 2) 190 (.slice aa la.length ca) := by
    have := Boxed.new (((wc.alloc (Obj.cells (madeCells #[Value.int IntKind.u64 0] la.length) 271)).setCell ⟨w.heap.size + 1, 0, none⟩ (Value.slice (some ⟨wc.heap.size, 0, none⟩) la.length la.length)).alloc (Obj.cells #[Value.int IntKind.u64 0] 271)) 190 (.slice aa la.length ca)
    rw [hW0] at this
    have e : (((wc.alloc (Obj.cells (madeCells #[Value.int IntKind.u64 0] la.length) 271)).setCell ⟨w.heap.size + 1, 0, none⟩ (Value.slice (some ⟨wc.heap.size, 0, none⟩) la.length la.length)).alloc (Obj.cells #[Value.int IntKind.u64 0] 271)).heap.size = wc.heap.size + 2 := by simp
    rw [e] at this
    exact this
  have hb0 : Below w.heap.size w W0 := by
    rw [← hW0]
    have h1 := HK.out
    exact (((h1.alloc (by omega) _).setCell (p := ⟨w.heap.size + 1, 0, none⟩) (Nat.le_succ _) _).alloc (by simp; omega) _).alloc (by simp; omega) _
  have hI0 : DivI w w.heap.size (w.heap.size + 1) wc.heap.size (wc.heap.size + 1) la d (.slice ab 1 cb) [] W0 := by
    refine ⟨?_, ?_, hb0, List.replicate la.length 0, 0, rfl, ?_, ?_, List.length_replicate, ?_, by omega, hd⟩
    · rw [← hW0]
      exact (((HB1.out.alloc _).other (by omega) _).alloc _).alloc _
    · rw [← hW0]
      exact (((HQ1.out.alloc _).set _).alloc _).alloc _
    · rw [← hW0]
      have h1 := RowB.zeros wc la.length
      have h2 : wc.heap.size ≠ w.heap.size + 1 := by omega
      have h3 : ((wc.alloc (Obj.cells (madeCells #[Value.int IntKind.u64 0] la.length) 271)).setCell ⟨w.heap.size + 1, 0, none⟩ (Value.slice (some ⟨wc.heap.size, 0, none⟩) la.length la.length)).heap[wc.heap.size]? = (wc.alloc (Obj.cells (madeCells #[Value.int IntKind.u64 0] la.length) 271)).heap[wc.heap.size]? := Below.heap_setCell _ _ _ _ h2
      exact (Below.heap_alloc _ _ _ (by simp; omega)).trans ((Below.heap_alloc _ _ _ (by simp)).trans (h3.trans h1))
    · rw [← hW0]
      have := Boxed.new ((wc.alloc (Obj.cells (madeCells #[Value.int IntKind.u64 0] la.length) 271)).setCell ⟨w.heap.size + 1, 0, none⟩ (Value.slice (some ⟨wc.heap.size, 0, none⟩) la.length la.length)) 271 (.int .u64 0)
      have e : ((wc.alloc (Obj.cells (madeCells #[Value.int IntKind.u64 0] la.length) 271)).setCell ⟨w.heap.size + 1, 0, none⟩ (Value.slice (some ⟨wc.heap.size, 0, none⟩) la.length la.length)).heap.size = wc.heap.size + 1 := by simp
      rw [e] at this
      exact this.alloc _
    · intro x hx
      rw [(List.mem_replicate.1 hx).2]
      omega
  have hla : 0 < la.length := by
    rcases Nat.eq_zero_or_pos la.length with h | h
    · exfalso
      have := List.eq_nil_of_length_eq_zero h
      rw [this] at hle
      simp [pv] at hle
      omega
    · exact h
  obtain ⟨ba, oa, rfl⟩ := HA.out.addr hla
  have hsl : Sls W0 .u64 (.slice (some ⟨ba, oa, none⟩) la.length ca) la := HA.out.kp hb0
  rw [hW0]
  clear hW0 c1 c2 f2 c2a f2a hmk
  gi_wp2_with fail
  refine wpIn_rangeFunc_ownG (a₁ := ?a1) rfl (by omega) (gf := 247) (lb := #[.pointer (some ⟨wc.heap.size + 2, 0, none⟩)]) rfl trivial (enters_of Tryz.func247 (by kernel_rfl) rfl)
    (back_stops Fence.wide 4 trivial rfl (by omega) (wc.heap.size + 2) ba oa ca la (by omega) hla W0 hBs.lt hBs.cell hsl) Keep2.trans (Keep2.put hBs.lt (World.block_lt_of_cell? W0 _ (hsl.cells (Kp.refl _) hla))) (Below.refl _ _) (fun _ => rfl)
    (DivI w w.heap.size (w.heap.size + 1) wc.heap.size (wc.heap.size + 1) la d (.slice ab 1 cb)) (fun _ _ _ => False)
    (divI_own (by have := hb0.size; exact this)) (fun _ _ _ _ _ hs _ _ => hs) hI0 ?assign ?body ?done ?stop
  case assign =>
    intro l x W K hK
    gi_wp2
    exact hK
  case body =>
    rintro l pre ⟨⟨m, x⟩, hm, hx⟩ W hD hlen
    obtain ⟨o, r, hst, hrow, hrest, hol, hdo, hr0, hr1⟩ := hD.ex
    have hxb := PA.out.1.at hm
    rw [← hx] at hxb
    have HBx := Lib.hid hD.box
    have HBq := Lib.hid hD.boxq
    have HBl := Lib.hid hD.below
    have HRow := Lib.hid hrow
    have HRest := Lib.hid hrest
    have HDo := Lib.hid hdo
    have HSt := Lib.hid hst
    clear hD hrow hrest hdo hst
    obtain ⟨bb, ob, rfl⟩ := HB.out.addr (by simp)
    have gb := HB.out.cells HBl.out (i := 0) (by simp)
    rw [Nat.add_zero] at gb
    have hbb := World.block_lt_of_cell? w _ (HB.out.cells (Kp.refl _) (i := 0) (by simp))
    have g1 := HRest.out.cell
    have g2 := HRest.out.frozen
    have g3 := HBx.out.cell
    have g4 := HBq.out.cell
    have g5 := HRow.out.cell (j := m) (by rw [hol]; exact hm)
    have g6 := HRow.out.frozen m
    gi_wp2_with fail
    obtain ⟨W1, hW1⟩ : ∃ W1, W.setCell ⟨wc.heap.size + 1, 0, none⟩ (Value.int IntKind.u64 (r * 1000000000 + x)) = W1 := ⟨_, rfl⟩
    rw [hW1]
    have hbx1 : Boxed W1 w.heap.size 190 (.slice (some ⟨bb, ob, none⟩) 1 cb) := by rw [← hW1]; exact HBx.out.other (by omega) _
    have hbq1 : Boxed W1 (w.heap.size + 1) 190 (.slice (some ⟨wc.heap.size, 0, none⟩) la.length la.length) := by rw [← hW1]; exact HBq.out.other (by omega) _
    have hre1 : Boxed W1 (wc.heap.size + 1) 271 (.int .u64 (r * 1000000000 + x)) := by rw [← hW1]; exact HRest.out.set _
    have hro1 : RowB W1 wc.heap.size o := by rw [← hW1]; exact (Below.heap_setCell _ _ _ _ (by simp)).trans HRow.out
    have hbl1 : Below w.heap.size w W1 := by rw [← hW1]; exact HBl.out.setCell (p := ⟨wc.heap.size + 1, 0, none⟩) (by simp; omega) _
    have gb1 := HB.out.cells hbl1 (i := 0) (by simp)
    rw [Nat.add_zero] at gb1
    have k1 := hre1.cell
    have k2 := hre1.frozen
    have k3 := hbx1.cell
    have k4 := hbq1.cell
    have k5 := hro1.cell (j := m) (by rw [hol]; exact hm)
    have k6 := hro1.frozen m
    have HW1 := Lib.hid hW1
    clear g1 g2 g3 g4 g5 g6 gb hW1
    have HW := Lib.hid (And.intro hbx1 (And.intro hbq1 (And.intro hre1 (And.intro hro1 hbl1))))
    clear hbx1 hbq1 hre1 hro1 hbl1
    obtain ⟨y, hy⟩ : ∃ y, r * 1000000000 + x = y := ⟨_, rfl⟩
    rw [hy] at k1 HW ⊢
    have hy0 : 0 ≤ y := by omega
    have hy1 : y < 18446744073709551616 := by omega
    have c3 : ∀ w', (w' = W1.drew ∨ w' = W1.drew.setCell ⟨wc.heap.size, m, none⟩ (.int .u64 (y / d))) → w'.cell? ⟨w.heap.size, 0, none⟩ = some (.slice (some ⟨bb, ob, none⟩) 1 cb) := by
      rintro w' (rfl | rfl)
      · exact k3
      · exact (World.cell?_setCell_far _ _ _ _ (by show wc.heap.size ≠ w.heap.size; omega)).trans k3
    have c4 : ∀ w', (w' = W1.drew ∨ w' = W1.drew.setCell ⟨wc.heap.size, m, none⟩ (.int .u64 (y / d))) → w'.cell? ⟨w.heap.size + 1, 0, none⟩ = some (.slice (some ⟨wc.heap.size, 0, none⟩) la.length la.length) := by
      rintro w' (rfl | rfl)
      · exact k4
      · exact (World.cell?_setCell_far _ _ _ _ (by show wc.heap.size ≠ w.heap.size + 1; omega)).trans k4
    have c1 : ∀ w', (w' = W1.drew ∨ w' = W1.drew.setCell ⟨wc.heap.size, m, none⟩ (.int .u64 (y / d))) → w'.cell? ⟨wc.heap.size + 1, 0, none⟩ = some (.int .u64 y) := by
      rintro w' (rfl | rfl)
      · exact k1
      · exact (World.cell?_setCell_far _ _ _ _ (by show wc.heap.size ≠ wc.heap.size + 1; omega)).trans k1
    have cb1 : ∀ w', (w' = W1.drew ∨ w' = W1.drew.setCell ⟨wc.heap.size, m, none⟩ (.int .u64 (y / d))) → w'.cell? ⟨bb, ob + 0, none⟩ = some (.int .u64 d) := by
      rintro w' (rfl | rfl)
      · exact gb1
      · exact (World.cell?_setCell_far _ _ _ _ (by show wc.heap.size ≠ bb; omega)).trans gb1
    refine wpIn_region_any (by kernel_rfl) ?_
    refine any_inv (RegI 146 [(3, .pointer (some ⟨w.heap.size, 0, none⟩)), (4, .pointer (some ⟨w.heap.size + 1, 0, none⟩)), (6, .pointer (some ⟨wc.heap.size + 1, 0, none⟩)), (7, .int .i64 m)]
      [(33, .slice (some ⟨wc.heap.size, 0, none⟩) la.length la.length), (34, .int .i64 m), (35, .int .u64 y), (36, .slice (some ⟨bb, ob, none⟩) 1 cb), (37, .pointer (some ⟨bb, ob + 0, none⟩)), (38, .int .u64 d), (39, .int .u64 (y / d)),
       (40, .int .u64 y), (41, .slice (some ⟨bb, ob, none⟩) 1 cb), (42, .pointer (some ⟨bb, ob + 0, none⟩)), (43, .int .u64 d), (44, .int .u64 (y % d)), (45, .pointer (some ⟨wc.heap.size, 0 + m, none⟩))]
      W1.drew ⟨wc.heap.size, m, none⟩ ⟨wc.heap.size + 1, 0, none⟩ (.int .u64 (y / d)) (.int .u64 (y % d))) ?step ?fin _ _ _ _ ?init (by decide)
    case step =>
      intro L a w' i oo hI ho hn hp
      have hi : i < 15 := (Array.getElem?_eq_some_iff.1 ho).1
      rcases i with _ | _ | _ | _ | _ | _ | _ | _ | _ | _ | _ | _ | _ | _ | _ | i
      · obtain rfl := Option.some.inj ho
        exact op_gives rfl rfl (fun c h => by cases h) (fun f hf => by simp [Oper.about] at hf) (ex_load_s (eval_of (hI.fx (4, _) (by simp))) (c4 _ (hI.w3 hn (by omega)))) (hI.put rfl hn (by omega) (by omega) rfl rfl)
      · obtain rfl := Option.some.inj ho
        exact op_gives rfl rfl (fun c h => by cases h) (fun f hf => by simp [Oper.about] at hf) (ex_move (eval_of (hI.fx (7, _) (by simp)))) (hI.put rfl hn (by omega) (by omega) rfl rfl)
      · obtain rfl := Option.some.inj ho
        exact op_gives rfl rfl (fun c h => by cases h) (fun f hf => by simp [Oper.about] at hf) (ex_load_u (eval_of (hI.fx (6, _) (by simp))) (c1 _ (hI.w3 hn (by omega)))) (hI.put rfl hn (by omega) (by omega) rfl rfl)
      · obtain rfl := Option.some.inj ho
        exact op_gives rfl rfl (fun c h => by cases h) (fun f hf => by simp [Oper.about] at hf) (ex_load_s (eval_of (hI.fx (3, _) (by simp))) (c3 _ (hI.w3 hn (by omega)))) (hI.put rfl hn (by omega) (by omega) rfl rfl)
      · obtain rfl := Option.some.inj ho
        exact op_gives rfl rfl (fun c h => by cases h) (fun f hf => by simp [Oper.about] at hf) (ex_index (j := 0) (eval_of (hI.vl 3 (36, _) rfl (hp ⟨3, .data⟩ (by simp) rfl))) rfl (by omega)) (hI.put rfl hn (by omega) (by omega) rfl rfl)
      · obtain rfl := Option.some.inj ho
        exact op_gives rfl rfl (fun c h => by cases h) (fun f hf => by simp [Oper.about] at hf) (ex_load_u (eval_of (hI.vl 4 (37, _) rfl (hp ⟨4, .data⟩ (by simp) rfl))) (cb1 _ (hI.w3 hn (by omega)))) (hI.put rfl hn (by omega) (by omega) rfl rfl)
      · obtain rfl := Option.some.inj ho
        exact op_gives rfl rfl (fun c h => by cases h) (fun f hf => by simp [Oper.about] at hf) (ex_quo (eval_of (hI.vl 2 (35, _) rfl (hp ⟨2, .data⟩ (by simp) rfl))) (eval_of (hI.vl 5 (38, _) rfl (hp ⟨5, .data⟩ (by simp) rfl))) hy0 hy1 hd (by omega)) (hI.put rfl hn (by omega) (by omega) rfl rfl)
      · obtain rfl := Option.some.inj ho
        exact op_gives rfl rfl (fun c h => by cases h) (fun f hf => by simp [Oper.about] at hf) (ex_load_u (eval_of (hI.fx (6, _) (by simp))) (c1 _ (hI.w3 hn (by omega)))) (hI.put rfl hn (by omega) (by omega) rfl rfl)
      · obtain rfl := Option.some.inj ho
        exact op_gives rfl rfl (fun c h => by cases h) (fun f hf => by simp [Oper.about] at hf) (ex_load_s (eval_of (hI.fx (3, _) (by simp))) (c3 _ (hI.w3 hn (by omega)))) (hI.put rfl hn (by omega) (by omega) rfl rfl)
      · obtain rfl := Option.some.inj ho
        exact op_gives rfl rfl (fun c h => by cases h) (fun f hf => by simp [Oper.about] at hf) (ex_index (j := 0) (eval_of (hI.vl 8 (41, _) rfl (hp ⟨8, .data⟩ (by simp) rfl))) rfl (by omega)) (hI.put rfl hn (by omega) (by omega) rfl rfl)
      · obtain rfl := Option.some.inj ho
        exact op_gives rfl rfl (fun c h => by cases h) (fun f hf => by simp [Oper.about] at hf) (ex_load_u (eval_of (hI.vl 9 (42, _) rfl (hp ⟨9, .data⟩ (by simp) rfl))) (cb1 _ (hI.w3 hn (by omega)))) (hI.put rfl hn (by omega) (by omega) rfl rfl)
      · obtain rfl := Option.some.inj ho
        exact op_gives rfl rfl (fun c h => by cases h) (fun f hf => by simp [Oper.about] at hf) (ex_rem (eval_of (hI.vl 7 (40, _) rfl (hp ⟨7, .data⟩ (by simp) rfl))) (eval_of (hI.vl 10 (43, _) rfl (hp ⟨10, .data⟩ (by simp) rfl))) hy0 hy1 hd (by omega)) (hI.put rfl hn (by omega) (by omega) rfl rfl)
      · obtain rfl := Option.some.inj ho
        exact op_gives rfl rfl (fun c h => by cases h) (fun f hf => by simp [Oper.about] at hf) (ex_index (j := m) (eval_of (hI.vl 0 (33, _) rfl (hp ⟨0, .data⟩ (by simp) rfl))) (eval_of (hI.vl 1 (34, _) rfl (hp ⟨1, .data⟩ (by simp) rfl))) hm) (hI.put rfl hn (by omega) (by omega) rfl rfl)
      · obtain rfl := Option.some.inj ho
        obtain ⟨rfl, h1⟩ := hI.first hn rfl
        refine op_skips rfl rfl (fun c h => by cases h) (fun f hf => by simp [Oper.about] at hf) (ex_store (ad := ⟨wc.heap.size, m, none⟩) ?_ (eval_of (hI.vl 6 (39, _) rfl (hp ⟨6, .data⟩ (by simp) rfl))) k5 k6) h1
        have := eval_of (hI.vl 12 (45, _) rfl (hp ⟨12, .data⟩ (by simp) rfl))
        rw [Nat.zero_add] at this
        exact this
      · obtain rfl := Option.some.inj ho
        obtain ⟨rfl, h1⟩ := hI.second hn rfl (fun j hj => by
          rcases j with _ | _ | _ | _ | _ | _ | _ | _ | _ | _ | _ | _ | _ | _ | j
          all_goals first | omega | exact hp ⟨_, .phase⟩ (by simp) rfl)
        exact op_skips rfl rfl (fun c h => by cases h) (fun f hf => by simp [Oper.about] at hf) (ex_store (ad := ⟨wc.heap.size + 1, 0, none⟩) (eval_of (hI.fx (6, _) (by simp))) (eval_of (hI.vl 11 (44, _) rfl (hp ⟨11, .data⟩ (by simp) rfl))) (c1 _ (.inr rfl)) ((World.frozen?_setCell _ _ _ _).trans k2)) h1
      · omega
    case fin =>
      intro L a w' hI hr
      have hall := all_listed hI.size (by
        intro i oo ho
        have hi : i < 15 := (Array.getElem?_eq_some_iff.1 ho).1
        rcases i with _ | _ | _ | _ | _ | _ | _ | _ | _ | _ | _ | _ | _ | _ | _ | i
        all_goals first | omega | (obtain rfl := Option.some.inj ho; simp)) hr
      have hw' := hI.last (hall 14 (by show 14 < 15; omega))
      subst hw'
      obtain ⟨hbx, hbq, hre, hro, hbl⟩ := HW.out
      have hba : ba < w.heap.size := World.block_lt_of_cell? w _ (HA.out.cells (Kp.refl _) (i := 0) hla)
      have hq1 : 0 ≤ y / d := Int.ediv_nonneg hy0 (Int.le_of_lt hd)
      have hq2 : y / d < 1000000000 := by
        refine Int.ediv_lt_of_lt_mul hd ?_
        rw [← hy]
        have : (r + 1) * 1000000000 ≤ d * 1000000000 := Int.mul_le_mul_of_nonneg_right (by omega) (by omega)
        omega
      have hr2 : 0 ≤ y % d := Int.emod_nonneg _ (by omega)
      have hr3 : y % d < d := Int.emod_lt_of_pos _ hd
      refine ⟨?_, ⟨?_, ?_⟩, ?_, ?_, ?_, ?_⟩
      · rw [← HW1.out]
        exact (((KeepsOthers.setCell _ _ _).trans (KeepsOthers.drew _)).trans ((KeepsOthers.setCell _ _ _).trans (KeepsOthers.setCell _ _ _))).from _
      · rw [← HW1.out]
        exact (Below.heap_setCell _ _ _ _ (by simp)).trans ((Below.heap_setCell _ _ _ _ (by simp)).trans (Below.heap_setCell W _ _ _ (by simp)))
      · rw [← HW1.out]
        exact (Below.heap_setCell _ _ _ _ (by simp; omega)).trans ((Below.heap_setCell _ _ _ _ (by simp; omega)).trans (Below.heap_setCell W _ _ _ (by simp; omega)))
      · exact (Below.heap_setCell _ _ _ _ (by simp; omega)).trans ((Below.heap_setCell _ _ _ _ (by simp; omega)).trans hbx)
      · exact (Below.heap_setCell _ _ _ _ (by simp; omega)).trans ((Below.heap_setCell _ _ _ _ (by simp; omega)).trans hbq)
      · have h1 : Below w.heap.size w W1.drew := hbl.trans ⟨rfl, rfl, rfl, Nat.le_refl _, fun _ _ => rfl⟩
        exact (h1.setCell (p := ⟨wc.heap.size, m, none⟩) (by simp; omega) _).setCell (p := ⟨wc.heap.size + 1, 0, none⟩) (by simp; omega) _
      · refine ⟨o.set m (y / d), y % d, ?_, ?_, ?_, by rw [List.length_set]; exact hol, HDo.out.set m hq1 hq2, hr2, hr3⟩
        · rw [List.map_append, List.map_cons, List.map_nil, stD_snoc, HSt.out]
          show (o.set m ((r * 1000000000 + x) / d), (r * 1000000000 + x) % d) = _
          rw [hy]
        · exact (Below.heap_setCell _ _ _ _ (by simp)).trans (RowB.store (w := W1.drew) hro m (y / d))
        · have h1 : Boxed (W1.drew.setCell ⟨wc.heap.size, m, none⟩ (.int .u64 (y / d))) (wc.heap.size + 1) 271 (.int .u64 y) := (Below.heap_setCell _ _ _ _ (by simp)).trans hre
          exact h1.set _
    case init =>
      refine ⟨rfl, rfl, ?_, fun j z hj hl => ?_, fun h => ?_, rfl⟩
      · intro z hz
        simp only [List.mem_cons, List.not_mem_nil, or_false] at hz
        rcases hz with rfl | rfl | rfl | rfl <;> rfl
      · rw [Array.getD_eq_getD_getElem?, Array.getElem?_replicate] at hl
        split at hl <;> cases hl
      · cases h
  case done =>
    rintro D xs W hD rfl hI hDf
    obtain ⟨o, r, hst, hrow, hrest, hol, hdo, hr0, hr1⟩ := hI.ex
    have HBX := Lib.hid hI.box
    have HBQ := Lib.hid hI.boxq
    have HBL := Lib.hid hI.below
    have HROW := Lib.hid hrow
    have HREST := Lib.hid hrest
    have HDO := Lib.hid hdo
    have HST := Lib.hid hst
    have HDF := Lib.hid hDf
    clear hI hrow hrest hdo hst hDf
    have hg := HROW.out.lt
    have hR := HREST.out.lt
    have hDl : D < W.heap.size := (Array.getElem?_eq_some_iff.1 HDF.out).1
    gi_wp2_with fail
    rename_i K hK
    refine wpIn_region_any (by kernel_rfl) ?_
    refine any_inv (InvF 7 146 [{ target := .collected D, args := #[] }] [(4, .pointer (some ⟨w.heap.size + 1, 0, none⟩)), (6, .pointer (some ⟨wc.heap.size + 1, 0, none⟩))] [some 46, some 47, some 48, some 49, some 50, none, some 5]
      (Fact11 wc.heap.size la.length W.heap.size o r) (Wd11 w W (w.heap.size + 1) wc.heap.size la.length o)) ?step ?fin _ _ _ _ ?init (by decide)
    case step =>
      intro L a w' i oo hI ho hn hp
      have hi : i < 7 := (Array.getElem?_eq_some_iff.1 ho).1
      have hW := hI.wd
      have hrowk : RowB w' wc.heap.size o := (hW.same _ hg (by omega)).trans HROW.out
      have hrestk : Boxed w' (wc.heap.size + 1) 271 (.int .u64 r) := (hW.same _ hR (by omega)).trans HREST.out
      rcases i with _ | _ | _ | _ | _ | _ | _ | i
      · obtain rfl := Option.some.inj ho
        obtain ⟨u, h4, h5, h6⟩ := hW.box
        have hL5 : L.getD 5 false = false := by
          rcases h : L.getD 5 false with _ | _
          · rfl
          · have := (hW.ord h).1
            rw [getD_tf hn] at this
            cases this
        have hu := h5 hL5
        subst hu
        exact op_gives rfl rfl (fun c h => by cases h) (fun f hf => trivial) (ex_load_s (hI.fixd (d := 4) (by simp)) h4.cell) (hI.put rfl hn (by omega) rfl rfl rfl (fun j v _ _ h => h) (hW.kp (Kp.refl _) (by omega)))
      · obtain rfl := Option.some.inj ho
        obtain ⟨v, hv, hF⟩ := hI.val (j := 0) (d := 46) rfl (hp ⟨0, .data⟩ (by simp) rfl)
        have hF' : v = .slice (some ⟨wc.heap.size, 0, none⟩) la.length la.length := hF
        subst hF'
        have ht := trim_take o (some ⟨wc.heap.size, 0, none⟩) la.length w' (by omega) HDO.out (hrowk.sls (by omega))
        rw [hol] at ht
        refine op_calls rfl rfl (fun c h => by cases h) (fun f hf => trivial) (ex_call1 hv ⟨_, Tryz.func178, rfl, rfl⟩) (by intro h; cases h) (callsIn_wide.2 (ht.mono ?_))
        rintro e w2 ⟨m, hm, rfl, hc, hpv, hk⟩
        exact ⟨_, rfl, hI.put rfl hn (by omega) rfl rfl ⟨m, by omega, rfl, hc, hpv⟩ (fun j v _ _ h => h.kp hk) (hW.kp hk (by omega))⟩
      · obtain rfl := Option.some.inj ho
        exact op_gives rfl rfl (fun c h => by cases h) (fun f hf => trivial) (ex_load_u (hI.fixd (d := 6) (by simp)) hrestk.cell) (hI.put rfl hn (by omega) rfl rfl rfl (fun j v _ _ h => h) (hW.kp (Kp.refl _) (by omega)))
      · obtain rfl := Option.some.inj ho
        obtain ⟨v, hv, hF⟩ := hI.val (j := 2) (d := 48) rfl (hp ⟨2, .data⟩ (by simp) rfl)
        have hF' : v = .int .u64 r := hF
        subst hF'
        have hk : Kp w' (w'.alloc (.cells #[.int .u64 r] 271)) := kp_alloc _ _
        refine op_gives rfl rfl (fun c h => by cases h) (fun f hf => trivial) (ex_slice1 hv) (hI.put rfl hn (by omega) rfl rfl ⟨w'.heap.size, rfl, hW.size, ?_⟩ (fun j v _ _ h => h.kp hk) (hW.kp hk (by omega)))
        exact sls_one _ _ r _
      · obtain rfl := Option.some.inj ho
        obtain ⟨v, hv, b, hb, hbB, hs⟩ := hI.val (j := 3) (d := 49) rfl (hp ⟨3, .data⟩ (by simp) rfl)
        subst hb
        have ht := trim_take [r] (some ⟨b, 0, none⟩) 1 w' (by simp) (Dg.cons hr0 (by omega) (Dg.nil _)) hs
        refine op_calls rfl rfl (fun c h => by cases h) (fun f hf => trivial) (ex_call1 hv ⟨_, Tryz.func178, rfl, rfl⟩) (by intro h; cases h) (callsIn_wide.2 (ht.mono ?_))
        rintro e w2 ⟨m, hm, rfl, hc, hpv, hk⟩
        rw [pv_one] at hpv
        exact ⟨_, rfl, hI.put rfl hn (by omega) rfl rfl ⟨b, m, rfl, hbB, _, (hs.take hm).kp hk, hc, hpv⟩ (fun j v _ _ h => h.kp hk) (hW.kp hk (by omega))⟩
      · obtain rfl := Option.some.inj ho
        obtain ⟨v, hv, m, hm, hvv, hc, hpv⟩ := hI.val (j := 1) (d := 47) rfl (hp ⟨1, .data⟩ (by simp) rfl)
        subst hvv
        obtain ⟨u, h4, h5, h6⟩ := hW.box
        have hBl : w.heap.size + 1 < W.heap.size := by omega
        have hsz7 : L.size = 7 := by obtain ⟨_, hs, _⟩ := hI; exact hs.size
        refine op_skips rfl rfl (fun c h => by cases h) (fun f hf => trivial) (ex_store_s (hI.fixd (d := 4) (by simp)) hv h4.cell h4.frozen) (hI.skip rfl hn (fun _ => trivial) (fun j v _ _ h => h.set hBl) ?_)
        refine ⟨hW.below.setCell (p := ⟨w.heap.size + 1, 0, none⟩) (Nat.le_succ _) _, by rw [World.size_setCell]; exact hW.size, fun k hk1 hk2 => (Below.heap_setCell _ _ _ _ hk2).trans (hW.same k hk1 hk2), ⟨_, h4.set _, fun e => ?_, fun _ => ⟨m, hm, rfl, hc, hpv⟩⟩, fun _ => ⟨?_, ?_⟩⟩
        · rw [getD_set_eq (by omega)] at e
          cases e
        · rw [getD_set_ne (by omega)]
          exact hp ⟨0, .phase⟩ (by simp) rfl
        · rw [getD_set_ne (by omega)]
          exact hp ⟨1, .phase⟩ (by simp) rfl
      · obtain rfl := Option.some.inj ho
        obtain ⟨v, hv, hF⟩ := hI.val (j := 4) (d := 50) rfl (hp ⟨4, .data⟩ (by simp) rfl)
        exact op_gives rfl rfl (fun c h => by cases h) (fun f hf => trivial) (ex_assign hv) (hI.put rfl hn (by omega) rfl rfl hF (fun j v _ _ h => h) (hW.kp (Kp.refl _) (by omega)))
      · omega
    case fin =>
      intro L a w' hI hr
      have hall := all_listed (by obtain ⟨_, hs, _⟩ := hI; exact hs.size) (by
        intro i oo ho
        have hi : i < 7 := (Array.getElem?_eq_some_iff.1 ho).1
        rcases i with _ | _ | _ | _ | _ | _ | _ | i
        all_goals first | omega | (obtain rfl := Option.some.inj ho; simp)) hr
      show K a w'
      refine hK a w' (wpIn_ret ?_)
      obtain ⟨val, hs, hF, hW⟩ := hI
      have hl : ∀ j, j < 7 → L.getD j false = true := fun j hj => by
        have := hall j hj
        rw [Array.getD_eq_getD_getElem?, Array.getElem?_eq_getElem (by rw [hs.size]; exact hj)] at this ⊢
        exact this
      obtain ⟨u, h4, h5, h6⟩ := hW.box
      obtain ⟨m, hm, rfl, hcq, hpq⟩ := h6 (hl 5 (by omega))
      obtain ⟨b, mr, hbv, hbB, lr, hsr, hcr, hpr⟩ : Fact11 wc.heap.size la.length W.heap.size o r 6 (val 6) w' := hF 6 (hl 6 (by omega))
      have hv6 := hs.vl 6 5 rfl (hl 6 (by omega))
      rw [hbv] at hv6
      have hv4 := hs.fx (4, _) (List.mem_cons_self ..)
      show LeavesInM Fence.wide 5 Tryz.prog _ a.tmps _ a.defers .returning w'
      rw [hs.df]
      have hDf : w'.heap[D]? = some (.deferred (some [])) := (hW.same D hDl (by omega)).trans HDF.out
      have hD' := hD
      rw [hszW] at hD'
      refine ⟨by simp, .inl ⟨_, _, rfl, run_takeDeferred hDf, ?_⟩⟩
      have hbq : Boxed (w'.putObj D (.deferred none)) (w.heap.size + 1) 190 (.slice (some ⟨wc.heap.size, 0, none⟩) m la.length) := (World.putObj_heap_other (by omega)).trans h4
      have hro : RowB (w'.putObj D (.deferred none)) wc.heap.size o := (World.putObj_heap_other (by omega)).trans ((hW.same _ hg (by omega)).trans HROW.out)
      have hkw : Kp w (w'.putObj D (.deferred none)) := by
        refine hW.below.trans ⟨rfl, rfl, rfl, by simp [World.putObj], fun k hk => World.putObj_heap_other (by omega)⟩
      obtain ⟨hz1', hz2'⟩ := stD_down hd la la.length (Nat.le_refl _)
      rw [HST.out, Nat.sub_self, List.drop_zero, List.drop_zero] at hz2'
      have hq : pv 1000000000 o = pv 1000000000 la / d ∧ r = pv 1000000000 la % d := by
        rw [hz2']
        have e1 : (pv 1000000000 o * d + r) / d = pv 1000000000 o := by
          rw [Int.add_comm, Int.add_mul_ediv_right _ _ (by omega), Int.ediv_eq_zero_of_lt hr0 hr1]
          omega
        have e2 : (pv 1000000000 o * d + r) % d = r := by
          rw [Int.add_comm, Int.add_mul_emod_self_right, Int.emod_eq_of_lt hr0 hr1]
        exact ⟨e1.symm, e2.symm⟩
      refine ⟨_, results_ct rfl _ _ hv4 hbq.cell hv6, _, _, rfl, ⟨o.take m, ?_, hcq, by rw [hpq]; exact hq.1⟩, ⟨lr, ?_, hcr, by rw [hpr]; exact hq.2⟩, hkw⟩
      · have := (hro.sls (cap := la.length) (by omega)).take hm
        exact this
      · obtain ⟨_, _, e, hc, hnn, hx⟩ := hsr
        cases e
        refine ⟨_, _, rfl, hc, hnn, fun hlr => ?_⟩
        obtain ⟨b', o', e', hcell⟩ := hx hlr
        cases e'
        refine ⟨b, 0, rfl, fun i hi => (World.cell?_of_block (a := ⟨b, 0 + i, none⟩) ?_).trans (hcell i hi)⟩
        exact World.putObj_heap_other (by show b ≠ D; omega)
    case init =>
      refine ⟨fun _ => undef, ⟨rfl, rfl, rfl, ?_, fun j z hj hl => ?_⟩, fun j hl => ?_, HBL.out.trans ⟨rfl, rfl, rfl, Nat.le_refl _, fun _ _ => rfl⟩, Nat.le_refl _, fun _ _ _ => rfl, ⟨_, HBQ.out, fun _ => rfl, fun h => by cases h⟩, fun h => by cases h⟩
      · intro z hz
        simp only [List.mem_cons, List.not_mem_nil, or_false] at hz
        rcases hz with rfl | rfl <;> rfl
      · rw [Array.getD_eq_getD_getElem?, Array.getElem?_replicate] at hl
        split at hl <;> cases hl
      · rw [Array.getD_eq_getD_getElem?, Array.getElem?_replicate] at hl
        split at hl <;> cases hl
  case stop =>
    rintro D c pre W _ _ h _
    exact h.elim
end Go.Proofs.YtjcfejncjdhplaaGreatDoor
namespace Go.Proofs.YtjcfejncjdhplaaGreatDoor
open Go.RowKit Go Klp
theorem own_kp {w w' : World} {base e size n : Nat} {v : Value} {xs : List Value} (h : w.ownsRow base e size v n xs) (hk : Kp w w') : w'.ownsRow base e size v n xs := by
  rcases h.2 with h0 | ⟨g, cap, cur, h', hb, hg, hr⟩
  · exact ⟨h.1, .inl h0⟩
  · exact ⟨h.1, .inr ⟨g, cap, cur, h', hb, (hk.block g (Array.getElem?_eq_some_iff.1 hg).1).trans hg, hr⟩⟩
theorem take_split (s : List UInt8) (a b : Nat) (hab : a ≤ b) (hb : b ≤ s.length) : dval (s.take b) = dval (s.take a) * 10 ^ (b - a) + valTo ⟨s.toArray⟩ a b := by
  have e : s.take b = s.take a ++ (s.drop a).take (b - a) := by
    rw [← List.take_append_drop a (s.take b), List.take_take, Nat.min_eq_left hab, List.drop_take]
  rw [e, dval_append, List.length_take, List.length_drop, Nat.min_eq_left (by omega)]
  rfl
theorem valTo_four {s : List UInt8} (hd : digTo ⟨s.toArray⟩ 0 s.length) {a b : Nat} (hab : a ≤ b) (h4 : b ≤ a + 4) (hb : b ≤ s.length) : 0 ≤ valTo ⟨s.toArray⟩ a b ∧ valTo ⟨s.toArray⟩ a b < 10000 := by
  obtain ⟨j, rfl⟩ := Nat.le.dest hab
  have h := valTo_bd ⟨s.toArray⟩ a s.length (fun k hk h1 h2 => hd k hk (Nat.zero_le _) h2) (Nat.le_of_eq (size_mk s).symm) j hb
  have hj : j ≤ 4 := by omega
  have h2 : (10 : Int) ^ j ≤ 10000 := by
    rcases (show j = 0 ∨ j = 1 ∨ j = 2 ∨ j = 3 ∨ j = 4 by omega) with rfl | rfl | rfl | rfl | rfl <;> decide
  omega
theorem TakR.next {w wr w1 : World} {s : List UInt8} {lo : List Int} {k en st : Nat} {out v' : Value} {ob : Obj} {x : Int} (hown : wr.ownsRow w.heap.size 3 1 out k (lo.map (Value.int .i64))) (hlo : lo.length = k) (hdo : Dg 10000 lo) (hv : dval s = pv 10000 lo + 10000 ^ k * dval (s.take (s.length - 4 * k))) (hb : Below w.heap.size w wr)
    (hen : en = s.length - 4 * k) (hst : st = en - 4) (h0 : 0 < en) (hx : x = valTo ⟨s.toArray⟩ st en) (hx0 : 0 ≤ x) (hx1 : x < 10000) (hown1 : w1.ownsRow w.heap.size 3 1 v' (k + 1) (lo.map (Value.int .i64) ++ [Value.int .i64 x])) (hg : (wr.alloc ob).grownBy w1 out.ownBlock) :
    ∃ lo, w1.ownsRow w.heap.size 3 1 v' (k + 1) (lo.map (Value.int .i64)) ∧ lo.length = k + 1 ∧ Dg 10000 lo ∧ dval s = pv 10000 lo + 10000 ^ (k + 1) * dval (s.take (s.length - 4 * (k + 1))) ∧ Below w.heap.size w w1 := by
  refine ⟨lo ++ [x], by rw [List.map_append]; exact hown1, by simp [hlo], hdo.snoc hx0 hx1, ?_, (hb.alloc hb.size _).grown hg (by have := hb.size; simp; omega) (fun k e => (hown.lt k e).1)⟩
  have h1 := take_split s st en (by omega) (by omega)
  have e2 : s.length - 4 * (k + 1) = st := by omega
  rw [e2, pv_snoc, hlo, hv, ← hen, h1, ← hx, Int.pow_succ]
  by_cases hs : st = 0
  · subst hs
    simp [dval]
  · rw [show en - st = 4 from by omega]
    grind
def TakR (w : World) (s : List UInt8) (k : Nat) (out : Value) (wr : World) : Prop :=
  ∃ lo, wr.ownsRow w.heap.size 3 1 out k (lo.map (Value.int .i64)) ∧ lo.length = k ∧ Dg 10000 lo ∧ dval s = pv 10000 lo + 10000 ^ k * dval (s.take (s.length - 4 * k)) ∧ Below w.heap.size w wr
set_option maxRecDepth 100000 in
set_option maxHeartbeats 2000000 in
theorem take_walk (s : List UInt8) (w : World) (hl : s.length ≤ 1000) (hd : ∀ c ∈ s, isDig c) :
    Calls Tryz.prog 167 #[.string ⟨s.toArray⟩] w fun e w' => ∃ v', e = .returned v' ∧ Pcs w' .i64 10000 v' (dval s) ∧ Kp w w' := by
  obtain ⟨i0, hi, hz0, hz1, hz2⟩ := info_parts infoI
  have HD := Lib.hid hd; clear hd
  have hsz : (⟨s.toArray⟩ : ByteArray).size = s.length := size_mk s
  go_enter Tryz.func167, Tryz.ntmps167
  have hdig : digTo ⟨s.toArray⟩ 0 s.length := by
    have := digTo_mk (p := []) (q := s) (r := []) HD.out
    simpa using this
  have HDIG := Lib.hid hdig
  clear hdig
  go_wp2_with fail
  go_loopw [3, 4] (fun out se wr => ∃ k : Nat, se = .int .i64 ((s.length : Int) - 4 * k) ∧ 4 * k < s.length + 4 ∧ TakR w s k out wr) (fun _ se _ => (intOf se).toNat)
  case atStart => exact ⟨0, by simp, by omega, [], World.ownsRow_nil _ _ _ _, rfl, Dg.nil _, by simp [pv], Below.refl _ _⟩
  case round =>
    obtain ⟨k, rfl, hk4, lo, hown, hlo, hdo, hv, hbel⟩ := hrel
    have HO := Lib.hid hown; clear hown
    have HV := Lib.hid hv; clear hv
    have HDo := Lib.hid hdo; clear hdo
    have HK := Lib.hid hbel; clear hbel
    by_cases hlt : 4 * k < s.length
    · obtain ⟨en, hen⟩ : ∃ en, en = s.length - 4 * k := ⟨_, rfl⟩
      have e1 : (s.length : Int) - 4 * (k : Int) = (en : Int) := by omega
      rw [e1]
      obtain ⟨st, hst⟩ : ∃ st, st = en - 4 := ⟨_, rfl⟩
      have hmax : max (0 : Int) ((en : Int) - 4) = (st : Int) := by omega
      have hen0 : 0 < en := by omega
      have hens : en ≤ s.length := by omega
      have hst1 : st < en := by omega
      have hst4 : en ≤ st + 4 := by omega
      have HEN := Lib.hid (And.intro hen hst)
      clear hen hst e1
      go_wp2_with fail
      go_loopw [5, 6] (fun sn si ws => ∃ t : Nat, st ≤ t ∧ t ≤ en ∧ si = .int .i64 t ∧ sn = .int .i64 (valTo ⟨s.toArray⟩ st t) ∧ Kp wr ws) (fun _ si _ => en - (intOf si).toNat)
      case atStart => exact ⟨st, Nat.le_refl _, by omega, by first | rfl | (rw [hmax]), by rw [valTo_zero], Kp.refl _⟩
      case round =>
        obtain ⟨t, ht1, ht2, rfl, rfl, hks⟩ := hrel
        have HKS := Lib.hid hks; clear hks
        have hvt := valTo_four HDIG.out ht1 (by omega) (by omega)
        by_cases htl : t < en
        · have hts : t < (⟨s.toArray⟩ : ByteArray).size := by omega
          have hdt := HDIG.out t hts (Nat.zero_le _) (by omega)
          have HP := Lib.hid (valTo_succ ⟨s.toArray⟩ st t hts ht1)
          go_wp2_with fail
          go_roundw
          case rel => exact ⟨t + 1, by omega, by omega, by go_num, by rw [HP.out]; go_num, HKS.out⟩
          case measure => simp only [intOf]; omega
        · obtain rfl : t = en := by omega
          have HO2 : Hid (wr.ownsRow w.heap.size 3 1 u3 k (lo.map (Value.int .i64))) := Lib.hid (own_kp HO.out HKS.out)
          have HK2 : Hid (Below w.heap.size w wr) := Lib.hid (HK.out.trans (HKS.out.mono HK.out.size))
          go_wp2_with (at_builtin; refine wpList_append_own _ rfl _ _ 60 rfl w.heap.size 3 i0 (.int .i64 0) 1 8 Tryz.underlying60 hi hz0 hz1 hz2 rfl (by decide) _ _ _ rfl (HO2.out.alloc _) ⟨wr.heap.size, 0, none⟩ 1 1 [.int .i64 (valTo ⟨s.toArray⟩ st t)] rfl rfl (by intro t u h; match t, h with | 0, h => simp at h; subst h; simp [Addr.add]) (by intro u hu; simp at hu; subst hu; rfl) (by unfold maxLen; omega) (by omega) (by have := HK.out.size; have := HKS.out.size; simp; omega) ?_; intro v' w1 hown1 hgrow1 _)
          go_roundw
          case rel => exact ⟨k + 1, by congr 1; have := HEN.out; omega, by omega, TakR.next HO2.out hlo HDo.out HV.out HK2.out HEN.out.1 HEN.out.2 hen0 rfl hvt.1 hvt.2 hown1 hgrow1⟩
          case measure => simp only [intOf]; omega
    · have hv0 : dval s = pv 10000 lo := by
        rw [HV.out, show s.length - 4 * k = 0 from by omega]
        simp [dval]
      have HV0 := Lib.hid hv0
      clear hv0
      go_wp2_with fail
      refine (cut_walk lo _ _ (by omega) HDo.out (Sls.ownV HO.out)).mono ?_
      rintro e w2 ⟨v', rfl, hp, _, hk⟩
      rw [← HV0.out] at hp
      have HP := Lib.hid hp
      have HK2 := Lib.hid ((show Kp w wr from HK.out).then hk)
      clear hp hk
      go_wp2_with fail
      go_ret
      exact ⟨_, rfl, HP.out, HK2.out⟩
end Go.Proofs.YtjcfejncjdhplaaGreatDoor
