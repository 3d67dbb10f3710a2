/-
  Numbers in pieces: quotient and remainder, the divisor of two pieces or more (klippe/integer.divide).
-/
import Derived.Test.YtjcfejncjdhplaaGreatDoorBigK
import Derived.Laws.AppendOwnNone
import Derived.Deep.RegionHeld3
import Derived.Deep.DeepCutAuto
set_option linter.unusedSectionVars false
set_option linter.unusedVariables false
set_option linter.unusedSimpArgs false
namespace Go.Proofs.YtjcfejncjdhplaaGreatDoor
open Go.RowKit Go Klp Go.Shelf
theorem wpList_append_u64 {w : World} {ops : Array Oper} {rest : List Oper} {o : Oper} {a : Act} {Q : Exit → Act → World → Prop} (hgd : o.guard = none) (s x : Operand)
    (ho : o.op = .call { callee := .builtin .append, args := #[s, x], argTypes := #[190, 190] }) (base : Nat) (v : Value) (n : Nat) (xs : List Value) (hs : a.eval s = v) (hown : w.ownsRow base 271 1 v n xs)
    (ar : Option Addr) (c : Nat) (lr : List Int) (hx : a.eval x = .slice ar lr.length c) (hr : Sls w .u64 (.slice ar lr.length c) lr) (h63 : n + lr.length ≤ 100000) (hbase : base ≤ w.heap.size)
    (h : ∀ v' w', w'.ownsRow base 271 1 v' (n + lr.length) (xs ++ lr.map (Value.int .u64)) → w.grownBy w' v.ownBlock → wpList Tryz.prog ops Q rest (a.put o.dst v') w') : wpList Tryz.prog ops Q (o :: rest) a w := by
  obtain ⟨i0, hi, hz0, hz1, hz2⟩ := info_parts infoU
  cases ar with
  | none =>
    have hlr0 : lr = [] := by
      rcases Nat.eq_zero_or_pos lr.length with h | h
      · exact List.eq_nil_of_length_eq_zero h
      · obtain ⟨_, _, e⟩ := hr.addr h
        cases e
    subst hlr0
    obtain rfl := hr.none
    refine wpList_append_own_none hgd s x 190 ho base 271 i0 1 Tryz.underlying190 hi v n xs hs hown hx (h _ _ (by simpa using hown) ⟨rfl, rfl, rfl, Nat.le_refl _, fun _ _ _ => rfl⟩)
  | some ad =>
    refine wpList_append_own w hgd s x 190 ho base 271 i0 (.int .u64 0) 1 8 Tryz.underlying190 hi hz0 hz1 hz2 rfl (by decide) v n xs hs hown ad lr.length c (lr.map (Value.int .u64)) hx (by simp) ?_ ?_ (by unfold maxLen; omega) (by omega) hbase fun v' w' h1 h2 _ => h v' w' h1 h2
    · intro t u ht
      rw [List.getElem?_map] at ht
      obtain ⟨x, hx, rfl⟩ := Option.map_eq_some_iff.1 ht
      obtain ⟨htl, rfl⟩ := List.getElem?_eq_some_iff.1 hx
      obtain ⟨b2, o2, e2⟩ := hr.addr (by omega)
      cases e2
      rw [show (⟨b2, o2, none⟩ : Addr).add t = ⟨b2, o2 + t, none⟩ from by simp [Addr.add]]
      exact hr.cells (Kp.refl _) htl
    · intro u hu
      obtain ⟨x, _, rfl⟩ := List.mem_map.1 hu
      rfl
structure GenI (w0 : World) (Bb Bq g : Nat) (vb : Value) (N : Nat) (o : List Int) (W : World) : Prop where
  box : Boxed W Bb 190 vb
  boxq : Boxed W Bq 190 (.slice (some ⟨g, 0, none⟩) N N)
  row : RowB W g o
  len : o.length = N
  below : Below w0.heap.size w0 W
  ne : Bb ≠ g ∧ Bq ≠ g ∧ w0.heap.size ≤ g
theorem GenI.kp {w0 : World} {Bb Bq g : Nat} {vb : Value} {N : Nat} {o : List Int} {W W' : World} (h : GenI w0 Bb Bq g vb N o W) (hk : Kp W W') : GenI w0 Bb Bq g vb N o W' :=
  ⟨(hk.block _ h.box.lt).trans h.box, (hk.block _ h.boxq.lt).trans h.boxq, (hk.block _ h.row.lt).trans h.row, h.len, Kp.then h.below hk, h.ne⟩
theorem GenI.store {w0 : World} {Bb Bq g : Nat} {vb : Value} {N : Nat} {o : List Int} {W : World} (h : GenI w0 Bb Bq g vb N o W) (j : Nat) (z : Int) : GenI w0 Bb Bq g vb N (o.set j z) (W.setCell ⟨g, j, none⟩ (.int .u64 z)) :=
  ⟨(Below.heap_setCell _ _ _ _ h.ne.1).trans h.box, (Below.heap_setCell _ _ _ _ h.ne.2.1).trans h.boxq, h.row.store j z, by rw [List.length_set]; exact h.len, h.below.setCell (p := ⟨g, j, none⟩) h.ne.2.2 _, h.ne⟩
theorem sls_box {w : World} {k : IntKind} {v : Value} {l : List Int} (h : Sls w k v l) {B t : Nat} {s : Value} (hb : Boxed w B t s) (hs : ∀ z, s ≠ .int k z) (u : Value) : Sls (w.setCell ⟨B, 0, none⟩ u) k v l := by
  obtain ⟨ao, cap, rfl, hc, hn, hx⟩ := h
  refine ⟨ao, cap, rfl, hc, hn, fun hl => ?_⟩
  obtain ⟨b, o, rfl, hcell⟩ := hx hl
  refine ⟨b, o, rfl, fun i hi => ?_⟩
  rw [← hcell i hi]
  refine World.cell?_of_block (a := ⟨b, o + i, none⟩) (Below.heap_setCell _ _ _ _ ?_)
  show b ≠ B
  rintro rfl
  have h1 := hcell i hi
  unfold World.cell? at h1
  simp only [show w.heap[b]? = _ from hb] at h1
  rcases h2 : o + i with _ | n
  · rw [h2] at h1
    exact hs _ (Option.some.inj h1)
  · rw [h2] at h1
    simp at h1
theorem sls_box_ne {w : World} {k : IntKind} {b o n c : Nat} {l : List Int} (h : Sls w k (.slice (some ⟨b, o, none⟩) n c) l) (hl : 0 < l.length) {B t : Nat} {s : Value} (hb : Boxed w B t s) (hs : ∀ z, s ≠ .int k z) : b ≠ B := by
  rintro rfl
  have h1 := h.cells (Kp.refl _) (i := 0) hl
  unfold World.cell? at h1
  simp only [show w.heap[b]? = _ from hb] at h1
  rcases h2 : o + 0 with _ | n
  · rw [h2] at h1
    exact hs _ (Option.some.inj h1)
  · rw [h2] at h1
    simp at h1
theorem sls_ne {w : World} {k : IntKind} {az : Option Addr} {n c g j : Nat} {l : List Int} {u : Value} (h : Sls w k (.slice az n c) l) (hf : ∀ a, az = some a → a.block ≠ g) : Sls (w.setCell ⟨g, j, none⟩ u) k (.slice az n c) l := by
  obtain ⟨ao, cap, e, hc, hn, hx⟩ := h
  cases e
  refine ⟨az, c, rfl, hc, hn, fun hl => ?_⟩
  obtain ⟨b, o, rfl, hcell⟩ := hx hl
  refine ⟨b, o, rfl, fun i hi => ?_⟩
  rw [← hcell i hi]
  exact World.cell?_of_block (a := ⟨b, o + i, none⟩) (Below.heap_setCell _ _ _ _ (show b ≠ g from hf _ rfl))
structure ScI (w0 : World) (Bb Bq : Nat) (A D f : Int) (s0 : Value) (W : World) : Prop where
  ex : ∃ (a1 : Option Addr) (d1 : Nat) (la1 : List Int) (a2 : Option Addr) (d2 : Nat) (lb1 : List Int), s0 = .slice a1 la1.length d1 ∧ Boxed W Bb 190 (.slice a2 lb1.length d2) ∧ Boxed W Bq 190 (.slice none 0 0) ∧
    Sls W .u64 (.slice a1 la1.length d1) la1 ∧ Sls W .u64 (.slice a2 lb1.length d2) lb1 ∧ Pc 1000000000 la1 ∧ Pc 1000000000 lb1 ∧ pv 1000000000 la1 = A * f ∧ pv 1000000000 lb1 = D * f ∧ Kp w0 W
theorem scaled_len {la la1 : List Int} {f : Int} (pa : Pc 1000000000 la) (pa1 : Pc 1000000000 la1) (h : pv 1000000000 la1 = pv 1000000000 la * f) (hf : f < 1000000000) : la1.length ≤ la.length + 1 := by
  cases la with
  | nil =>
    have : la1 = [] := pa1.zero (by omega) (by rw [h]; simp [pv])
    rw [this]; simp
  | cons x l =>
    have h0 : Pc 1000000000 (0 :: x :: l) := ⟨Dg.cons (by omega) (by omega) pa.1, fun y hy => by rw [List.getLast?_cons_cons] at hy; exact pa.2 y hy⟩
    refine pa1.len_le (by omega) h0 ?_
    rw [h, show pv 1000000000 (0 :: x :: l) = 1000000000 * pv 1000000000 (x :: l) from by simp [pv]]
    rw [Int.mul_comm]
    exact Int.mul_le_mul_of_nonneg_right (by omega) (pv_nn (by omega) pa.1)
theorem f_bd {t : Int} (h0 : 0 < t) (h1 : t < 1000000000) : 0 < 1000000000 / (t + 1) ∧ 1000000000 / (t + 1) < 1000000000 := by
  constructor
  · exact Int.lt_of_lt_of_le (by omega) (Int.le_ediv_of_mul_le (a := 1) (by omega) (by omega))
  · exact Int.ediv_lt_of_lt_mul (by omega) (by omega)
set_option maxRecDepth 100000 in
set_option maxHeartbeats 4000000 in
theorem divide_less (la lb : List Int) (va vb : Value) (w : World) (hl : la.length ≤ 10000) (hl' : lb.length ≤ 10000) (ha : Sls w .u64 va la) (hb : Sls w .u64 vb lb) (pa : Pc 1000000000 la) (pb : Pc 1000000000 lb) (hlt : pv 1000000000 la < pv 1000000000 lb) :
    Calls Tryz.prog 112 #[va, vb] w fun e w' => ∃ q r, e = .returned (.tuple #[q, r]) ∧ Pcs w' .u64 1000000000 q (pv 1000000000 la / pv 1000000000 lb) ∧ Pcs w' .u64 1000000000 r (pv 1000000000 la % pv 1000000000 lb) ∧ Kp w w' := by
  obtain ⟨aa, ca, rfl, hca⟩ := ha.val
  obtain ⟨ab, cb, rfl, hcb⟩ := hb.val
  have HA := Lib.hid ha; clear ha
  have HB := Lib.hid hb; clear hb
  have PA := Lib.hid pa; clear pa
  have PB := Lib.hid pb; clear pb
  have HLT := Lib.hid hlt; clear hlt
  go_enter Tryz.func112, Tryz.ntmps112
  go_wp2_with fail
  have hKp0 : Kp w ((w.alloc (.cells #[.slice ab lb.length cb] 190)).alloc (.cells #[.slice none 0 0] 190)) := (kp_alloc w _).then (kp_alloc _ _)
  refine (order_walk la lb _ _ _ (by omega) (by omega) (HA.out.kp hKp0) (HB.out.kp hKp0) PA.out PB.out).mono ?_
  rintro e wc ⟨rfl, hk⟩
  have hs : sgn (pv 1000000000 la) (pv 1000000000 lb) = -1 := sgn_lt HLT.out
  rw [hs]
  have hq1 : Boxed ((w.alloc (.cells #[.slice ab lb.length cb] 190)).alloc (.cells #[.slice none 0 0] 190)) (w.heap.size + 1) 190 (.slice none 0 0) := by
    have := Boxed.new (w.alloc (.cells #[.slice ab lb.length cb] 190)) 190 (.slice none 0 0)
    rw [World.size_alloc] at this
    exact this
  have HQ1 : Hid (Boxed wc (w.heap.size + 1) 190 (.slice none 0 0)) := Lib.hid ((hk.block _ hq1.lt).trans hq1)
  have HK := Lib.hid (hKp0.then hk)
  clear hk hKp0 hq1 hs
  have c2 := HQ1.out.cell
  have f2 := HQ1.out.frozen
  go_wp2_with fail
  have hnn := pv_nn (B := 1000000000) (by omega) PA.out.1
  refine bodyPost_ret (results_ct rfl _ _ rfl (HQ1.out.set _).cell rfl) rfl ?_
  refine ⟨_, _, rfl, ⟨[], Sls.nil _ _, Pc.nil _, ?_⟩, ⟨la, sls_box (HA.out.kp HK.out) HQ1.out (fun z h => by cases h) _, PA.out, ?_⟩, HK.out.setCell (p := ⟨w.heap.size + 1, 0, none⟩) (Nat.le_succ _) _⟩
  · rw [Int.ediv_eq_zero_of_lt hnn HLT.out]; rfl
  · rw [Int.emod_eq_of_lt hnn HLT.out]
theorem divide_one (la : List Int) (va vb : Value) (d : Int) (w : World) (hl : la.length ≤ 10000) (ha : Sls w .u64 va la) (hb : Sls w .u64 vb [d]) (pa : Pc 1000000000 la) (hd : 0 < d) (hd' : d < 1000000000) :
    Calls Tryz.prog 112 #[va, vb] w fun e w' => ∃ q r, e = .returned (.tuple #[q, r]) ∧ Pcs w' .u64 1000000000 q (pv 1000000000 la / d) ∧ Pcs w' .u64 1000000000 r (pv 1000000000 la % d) ∧ Kp w w' := by
  by_cases hle : d ≤ pv 1000000000 la
  · exact callsIn_wide.1 (divide1_in la va vb d w hl ha hb pa hd hd' hle)
  · have pb : Pc 1000000000 [d] := ⟨Dg.cons (by omega) hd' (Dg.nil _), fun x hx => by simp at hx; omega⟩
    have := divide_less la [d] va vb w hl (by simp) ha hb pa pb (by rw [pv_one]; omega)
    rw [pv_one] at this
    exact this
theorem guess_two {l b : List Int} {r : Int} (hl : Dg 1000000000 l) (hb : Dg 1000000000 b) (hbl : 0 < b.length) (hlen : l.length = b.length + 1) (hv : pv 1000000000 l = r) (htop : 0 < b[b.length - 1]) (hr : 0 ≤ r) (hpb : 0 < pv 1000000000 b) :
    r / pv 1000000000 b ≤ (l[l.length - 1] * 1000000000 + l[l.length - 2]) / b[b.length - 1] := by
  obtain ⟨m, hm⟩ : ∃ m, b.length = m + 1 := ⟨b.length - 1, by omega⟩
  have h1 := pv_below_two (B := 1000000000) (by omega) hl (m := m) (by omega) (by omega)
  have h2 := (pv_below_top (B := 1000000000) (by omega) hb (m := m) (by omega) (by omega)).2
  have e1 : l[l.length - 1] = l[m + 1] := getElem_congr_idx (by omega)
  have e2 : l[l.length - 2] = l[m] := getElem_congr_idx (by omega)
  have e3 : b[b.length - 1] = b[m] := getElem_congr_idx (by omega)
  rw [e1, e2, e3]
  rw [e3] at htop
  rw [hv] at h1
  exact guess_ge (B := 1000000000) (L := 1000000000 ^ m) (ipow_pos (by omega) m) (Int.ediv_nonneg hr (by omega)) htop h1 h2 (Int.ediv_mul_le r (by omega))
theorem guess_one {l b : List Int} {r : Int} (hl : Dg 1000000000 l) (hb : Dg 1000000000 b) (hbl : 0 < b.length) (hlen : l.length = b.length) (hv : pv 1000000000 l = r) (htop : 0 < b[b.length - 1]) (hr : 0 ≤ r) (hpb : 0 < pv 1000000000 b) :
    r / pv 1000000000 b ≤ l[l.length - 1] / b[b.length - 1] := by
  obtain ⟨m, hm⟩ : ∃ m, b.length = m + 1 := ⟨b.length - 1, by omega⟩
  have h1 := (pv_below_top (B := 1000000000) (by omega) hl (m := m) (by omega) (by omega)).1
  have h2 := (pv_below_top (B := 1000000000) (by omega) hb (m := m) (by omega) (by omega)).2
  have e1 : l[l.length - 1] = l[m] := getElem_congr_idx (by omega)
  have e3 : b[b.length - 1] = b[m] := getElem_congr_idx (by omega)
  rw [e1, e3]
  rw [e3] at htop
  rw [hv] at h1
  exact guess_ge (B := 1000000000) (L := 1000000000 ^ m) (ipow_pos (by omega) m) (Int.ediv_nonneg hr (by omega)) htop h1 h2 (Int.ediv_mul_le r (by omega))
theorem guess_min {q t : Int} (h0 : 0 ≤ q) (h1 : t ≤ q) (h2 : t ≤ 999999999) : 0 ≤ min q 999999999 ∧ min q 999999999 ≤ 999999999 ∧ t ≤ min q 999999999 := by omega
theorem scaled_div {A D f : Int} (hD : 0 < D) (hf : 0 < f) {q r : Int} (h : A * f = q * (D * f) + r) (h0 : 0 ≤ r) (h1 : r < D * f) : q = A / D ∧ r / f = A % D := by
  have h2 : r = (A - q * D) * f := by rw [Int.sub_mul]; have : q * (D * f) = q * D * f := by rw [Int.mul_assoc]
                                      omega
  have h3 : 0 ≤ A - q * D := by
    rcases Int.lt_or_le (A - q * D) 0 with h | h
    · have := Int.mul_neg_of_neg_of_pos h hf; omega
    · exact h
  have h4 : A - q * D < D := by
    rcases Int.lt_or_le (A - q * D) D with h | h
    · exact h
    · have := Int.mul_le_mul_of_nonneg_right h (Int.le_of_lt hf); omega
  have h5 := (Int.ediv_emod_unique (a := A) (b := D) (r := A - q * D) (q := q) hD).2 ⟨by rw [Int.mul_comm D q]; omega, h3, h4⟩
  refine ⟨h5.1.symm, ?_⟩
  rw [h2, Int.mul_ediv_cancel _ (by omega)]
  exact h5.2.symm
set_option maxRecDepth 100000 in
set_option maxHeartbeats 4000000 in
theorem divideG_walk (la lb : List Int) (va vb : Value) (w : World) (hl : la.length ≤ 5000) (hl' : lb.length ≤ 5000) (ha : Sls w .u64 va la) (hb : Sls w .u64 vb lb) (pa : Pc 1000000000 la) (pb : Pc 1000000000 lb) (h2 : 2 ≤ lb.length) (hle : pv 1000000000 lb ≤ pv 1000000000 la) :
    Calls Tryz.prog 112 #[va, vb] w fun e w' => ∃ q r, e = .returned (.tuple #[q, r]) ∧ Pcs w' .u64 1000000000 q (pv 1000000000 la / pv 1000000000 lb) ∧ Pcs w' .u64 1000000000 r (pv 1000000000 la % pv 1000000000 lb) ∧ Kp w w' := by
  obtain ⟨aa, ca, rfl, hca⟩ := ha.val
  obtain ⟨ab, cb, rfl, hcb⟩ := hb.val
  obtain ⟨bb, ob, rfl⟩ := hb.addr (by omega)
  have hlab : lb.length ≤ la.length := pb.len_le (by omega) pa hle
  have HA := Lib.hid ha; clear ha
  have HB := Lib.hid hb; clear hb
  have PA := Lib.hid pa; clear pa
  have PB := Lib.hid pb; clear pb
  have HLE := Lib.hid hle; clear hle
  have hn1 : ((lb.length : Int) == 1) = false := by rw [beq_eq_false_iff_ne]; omega
  go_enter Tryz.func112, Tryz.ntmps112
  go_wp2_with fail
  have hKp0 : Kp w ((w.alloc (.cells #[.slice (some ⟨bb, ob, none⟩) lb.length cb] 190)).alloc (.cells #[.slice none 0 0] 190)) := (kp_alloc w _).then (kp_alloc _ _)
  refine (order_walk la lb _ _ _ (by omega) (by omega) (HA.out.kp hKp0) (HB.out.kp hKp0) PA.out PB.out).mono ?_
  rintro e wc ⟨rfl, hk⟩
  have hs : ¬ sgn (pv 1000000000 la) (pv 1000000000 lb) < 0 := by have := HLE.out; unfold sgn; split <;> (try split) <;> omega
  have hb1 : Boxed ((w.alloc (.cells #[.slice (some ⟨bb, ob, none⟩) lb.length cb] 190)).alloc (.cells #[.slice none 0 0] 190)) w.heap.size 190 (.slice (some ⟨bb, ob, none⟩) lb.length cb) := (Boxed.new w _ _).alloc _
  have hq1 : Boxed ((w.alloc (.cells #[.slice (some ⟨bb, ob, none⟩) lb.length cb] 190)).alloc (.cells #[.slice none 0 0] 190)) (w.heap.size + 1) 190 (.slice none 0 0) := by
    have := Boxed.new (w.alloc (.cells #[.slice (some ⟨bb, ob, none⟩) lb.length cb] 190)) 190 (.slice none 0 0)
    rw [World.size_alloc] at this
    exact this
  have HB1 : Hid (Boxed wc w.heap.size 190 (.slice (some ⟨bb, ob, none⟩) lb.length cb)) := Lib.hid ((hk.block _ hb1.lt).trans hb1)
  have HQ1 : Hid (Boxed wc (w.heap.size + 1) 190 (.slice none 0 0)) := Lib.hid ((hk.block _ hq1.lt).trans hq1)
  have HK := Lib.hid (hKp0.then hk)
  have hsz : w.heap.size + 2 ≤ wc.heap.size := by have := hk.size; simp only [World.size_alloc] at this; omega
  clear hk hKp0 hb1 hq1
  have c1 := HB1.out.cell
  have c2 := HB.out.cells HK.out (i := lb.length - 1) (by omega)
  have htop := PB.out.last (by omega)
  have htop2 := PB.out.1.at (i := lb.length - 1) (by omega)
  have hfb := f_bd htop htop2.2
  go_upto_region 13 with fail
  obtain ⟨f, hf⟩ : ∃ f, 1000000000 / (lb[lb.length - 1] + 1) = f := ⟨_, rfl⟩
  rw [hf] at hfb ⊢
  clear c2 htop htop2 hf
  go_cut [0] (fun s0 wx => ScI w w.heap.size (w.heap.size + 1) (pv 1000000000 la) (pv 1000000000 lb) f s0 wx)
  case first =>
    go_region_with (first
      | (go_at_call 181; refine Calls.mono (bsmall_walk la (.slice aa la.length ca) f _ ?_ ?_ ?_ ?_ ?_) ?_; (omega); (exact HA.out.kp (HK.out.then (Kp.drew _))); (exact PA.out.1); (omega); (omega); rintro e w1 ⟨va1, rfl, ⟨la1, hs1, hc1, hv1⟩, hk1⟩; obtain ⟨a1, d1, rfl, hcap1⟩ := hs1.val; have HB2 : Hid (Boxed w1 w.heap.size 190 (.slice (some ⟨bb, ob, none⟩) lb.length cb)) := Lib.hid ((hk1.block _ HB1.out.lt).trans HB1.out); have HQ2 : Hid (Boxed w1 (w.heap.size + 1) 190 (.slice none 0 0)) := Lib.hid ((hk1.block _ HQ1.out.lt).trans HQ1.out); have HK1 := Lib.hid (HK.out.then ((Kp.drew _).then hk1)); have HS1 := Lib.hid (And.intro hs1 (And.intro hc1 hv1)); have g1 := HB2.out.cell; clear hs1 hc1 hv1 hk1)
      | (go_at_call 181; refine Calls.mono (bsmall_walk lb (.slice (some ⟨bb, ob, none⟩) lb.length cb) f _ ?_ ?_ ?_ ?_ ?_) ?_; (omega); (exact HB.out.kp HK1.out); (exact PB.out.1); (omega); (omega); rintro e w2 ⟨vb1, rfl, ⟨lb1, hs2, hc2, hv2⟩, hk2⟩; obtain ⟨a2, d2, rfl, hcap2⟩ := hs2.val; have HB3 : Hid (Boxed w2 w.heap.size 190 (.slice (some ⟨bb, ob, none⟩) lb.length cb)) := Lib.hid ((hk2.block _ HB2.out.lt).trans HB2.out); have HQ3 : Hid (Boxed w2 (w.heap.size + 1) 190 (.slice none 0 0)) := Lib.hid ((hk2.block _ HQ2.out.lt).trans HQ2.out); have HK2 := Lib.hid (HK1.out.then hk2); have HS1k := Lib.hid (HS1.out.1.kp hk2); have HS2 := Lib.hid (And.intro hs2 (And.intro hc2 hv2)); have c3 := HB3.out.cell; have f3 := HB3.out.frozen; clear hs2 hc2 hv2 hk2))
    all_goals (go_wp2_with fail; go_meet; exact ⟨_, _, la1, _, _, lb1, rfl, HB3.out.set _, HQ3.out.other (by omega) _, sls_box HS1k.out HB3.out (fun z h => by cases h) _, sls_box HS2.out.1 HB3.out (fun z h => by cases h) _, HS1.out.2.1, HS2.out.2.1, HS1.out.2.2, HS2.out.2.2, HK2.out.setCell (p := ⟨w.heap.size, 0, none⟩) (Nat.le_refl _) _⟩)
  case rest =>
  clear c1 HB1 HQ1 HK hsz
  obtain ⟨a1, d1, la1, a2, d2, lb1, rfl, hbx, hbq, hs1, hs2, hc1, hc2, hv1, hv2, hk⟩ := hcut.ex
  clear hcut
  have HBX := Lib.hid hbx
  have HBQ := Lib.hid hbq
  have HK := Lib.hid hk
  have HS1 := Lib.hid (And.intro hs1 (And.intro hc1 hv1))
  have HS2 := Lib.hid (And.intro hs2 (And.intro hc2 hv2))
  clear hbx hbq hs1 hs2 hc1 hc2 hv1 hv2 hk
  have hln1 := scaled_len PA.out HS1.out.2.1 HS1.out.2.2 hfb.2
  have hln2 := scaled_len PB.out HS2.out.2.1 HS2.out.2.2 hfb.2
  have hpvb : 0 < pv 1000000000 lb := by
    have h1 := PB.out.ge (B := 1000000000) (by omega) (by omega)
    have h2 := ipow_pos (B := 1000000000) (by omega) (lb.length - 1)
    omega
  have hpv2 : 0 < pv 1000000000 lb1 := by rw [HS2.out.2.2]; exact Int.mul_pos hpvb hfb.1
  have hpos2 : 0 < lb1.length := by
    rcases Nat.eq_zero_or_pos lb1.length with h | h
    · exfalso
      rw [List.eq_nil_of_length_eq_zero h] at hpv2
      simp [pv] at hpv2
    · exact h
  obtain ⟨b2, o2, rfl⟩ := HS2.out.1.addr hpos2
  have c1 := HBX.out.cell
  have c2 := HS2.out.1.cells (Kp.refl _) (i := lb1.length - 1) (by omega)
  have c3 := HBQ.out.cell
  have f3 := HBQ.out.frozen
  have htop := HS2.out.2.1.last (by omega)
  have htop2 := HS2.out.2.1.1.at (i := lb1.length - 1) (by omega)
  have hne1 := sls_box_ne HS2.out.1 hpos2 HBX.out (fun z h => by cases h)
  have hne2 := sls_box_ne HS2.out.1 hpos2 HBQ.out (fun z h => by cases h)
  have hb2 := World.block_lt_of_cell? wc _ c2
  have hbq2 := HBQ.out.lt
  have hmk := run_make_row' (P := Tryz.prog) 190 271 (.int .u64 0) 8 Tryz.underlying190 infoU rfl .i64 .i64 la1.length (by omega) (by omega)
  obtain ⟨W0, hW0⟩ : ∃ W0, (wc.setCell ⟨w.heap.size + 1, 0, none⟩ (.slice (some ⟨wc.heap.size, 0, none⟩) la1.length la1.length)).alloc (Obj.cells (madeCells #[Value.int IntKind.u64 0] la1.length) 271) = W0 := ⟨_, rfl⟩
  have hG : GenI w w.heap.size (w.heap.size + 1) wc.heap.size (.slice (some ⟨b2, o2, none⟩) lb1.length d2) la1.length (List.replicate la1.length 0) W0 := by
    rw [← hW0]
    refine ⟨(HBX.out.other (by omega) _).alloc _, (HBQ.out.set _).alloc _, ?_, by simp, (HK.out.setCell (p := ⟨w.heap.size + 1, 0, none⟩) (Nat.le_succ _) _).alloc (by simp; omega) _, by omega, by omega, by omega⟩
    have := RowB.zeros (wc.setCell ⟨w.heap.size + 1, 0, none⟩ (.slice (some ⟨wc.heap.size, 0, none⟩) la1.length la1.length)) la1.length
    rw [World.size_setCell] at this
    exact this
  have hS1 : Sls W0 .u64 (.slice a1 la1.length d1) la1 := by
    rw [← hW0]
    exact (sls_box HS1.out.1 HBQ.out (fun z h => by cases h) _).kp (kp_alloc _ _)
  have hS2 : Sls W0 .u64 (.slice (some ⟨b2, o2, none⟩) lb1.length d2) lb1 := by
    rw [← hW0]
    exact (sls_box HS2.out.1 HBQ.out (fun z h => by cases h) _).kp (kp_alloc _ _)
  have k1 := hG.box.cell
  have k2 := hS2.cells (Kp.refl _) (i := lb1.length - 1) (by omega)
  have HG := Lib.hid hG
  have HT1 := Lib.hid hS1
  have HT2 := Lib.hid hS2
  clear hG hS1 hS2 c1 c2
  go_upto_region 15 with fail
  have HW0 := Lib.hid hW0
  clear hW0
  go_wp2_with fail
  go_loopw [5, 11] (fun rest si wr => ∃ (n : Nat) (o : List Int) (r : Int), n ≤ la1.length ∧ si = .int .i64 ((n : Int) - 1) ∧ GenI w w.heap.size (w.heap.size + 1) wc.heap.size (.slice (some ⟨b2, o2, none⟩) lb1.length d2) la1.length o wr ∧ o.take n = List.replicate n 0 ∧ Dg 1000000000 o ∧ Sls wr .u64 (.slice a1 la1.length d1) la1 ∧ Sls wr .u64 (.slice (some ⟨b2, o2, none⟩) lb1.length d2) lb1 ∧ Pcs wr .u64 1000000000 rest r ∧ 0 ≤ r ∧ r < pv 1000000000 lb1 ∧ pv 1000000000 (la1.drop n) = pv 1000000000 (o.drop n) * pv 1000000000 lb1 + r) (fun _ si _ => (intOf si + 1).toNat)
  case atStart =>
    refine ⟨la1.length, _, 0, Nat.le_refl _, rfl, HG.out, by rw [List.take_of_length_le (by simp)], ?_, HT1.out, HT2.out, ⟨[], Sls.nil _ _, Pc.nil _, rfl⟩, by omega, hpv2, by rw [drop_all, List.drop_eq_nil_of_le (by simp)]; simp [pv]⟩
    intro x hx
    rw [(List.mem_replicate.1 hx).2]
    omega
  case round =>
    obtain ⟨n, o, r, hn, rfl, hg, ho0, hdo, ht1, ht2, hpr, hr0, hr1, hv⟩ := hrel
    have HGI := Lib.hid hg
    have HDO := Lib.hid (And.intro ho0 hdo)
    have HT1 := Lib.hid ht1
    have HT2 := Lib.hid ht2
    have HV := Lib.hid hv
    clear hg ho0 hdo ht1 ht2 hv
    obtain ⟨lr, hsr, hpcr, hvr⟩ := hpr
    obtain ⟨ar, cr, rfl, hcr⟩ := hsr.val
    have HSR := Lib.hid (And.intro hsr (And.intro hpcr hvr))
    clear hsr hpcr hvr
    cases n with
    | zero =>
      have hv := HV.out
      rw [List.drop_zero, List.drop_zero, HS1.out.2.2, HS2.out.2.2] at hv
      rw [HS2.out.2.2] at hr1
      have HQ := Lib.hid (scaled_div hpvb hfb.1 hv hr0 hr1)
      clear hv
      have hlr : lr.length ≤ 10000 := by
        have := HSR.out.2.1.len_le (B := 1000000000) (by omega) HS2.out.2.1 (by rw [HSR.out.2.2, HS2.out.2.2]; omega)
        omega
      go_wp2_with fail
      refine (divide_one lr _ _ f _ hlr (HSR.out.1.kp (kp_alloc _ _)) (sls_one _ _ f _) HSR.out.2.1 hfb.1 hfb.2).mono ?_
      rintro e w3 ⟨q3, r3, rfl, hp4, _, hk3⟩
      rw [HSR.out.2.2, HQ.out.2] at hp4
      have HP4 := Lib.hid hp4
      have hk4 : Kp wr w3 := (kp_alloc _ _).then hk3
      have HG3 := Lib.hid (HGI.out.kp hk4)
      clear hp4 hk3 hk4
      have c4 := HG3.out.boxq.cell
      have f4 := HG3.out.boxq.frozen
      have hol := HG3.out.len
      go_wp2_with fail
      have ht := trim_take o (some ⟨wc.heap.size, 0, none⟩) la1.length w3 (by omega) HDO.out.2 (HG3.out.row.sls (by omega))
      rw [hol] at ht
      refine ht.mono ?_
      rintro e w5 ⟨m, hm, rfl, hcm, hpm, hk5⟩
      have HG5 := Lib.hid (HG3.out.kp hk5)
      have HP5 := Lib.hid (HP4.out.kp hk5)
      have HM := Lib.hid (And.intro hcm hpm)
      clear hcm hpm hk5 c4 f4 ht
      have c5 := HG5.out.boxq.cell
      have f5 := HG5.out.boxq.frozen
      go_wp2_with fail
      refine bodyPost_ret (results_ct rfl _ _ rfl (HG5.out.boxq.set _).cell rfl) rfl ?_
      refine ⟨_, _, rfl, ⟨o.take m, ?_, HM.out.1, by rw [HM.out.2]; exact HQ.out.1⟩, ?_, HG5.out.below.setCell (p := ⟨w.heap.size + 1, 0, none⟩) (Nat.le_succ _) _⟩
      · have h1 := HG5.out.row.sls (cap := la1.length) (by omega)
        have h2 := sls_box (h1.take (n := m) (by omega)) HG5.out.boxq (fun z h => by cases h) (Value.slice (some ⟨wc.heap.size, 0, none⟩) m la1.length)
        exact h2
      · obtain ⟨l5, h6, h7⟩ := HP5.out
        exact ⟨l5, sls_box h6 HG5.out.boxq (fun z h => by cases h) _, h7⟩
    | succ j =>
      have e1 : ((j + 1 : Nat) : Int) - 1 = (j : Int) := by omega
      rw [e1]
      have hj : j < la1.length := by omega
      obtain ⟨b1, o1, rfl⟩ := HT1.out.addr (by omega)
      have hb1 := World.block_lt_of_cell? wc _ (HS1.out.1.cells (Kp.refl _) (i := j) hj)
      have HNE : Hid (b1 ≠ wc.heap.size ∧ b2 ≠ wc.heap.size) := Lib.hid ⟨by have : b1 < wc.heap.size := hb1; omega, by have : b2 < wc.heap.size := hb2; omega⟩
      clear hb1
      have ga := HT1.out.cells (Kp.refl _) hj
      have haj := HS1.out.2.1.1.at hj
      have hlr : lr.length ≤ lb1.length := HSR.out.2.1.len_le (B := 1000000000) (by omega) HS2.out.2.1 (by rw [HSR.out.2.2]; omega)
      have hownB : (wr.alloc (.cells #[.int .u64 la1[j]] 271)).ownsRow wr.heap.size 271 1 (.slice (some ⟨wr.heap.size, 0, none⟩) 1 1) 1 [.int .u64 la1[j]] := World.ownsRow_lit wr #[.int .u64 la1[j]] 1 (Nat.le_refl _) (by unfold maxLen; omega) (by simp)
      have HOB := Lib.hid hownB
      clear hownB e1
      go_wp2_with (at_builtin; refine wpList_append_u64 rfl (.tmp 85) (.tmp 86) rfl wr.heap.size _ 1 [.int .u64 la1[j]] rfl HOB.out ar cr lr rfl (HSR.out.1.kp (kp_alloc _ _)) (by omega) (by simp) ?_; intro v1 w1 hown1 hgrow1)
      have hk1 : Kp wr w1 := ((Below.refl wr.heap.size wr).alloc (Nat.le_refl _) _).grown hgrow1 (by simp) (fun k e => by cases e; exact Nat.le_refl _)
      have hown2 : w1.ownsRow wr.heap.size 271 1 v1 (la1[j] :: lr).length ((la1[j] :: lr).map (Value.int .u64)) := by simpa [Nat.add_comm] using hown1
      have hsl := Sls.ownV hown2
      have hdl : Dg 1000000000 (la1[j] :: lr) := Dg.cons haj.1 haj.2 HSR.out.2.1.1
      have hpvl : pv 1000000000 (la1[j] :: lr) = la1[j] + 1000000000 * r := by rw [pv, HSR.out.2.2]
      refine (trim_walk (la1[j] :: lr) _ _ (by simp; omega) hdl hsl).mono ?_
      rintro e w2 ⟨v2, rfl, ⟨l2, hs2, hc2, hv2⟩, hk2⟩
      rw [hpvl] at hv2
      obtain ⟨a3, d3, rfl, hcap3⟩ := hs2.val
      have hk3 := hk1.then hk2
      have HG2 := Lib.hid (HGI.out.kp hk3)
      have HU1 := Lib.hid (HT1.out.kp hk3)
      have HU2 := Lib.hid (HT2.out.kp hk3)
      have HL2 := Lib.hid (And.intro hs2 (And.intro hc2 hv2))
      clear hk1 hown1 hown2 hsl hdl hpvl hgrow1 hk2 hk3 hs2 hc2 hv2 HOB ga
      obtain ⟨X, hX⟩ : ∃ X, la1[j] + 1000000000 * r = X := ⟨_, rfl⟩
      rw [hX] at HL2
      have hX0 : 0 ≤ X := by omega
      have hX1 : X < 1000000000 * pv 1000000000 lb1 := by omega
      have hll2 : l2.length ≤ lb1.length + 1 := by
        have h0 : Pc 1000000000 (0 :: lb1) := by
          refine ⟨Dg.cons (by omega) (by omega) HS2.out.2.1.1, fun x hx => ?_⟩
          cases hl0 : lb1 with
          | nil => rw [hl0] at hpos2; simp at hpos2
          | cons y ys => rw [hl0, List.getLast?_cons_cons] at hx; exact HS2.out.2.1.2 x (by rw [hl0]; exact hx)
        have := HL2.out.2.1.len_le (B := 1000000000) (by omega) h0 (by rw [HL2.out.2.2]; simp [pv]; omega)
        simpa using this
      have c1 := HG2.out.box.cell
      go_wp2_with fail
      refine (order_walk l2 lb1 _ _ _ (by omega) (by omega) HL2.out.1 HU2.out HL2.out.2.1 HS2.out.2.1).mono ?_
      rintro e w4 ⟨rfl, hk4⟩
      rw [HL2.out.2.2]
      have HG4 := Lib.hid (HG2.out.kp hk4)
      have HU3 := Lib.hid (HU1.out.kp hk4)
      have HU4 := Lib.hid (HU2.out.kp hk4)
      have HL4 := Lib.hid (And.intro (HL2.out.1.kp hk4) HL2.out.2)
      clear hk4 c1
      have hoj : o[j]'(by rw [HG4.out.len]; exact hj) = 0 := by
        have h1 : (o.take (j + 1))[j]'(by rw [HDO.out.1]; simp) = 0 := by simp [HDO.out.1]
        rw [List.getElem_take] at h1
        exact h1
      have hot : o.take j = List.replicate j 0 := by
        have h1 := congrArg (List.take j) HDO.out.1
        rw [List.take_take, Nat.min_eq_left (by omega), List.take_replicate, Nat.min_eq_left (by omega)] at h1
        exact h1
      have HOJ := Lib.hid (And.intro hoj hot)
      clear hoj hot
      by_cases hcmp : X < pv 1000000000 lb1
      · rw [sgn_lt hcmp]
        go_wp2_with fail
        go_roundw
        case rel =>
          have h1 := quo_step (z := 0) hj (by rw [HG4.out.len]; exact hj) HV.out
          have h2 : o.set j 0 = o := by
            have h3 := List.set_getElem_self (show j < o.length by rw [HG4.out.len]; exact hj)
            rw [HOJ.out.1] at h3
            exact h3
          rw [h2, hX, Int.zero_mul, Int.sub_zero] at h1
          exact ⟨j, o, X, by omega, rfl, HG4.out, HOJ.out.2, HDO.out.2, HU3.out, HU4.out, ⟨l2, HL4.out.1, HL4.out.2.1, HL4.out.2.2⟩, hX0, hcmp, h1⟩
        case measure => simp only [intOf]; omega
      · have hsg : ¬ sgn X (pv 1000000000 lb1) < 0 := by unfold sgn; rw [if_neg hcmp]; split <;> omega
        have hll1 : lb1.length ≤ l2.length := HS2.out.2.1.len_le (B := 1000000000) (by omega) HL4.out.2.1 (by rw [HL4.out.2.2]; omega)
        obtain ⟨b3, o3, rfl⟩ := HL4.out.1.addr (by omega)
        have g1 := HL4.out.1.cells (Kp.refl _) (i := l2.length - 1) (by omega)
        have g2 := HG4.out.box.cell
        have hat := HL4.out.2.1.1.at (i := l2.length - 1) (by omega)
        have hat2 := HL4.out.2.1.1.at (i := l2.length - 2) (by omega)
        have ht9 : X / pv 1000000000 lb1 ≤ 999999999 := by
          have := Int.ediv_lt_of_lt_mul hpv2 hX1
          omega
        have HT9 := Lib.hid ht9
        clear ht9
        rcases Nat.lt_or_ge lb1.length l2.length with hlen | hlen
        · have g3 := HL4.out.1.cells (Kp.refl _) (i := l2.length - 2) (by omega)
          have HM := Lib.hid (guess_min (Int.ediv_nonneg (by omega) (by omega)) (guess_two HL4.out.2.1.1 HS2.out.2.1.1 hpos2 (by omega) HL4.out.2.2 htop hX0 hpv2) HT9.out)
          go_wp2_with fail
          obtain ⟨D, hD⟩ : ∃ D, min ((l2[l2.length - 1] * 1000000000 + l2[l2.length - 2]) / lb1[lb1.length - 1]) 999999999 = D := ⟨_, rfl⟩
          rw [hD] at HM ⊢
          have hDb := HM.out
          clear hD
          refine (bsmall_walk lb1 _ D _ (by omega) HU4.out HS2.out.2.1.1 (by omega) (by omega)).mono ?_
          rintro e w6 ⟨v6, rfl, hp6, hk6⟩
          have HG6 := Lib.hid (HG4.out.kp hk6)
          have HU5 := Lib.hid (HU3.out.kp hk6)
          have HU6 := Lib.hid (HU4.out.kp hk6)
          have HL6 := Lib.hid (HL4.out.1.kp hk6)
          have HP6 := Lib.hid hp6
          clear hp6 hk6 g1 g2
          go_wp2_with fail
          go_loopw [12, 13] (fun sd sp ws => ∃ D : Int, sd = .int .u64 D ∧ X / pv 1000000000 lb1 ≤ D ∧ 0 ≤ D ∧ D ≤ 999999999 ∧ Pcs ws .u64 1000000000 sp (pv 1000000000 lb1 * D) ∧ Kp w6 ws) (fun sd _ _ => (intOf sd).toNat)
          case atStart => exact ⟨D, rfl, hDb.2.2, hDb.1, hDb.2.1, HP6.out, Kp.refl _⟩
          case round =>
            obtain ⟨E, rfl, hd1, hd0, hd2, ⟨l6, hs6, hc6, hv6⟩, hks⟩ := hrel
            obtain ⟨a6, c6, rfl, hcap6⟩ := hs6.val
            have HG7 := Lib.hid (HG6.out.kp hks)
            have HL7 := Lib.hid (HL6.out.kp hks)
            have HU7 := Lib.hid (HU6.out.kp hks)
            have HKS := Lib.hid hks
            have HL8 := Lib.hid (And.intro hs6 (And.intro hc6 hv6))
            have HD1 := Lib.hid hd1
            have hl6 : l6.length ≤ lb1.length + 1 := scaled_len HS2.out.2.1 hc6 hv6 (by omega)
            clear hs6 hc6 hv6 hks hd1
            go_wp2_with fail
            refine (order_walk l6 l2 _ _ _ (by omega) (by omega) HL8.out.1 HL7.out HL8.out.2.1 HL4.out.2.1).mono ?_
            rintro e w7 ⟨rfl, hk7⟩
            rw [HL8.out.2.2, HL4.out.2.2]
            have HG8 := Lib.hid (HG7.out.kp hk7)
            have HL9 := Lib.hid (HL7.out.kp hk7)
            have HU8 := Lib.hid (HU7.out.kp hk7)
            have HU7b := Lib.hid ((HU5.out.kp HKS.out).kp hk7)
            have HL10 := Lib.hid (HL8.out.1.kp hk7)
            have HK7 := Lib.hid (HKS.out.then hk7)
            clear hk7
            have c8 := HG8.out.box.cell
            have htm := Int.emod_add_mul_ediv X (pv 1000000000 lb1)
            have htm0 := Int.emod_nonneg X (show pv 1000000000 lb1 ≠ 0 by omega)
            have htm1 := Int.emod_lt_of_pos X hpv2
            by_cases hgt : X < pv 1000000000 lb1 * E
            · rw [sgn_gt hgt]
              have hE1 : 1 ≤ E := by
                rcases Int.lt_or_le E 1 with h | h
                · exfalso
                  have hE0 : E = 0 := by omega
                  rw [hE0, Int.mul_zero] at hgt
                  omega
                · exact h
              have hlt1 : X / pv 1000000000 lb1 ≤ E - 1 := by
                rcases Int.lt_or_le (E - 1) (X / pv 1000000000 lb1) with h | h
                · exfalso
                  have h1 : pv 1000000000 lb1 * E ≤ pv 1000000000 lb1 * (X / pv 1000000000 lb1) := Int.mul_le_mul_of_nonneg_left (by omega) (by omega)
                  omega
                · exact h
              have hle1 : pv 1000000000 lb1 ≤ pv 1000000000 l6 := by
                rw [HL8.out.2.2]
                have h1 : pv 1000000000 lb1 * 1 ≤ pv 1000000000 lb1 * E := Int.mul_le_mul_of_nonneg_left hE1 (by omega)
                omega
              have HE := Lib.hid (And.intro hE1 (And.intro hlt1 hle1))
              clear hE1 hlt1 hle1 htm htm0 htm1
              have hw1 : E - 1 < 18446744073709551616 := by omega
              go_wp2_with fail
              refine (minus_walk l6 lb1 _ _ _ (by omega) (by omega) HL10.out HU8.out HL8.out.2.1 HS2.out.2.1 HE.out.2.2).mono ?_
              rintro e w8 ⟨v8, rfl, hp8, hk8⟩
              have hpe : pv 1000000000 l6 - pv 1000000000 lb1 = pv 1000000000 lb1 * (E - 1) := by rw [HL8.out.2.2, Int.mul_sub, Int.mul_one]
              rw [hpe] at hp8
              have HP8 := Lib.hid hp8
              have HK8 := Lib.hid (HK7.out.then hk8)
              have hE1 := HE.out.1
              clear hp8 hk8 hpe
              go_wp2_with fail
              go_roundw
              case rel => exact ⟨E - 1, rfl, HE.out.2.1, by omega, by omega, HP8.out, HK8.out⟩
              case measure => simp only [intOf]; omega
            · have hsg2 : ¬ 0 < sgn (pv 1000000000 lb1 * E) X := by unfold sgn; split <;> (try split) <;> omega
              have hEq : E = X / pv 1000000000 lb1 := by
                rcases Int.lt_or_le (X / pv 1000000000 lb1) E with h | h
                · exfalso
                  have h1 : pv 1000000000 lb1 * (X / pv 1000000000 lb1 + 1) ≤ pv 1000000000 lb1 * E := Int.mul_le_mul_of_nonneg_left (by omega) (by omega)
                  rw [Int.mul_add, Int.mul_one] at h1
                  omega
                · have := HD1.out; omega
              have hres : pv 1000000000 l2 - pv 1000000000 l6 = X % pv 1000000000 lb1 := by
                rw [HL8.out.2.2, HL4.out.2.2, hEq]
                omega
              have HE := Lib.hid (And.intro hEq hres)
              clear hEq hres htm htm0 htm1
              have c9 := HG8.out.boxq.cell
              go_wp2_with fail
              go_region_held3 (fun w' => w'.cell? ⟨w.heap.size + 1, 0, none⟩ = some (.slice (some ⟨wc.heap.size, 0, none⟩) la1.length la1.length))
                (first | exact HG8.out.boxq.cell | exact HG9.out.boxq.cell | exact (HG9.out.store j E).boxq.cell | exact (World.cell?_setCell_far _ _ _ _ (by show wc.heap.size ≠ w.heap.size + 1; omega)).trans HG9.out.boxq.cell)
                (first
                  | (go_at_call 182; refine Calls.mono (minus_at l2 l6 _ _ _ ?_ ?_ ?_ ?_ ?_ ?_ ?_) ?_; (omega); (omega); (exact HL9.out.kp (Kp.drew w7)); (exact HL10.out.kp (Kp.drew w7)); (exact HL4.out.2.1); (exact HL8.out.2.1); (rw [HL8.out.2.2, HL4.out.2.2]; omega); rintro e w9 ⟨m9, rfl, hp9, hk9⟩; have HG9 := Lib.hid (HG8.out.kp ((Kp.drew w7).then hk9)); have HP9 := Lib.hid hp9; have HK9 := Lib.hid (HK7.out.then ((Kp.drew w7).then hk9)); have HLT := Lib.hid HG8.out.row.lt; have HU9 := Lib.hid (HU7b.out.kp ((Kp.drew w7).then hk9)); have HU10 := Lib.hid (HU8.out.kp ((Kp.drew w7).then hk9)); have g9 := HG9.out.row.cell (j := j) (by rw [HG9.out.len]; exact hj); have f9 := HG9.out.row.frozen j; clear hp9 hk9))
              go_wp2_with fail
              go_roundw
              case rel =>
                have h1 := quo_step (z := E) hj (by rw [HG9.out.len]; exact hj) HV.out
                rw [hX] at h1
                have h3 := HP9.out
                rw [HE.out.2] at h3
                have h4 : X - E * pv 1000000000 lb1 = X % pv 1000000000 lb1 := by
                  rw [HE.out.1, Int.mul_comm]
                  have := Int.emod_add_mul_ediv X (pv 1000000000 lb1)
                  omega
                rw [h4] at h1
                obtain ⟨l9, h5, h6⟩ := h3
                refine ⟨j, o.set j E, X % pv 1000000000 lb1, by omega, rfl, HG9.out.store j E, by rw [List.take_set_of_le (Nat.le_refl j)]; exact HOJ.out.2, HDO.out.2.set j hd0 (by omega), sls_ne HU9.out (fun a h => by cases h; exact HNE.out.1), sls_ne HU10.out (fun a h => by cases h; exact HNE.out.2), ⟨l9, sls_ne h5 (fun a h => by cases h; have := HLT.out; show w7.drew.heap.size ≠ wc.heap.size; have h8 : w7.drew.heap.size = w7.heap.size := rfl; omega), h6⟩, Int.emod_nonneg X (by omega), Int.emod_lt_of_pos X hpv2, h1⟩
              case measure => simp only [intOf]; omega
        · have HM := Lib.hid (guess_min (Int.ediv_nonneg (by omega) (by omega)) (guess_one HL4.out.2.1.1 HS2.out.2.1.1 hpos2 (by omega) HL4.out.2.2 htop hX0 hpv2) HT9.out)
          go_wp2_with fail
          obtain ⟨D, hD⟩ : ∃ D, min (l2[l2.length - 1] / lb1[lb1.length - 1]) 999999999 = D := ⟨_, rfl⟩
          rw [hD] at HM ⊢
          have hDb := HM.out
          clear hD
          refine (bsmall_walk lb1 _ D _ (by omega) HU4.out HS2.out.2.1.1 (by omega) (by omega)).mono ?_
          rintro e w6 ⟨v6, rfl, hp6, hk6⟩
          have HG6 := Lib.hid (HG4.out.kp hk6)
          have HU5 := Lib.hid (HU3.out.kp hk6)
          have HU6 := Lib.hid (HU4.out.kp hk6)
          have HL6 := Lib.hid (HL4.out.1.kp hk6)
          have HP6 := Lib.hid hp6
          clear hp6 hk6 g1 g2
          go_wp2_with fail
          go_loopw [12, 13] (fun sd sp ws => ∃ D : Int, sd = .int .u64 D ∧ X / pv 1000000000 lb1 ≤ D ∧ 0 ≤ D ∧ D ≤ 999999999 ∧ Pcs ws .u64 1000000000 sp (pv 1000000000 lb1 * D) ∧ Kp w6 ws) (fun sd _ _ => (intOf sd).toNat)
          case atStart => exact ⟨D, rfl, hDb.2.2, hDb.1, hDb.2.1, HP6.out, Kp.refl _⟩
          case round =>
            obtain ⟨E, rfl, hd1, hd0, hd2, ⟨l6, hs6, hc6, hv6⟩, hks⟩ := hrel
            obtain ⟨a6, c6, rfl, hcap6⟩ := hs6.val
            have HG7 := Lib.hid (HG6.out.kp hks)
            have HL7 := Lib.hid (HL6.out.kp hks)
            have HU7 := Lib.hid (HU6.out.kp hks)
            have HKS := Lib.hid hks
            have HL8 := Lib.hid (And.intro hs6 (And.intro hc6 hv6))
            have HD1 := Lib.hid hd1
            have hl6 : l6.length ≤ lb1.length + 1 := scaled_len HS2.out.2.1 hc6 hv6 (by omega)
            clear hs6 hc6 hv6 hks hd1
            go_wp2_with fail
            refine (order_walk l6 l2 _ _ _ (by omega) (by omega) HL8.out.1 HL7.out HL8.out.2.1 HL4.out.2.1).mono ?_
            rintro e w7 ⟨rfl, hk7⟩
            rw [HL8.out.2.2, HL4.out.2.2]
            have HG8 := Lib.hid (HG7.out.kp hk7)
            have HL9 := Lib.hid (HL7.out.kp hk7)
            have HU8 := Lib.hid (HU7.out.kp hk7)
            have HU7b := Lib.hid ((HU5.out.kp HKS.out).kp hk7)
            have HL10 := Lib.hid (HL8.out.1.kp hk7)
            have HK7 := Lib.hid (HKS.out.then hk7)
            clear hk7
            have c8 := HG8.out.box.cell
            have htm := Int.emod_add_mul_ediv X (pv 1000000000 lb1)
            have htm0 := Int.emod_nonneg X (show pv 1000000000 lb1 ≠ 0 by omega)
            have htm1 := Int.emod_lt_of_pos X hpv2
            by_cases hgt : X < pv 1000000000 lb1 * E
            · rw [sgn_gt hgt]
              have hE1 : 1 ≤ E := by
                rcases Int.lt_or_le E 1 with h | h
                · exfalso
                  have hE0 : E = 0 := by omega
                  rw [hE0, Int.mul_zero] at hgt
                  omega
                · exact h
              have hlt1 : X / pv 1000000000 lb1 ≤ E - 1 := by
                rcases Int.lt_or_le (E - 1) (X / pv 1000000000 lb1) with h | h
                · exfalso
                  have h1 : pv 1000000000 lb1 * E ≤ pv 1000000000 lb1 * (X / pv 1000000000 lb1) := Int.mul_le_mul_of_nonneg_left (by omega) (by omega)
                  omega
                · exact h
              have hle1 : pv 1000000000 lb1 ≤ pv 1000000000 l6 := by
                rw [HL8.out.2.2]
                have h1 : pv 1000000000 lb1 * 1 ≤ pv 1000000000 lb1 * E := Int.mul_le_mul_of_nonneg_left hE1 (by omega)
                omega
              have HE := Lib.hid (And.intro hE1 (And.intro hlt1 hle1))
              clear hE1 hlt1 hle1 htm htm0 htm1
              have hw1 : E - 1 < 18446744073709551616 := by omega
              go_wp2_with fail
              refine (minus_walk l6 lb1 _ _ _ (by omega) (by omega) HL10.out HU8.out HL8.out.2.1 HS2.out.2.1 HE.out.2.2).mono ?_
              rintro e w8 ⟨v8, rfl, hp8, hk8⟩
              have hpe : pv 1000000000 l6 - pv 1000000000 lb1 = pv 1000000000 lb1 * (E - 1) := by rw [HL8.out.2.2, Int.mul_sub, Int.mul_one]
              rw [hpe] at hp8
              have HP8 := Lib.hid hp8
              have HK8 := Lib.hid (HK7.out.then hk8)
              have hE1 := HE.out.1
              clear hp8 hk8 hpe
              go_wp2_with fail
              go_roundw
              case rel => exact ⟨E - 1, rfl, HE.out.2.1, by omega, by omega, HP8.out, HK8.out⟩
              case measure => simp only [intOf]; omega
            · have hsg2 : ¬ 0 < sgn (pv 1000000000 lb1 * E) X := by unfold sgn; split <;> (try split) <;> omega
              have hEq : E = X / pv 1000000000 lb1 := by
                rcases Int.lt_or_le (X / pv 1000000000 lb1) E with h | h
                · exfalso
                  have h1 : pv 1000000000 lb1 * (X / pv 1000000000 lb1 + 1) ≤ pv 1000000000 lb1 * E := Int.mul_le_mul_of_nonneg_left (by omega) (by omega)
                  rw [Int.mul_add, Int.mul_one] at h1
                  omega
                · have := HD1.out; omega
              have hres : pv 1000000000 l2 - pv 1000000000 l6 = X % pv 1000000000 lb1 := by
                rw [HL8.out.2.2, HL4.out.2.2, hEq]
                omega
              have HE := Lib.hid (And.intro hEq hres)
              clear hEq hres htm htm0 htm1
              have c9 := HG8.out.boxq.cell
              go_wp2_with fail
              go_region_held3 (fun w' => w'.cell? ⟨w.heap.size + 1, 0, none⟩ = some (.slice (some ⟨wc.heap.size, 0, none⟩) la1.length la1.length))
                (first | exact HG8.out.boxq.cell | exact HG9.out.boxq.cell | exact (HG9.out.store j E).boxq.cell | exact (World.cell?_setCell_far _ _ _ _ (by show wc.heap.size ≠ w.heap.size + 1; omega)).trans HG9.out.boxq.cell)
                (first
                  | (go_at_call 182; refine Calls.mono (minus_at l2 l6 _ _ _ ?_ ?_ ?_ ?_ ?_ ?_ ?_) ?_; (omega); (omega); (exact HL9.out.kp (Kp.drew w7)); (exact HL10.out.kp (Kp.drew w7)); (exact HL4.out.2.1); (exact HL8.out.2.1); (rw [HL8.out.2.2, HL4.out.2.2]; omega); rintro e w9 ⟨m9, rfl, hp9, hk9⟩; have HG9 := Lib.hid (HG8.out.kp ((Kp.drew w7).then hk9)); have HP9 := Lib.hid hp9; have HK9 := Lib.hid (HK7.out.then ((Kp.drew w7).then hk9)); have HLT := Lib.hid HG8.out.row.lt; have HU9 := Lib.hid (HU7b.out.kp ((Kp.drew w7).then hk9)); have HU10 := Lib.hid (HU8.out.kp ((Kp.drew w7).then hk9)); have g9 := HG9.out.row.cell (j := j) (by rw [HG9.out.len]; exact hj); have f9 := HG9.out.row.frozen j; clear hp9 hk9))
              go_wp2_with fail
              go_roundw
              case rel =>
                have h1 := quo_step (z := E) hj (by rw [HG9.out.len]; exact hj) HV.out
                rw [hX] at h1
                have h3 := HP9.out
                rw [HE.out.2] at h3
                have h4 : X - E * pv 1000000000 lb1 = X % pv 1000000000 lb1 := by
                  rw [HE.out.1, Int.mul_comm]
                  have := Int.emod_add_mul_ediv X (pv 1000000000 lb1)
                  omega
                rw [h4] at h1
                obtain ⟨l9, h5, h6⟩ := h3
                refine ⟨j, o.set j E, X % pv 1000000000 lb1, by omega, rfl, HG9.out.store j E, by rw [List.take_set_of_le (Nat.le_refl j)]; exact HOJ.out.2, HDO.out.2.set j hd0 (by omega), sls_ne HU9.out (fun a h => by cases h; exact HNE.out.1), sls_ne HU10.out (fun a h => by cases h; exact HNE.out.2), ⟨l9, sls_ne h5 (fun a h => by cases h; have := HLT.out; show w7.drew.heap.size ≠ wc.heap.size; have h8 : w7.drew.heap.size = w7.heap.size := rfl; omega), h6⟩, Int.emod_nonneg X (by omega), Int.emod_lt_of_pos X hpv2, h1⟩
              case measure => simp only [intOf]; omega
end Go.Proofs.YtjcfejncjdhplaaGreatDoor
