/-
  A region that draws its order, by an invariant over what has been listed; inside a round as well.
-/
import Derived.Test.YtjcfejncjdhplaaGreatDoorBigP
import Derived.RangeFuncBox
import Derived.RangeFuncLeaves
import Derived.Shelf.Abstract
import Derived.OwnWalkIn
import Derived.TacticsInMore
import Derived.LoopNIn
import Derived.LoopIn
import Derived.OrdersIn
set_option linter.unusedSectionVars false
set_option linter.unusedVariables false
set_option linter.unusedSimpArgs false
namespace Go.Proofs.YtjcfejncjdhplaaGreatDoor
open Go.RowKit Go Klp
def Row9 (w0 w : World) (N : Nat) (o : List Int) : Prop :=
  w.ownsRow w0.heap.size 271 1 (.slice (some ⟨w0.heap.size, 0, none⟩) N N) N (o.map (Value.int .u64)) ∧ o.length = N ∧ Dg 1000000000 o ∧ Below w0.heap.size w0 w
theorem Row9.cell {w0 w : World} {N : Nat} {o : List Int} (h : Row9 w0 w N o) {j : Nat} (hj : j < N) : w.cell? ⟨w0.heap.size, j, none⟩ = some (.int .u64 (o[j]'(by rw [h.2.1]; exact hj))) := by
  rw [h.1.cellAt j (by omega), List.getElem?_map, List.getElem?_eq_getElem (by rw [h.2.1]; exact hj)]
  rfl
theorem Row9.frozen {w0 w : World} {N : Nat} {o : List Int} (h : Row9 w0 w N o) (j : Nat) : w.frozen? ⟨w0.heap.size, j, none⟩ = false := h.1.frozenAt j
theorem Row9.store {w0 w : World} {N : Nat} {o : List Int} (h : Row9 w0 w N o) (j : Nat) {z : Int} (h0 : 0 ≤ z) (h1 : z < 1000000000) : Row9 w0 (w.setCell ⟨w0.heap.size, j, none⟩ (.int .u64 z)) N (o.set j z) := by
  have h2 := (h.1.stored j (.int .u64 z)).1
  refine ⟨?_, by rw [List.length_set]; exact h.2.1, h.2.2.1.set j h0 h1, h.2.2.2.setCell (p := ⟨w0.heap.size, j, none⟩) (Nat.le_refl _) _⟩
  rw [List.map_set]
  exact h2
theorem Row9.zeros {w0 w : World} {N : Nat} (h : w.ownsRow w0.heap.size 271 1 (.slice (some ⟨w0.heap.size, 0, none⟩) N N) N (madeCells #[Value.int IntKind.u64 0] N).toList) (hb : Below w0.heap.size w0 w) : Row9 w0 w N (List.replicate N 0) := by
  rw [toList_madeCells_one] at h
  refine ⟨by rw [List.map_replicate]; exact h, List.length_replicate, fun x hx => ?_, hb⟩
  rw [(List.mem_replicate.1 hx).2]
  omega
theorem pv_zeros (B : Int) (N : Nat) : pv B (List.replicate N 0) = 0 := by
  induction N with
  | zero => rfl
  | succ n ih => rw [List.replicate_succ, pv, ih]; simp
theorem mul9_bd {x y : Int} (hx : 0 ≤ x ∧ x < 1000000000) (hy : 0 ≤ y ∧ y < 1000000000) : 0 ≤ x * y ∧ x * y ≤ 999999998000000001 := by
  refine ⟨Int.mul_nonneg hx.1 hy.1, ?_⟩
  have := Int.mul_le_mul (show x ≤ 999999999 by omega) (show y ≤ 999999999 by omega) hy.1 (by omega)
  omega
set_option maxHeartbeats 1000000 in
theorem times_walk (la lb : List Int) (va vb : Value) (w : World) (hl : la.length ≤ 10000) (hl' : lb.length ≤ 10000) (ha : Sls w .u64 va la) (hb : Sls w .u64 vb lb) (pa : Dg 1000000000 la) (pb : Dg 1000000000 lb) :
    Calls Tryz.prog 195 #[va, vb] w fun e w' => ∃ v', e = .returned v' ∧ Pcs w' .u64 1000000000 v' (pv 1000000000 la * pv 1000000000 lb) ∧ Kp w w' := by
  obtain ⟨aa, ca, rfl, hca⟩ := ha.val
  obtain ⟨ab, cb, rfl, hcb⟩ := hb.val
  obtain ⟨i0, hi, hz0, hz1, hz2⟩ := info_parts infoU
  have HA := Lib.hid ha; clear ha
  have HB := Lib.hid hb; clear hb
  have PA := Lib.hid pa; clear pa
  have PB := Lib.hid pb; clear pb
  go_enter Tryz.func195, Tryz.ntmps195
  go_wp2_with (at_make; refine wpList_make_full _ rfl _ _ 190 rfl w.heap.size 271 i0 (.int .u64 0) 1 Tryz.underlying190 hi hz0 hz1 _ _ _ _ (la.length + lb.length + 1) rfl rfl (by omega) (by omega) ?b2 ?b3 (Nat.le_refl _) ?_)
  case b2 => rw [hz2]; omega
  case b3 => unfold maxLen; omega
  intro w0 hown0 hgrow0
  have hr0 : Row9 w w0 (la.length + lb.length + 1) (List.replicate (la.length + lb.length + 1) 0) := Row9.zeros hown0 ((Below.refl _ w).grown hgrow0 (Nat.le_refl _) (fun k h => by cases h))
  have HR0 := Lib.hid hr0
  clear hr0 hown0 hgrow0
  go_wp2_with fail
  go_loopw [21] (fun si wr => ∃ (i : Nat) (o : List Int), i ≤ la.length ∧ si = .int .i64 i ∧ Row9 w wr (la.length + lb.length + 1) o ∧ pv 1000000000 o = pv 1000000000 (la.take i) * pv 1000000000 lb) (fun si _ => la.length - (intOf si).toNat)
  case atStart => exact ⟨0, _, Nat.zero_le _, rfl, HR0.out, by rw [pv_zeros]; simp [pv]⟩
  case round =>
    obtain ⟨i, o, hil, rfl, hr, hv⟩ := hrel
    have HR := Lib.hid hr; clear hr
    have HV := Lib.hid hv; clear hv
    by_cases hlt : i < la.length
    · obtain ⟨ba, oa, rfl⟩ := HA.out.addr (by omega)
      have ga := HA.out.cells (show Kp w wr from HR.out.2.2.2) hlt
      have hai := PA.out.at hlt
      go_wp2_with fail
      go_loopw [8, 28] (fun bo si ws => ∃ (k : Nat) (o' : List Int) (c : Int), k ≤ lb.length ∧ si = .int .i64 k ∧ bo = .int .u64 c ∧ 0 ≤ c ∧ c < 1000000000 ∧ Row9 w ws (la.length + lb.length + 1) o' ∧
          pv 1000000000 o' + c * 1000000000 ^ (i + k) = pv 1000000000 o + 1000000000 ^ i * (la[i] * pv 1000000000 (lb.take k))) (fun _ si _ => lb.length - (intOf si).toNat)
      case atStart => exact ⟨0, o, 0, Nat.zero_le _, rfl, rfl, by omega, by omega, HR.out, by simp [pv]⟩
      case round =>
        obtain ⟨k, o', c, hkl, rfl, rfl, hc0, hc1, hr', hv'⟩ := hrel
        have HR' := Lib.hid hr'; clear hr'
        have HV' := Lib.hid hv'; clear hv'
        by_cases hkt : k < lb.length
        · obtain ⟨bb, ob, rfl⟩ := HB.out.addr (by omega)
          have gb := HB.out.cells (show Kp w _ from HR'.out.2.2.2) hkt
          have hbk := PB.out.at hkt
          have hxy := mul9_bd hai hbk
          have gc := HR'.out.cell (j := i + k) (by omega)
          have gf := HR'.out.frozen (i + k)
          have hol : i + k < o'.length := by rw [HR'.out.2.1]; omega
          have hok := HR'.out.2.2.1.at hol
          go_wp2_with fail
          go_roundw
          case rel =>
            have hcl := carry_lt (B := 1000000000) (by omega) hc0 hc1 hok.1 hok.2 hai.1 hai.2 hbk.1 hbk.2
            have hq := div_lt_base (B := 1000000000) (by omega) hcl.1 hcl.2
            have hm0 := Int.emod_nonneg (c + (o'[i + k] + la[i] * lb[k])) (show (1000000000 : Int) ≠ 0 by omega)
            have hm1 := Int.emod_lt_of_pos (c + (o'[i + k] + la[i] * lb[k])) (show (0 : Int) < 1000000000 by omega)
            refine ⟨k + 1, o'.set (i + k) ((c + (o'[i + k] + la[i] * lb[k])) % 1000000000), (c + (o'[i + k] + la[i] * lb[k])) / 1000000000, by omega, by go_num, rfl, hq.1, hq.2, HR'.out.store (i + k) hm0 hm1, ?_⟩
            rw [← Nat.add_assoc, mul_step (by omega) hol, pv_take_succ _ lb k hkt]
            have hv := HV'.out
            rw [Int.pow_add] at hv ⊢
            grind
          case measure => simp only [intOf]; omega
        · obtain rfl : k = lb.length := by omega
          go_wp2_with fail
          have hv' := HV'.out
          rw [List.take_length] at hv'
          have hX : pv 1000000000 o + 1000000000 ^ i * (la[i] * pv 1000000000 lb) = pv 1000000000 (la.take (i + 1)) * pv 1000000000 lb := by
            rw [HV.out, pv_take_succ _ la i hlt]
            grind
          have hlt2 : pv 1000000000 (la.take (i + 1)) * pv 1000000000 lb < 1000000000 ^ (i + 1 + lb.length) := by
            have h1 := pv_lt (B := 1000000000) (by omega) (PA.out.take (i + 1))
            have h2 := pv_lt (B := 1000000000) (by omega) PB.out
            have h3 := pv_nn (B := 1000000000) (by omega) (PA.out.take (i + 1))
            have h4 := pv_nn (B := 1000000000) (by omega) PB.out
            rw [List.length_take, Nat.min_eq_left (by omega)] at h1
            rw [Int.pow_add]
            have h5 := ipow_pos (B := 1000000000) (by omega) lb.length
            have h6 : pv 1000000000 (la.take (i + 1)) * pv 1000000000 lb ≤ pv 1000000000 (la.take (i + 1)) * 1000000000 ^ lb.length := Int.mul_le_mul_of_nonneg_left (by omega) h3
            have h7 : (pv 1000000000 (la.take (i + 1)) + 1) * 1000000000 ^ lb.length ≤ 1000000000 ^ (i + 1) * 1000000000 ^ lb.length := Int.mul_le_mul_of_nonneg_right (by omega) (by omega)
            rw [Int.add_mul, Int.one_mul] at h7
            omega
          rw [hX] at hv'
          have HX := Lib.hid hv'
          have HX2 := Lib.hid hlt2
          clear hv' hX hlt2
          go_loopw [8, 11] (fun bo sj ws => ∃ (j : Nat) (o2 : List Int) (c2 : Int), i + lb.length ≤ j ∧ j ≤ i + lb.length + 1 ∧ sj = .int .i64 j ∧ bo = .int .u64 c2 ∧ 0 ≤ c2 ∧ c2 < 1000000000 ∧ Row9 w ws (la.length + lb.length + 1) o2 ∧
              pv 1000000000 o2 + c2 * 1000000000 ^ j = pv 1000000000 (la.take (i + 1)) * pv 1000000000 lb) (fun _ sj _ => la.length + lb.length + 5 - (intOf sj).toNat)
          case atStart => exact ⟨i + lb.length, o', c, Nat.le_refl _, by omega, by go_num, rfl, hc0, hc1, HR'.out, HX.out⟩
          case round =>
            obtain ⟨j, o2, c2, hj0, hj1, rfl, rfl, hd0, hd1, hr2, hv2⟩ := hrel
            have HR2 := Lib.hid hr2; clear hr2
            have HV2 := Lib.hid hv2; clear hv2
            by_cases hcz : 0 < c2
            · have hjn := carry_end (B := 1000000000) (by omega) HR2.out.2.2.1 HV2.out HX2.out hcz
              have gc := HR2.out.cell (j := j) (by omega)
              have gf := HR2.out.frozen j
              have hol : j < o2.length := by rw [HR2.out.2.1]; omega
              have hok := HR2.out.2.2.1.at hol
              go_wp2_with fail
              go_roundw
              case rel =>
                have hm0 := Int.emod_nonneg (c2 + o2[j]) (show (1000000000 : Int) ≠ 0 by omega)
                have hm1 := Int.emod_lt_of_pos (c2 + o2[j]) (show (0 : Int) < 1000000000 by omega)
                refine ⟨j + 1, o2.set j ((c2 + o2[j]) % 1000000000), (c2 + o2[j]) / 1000000000, by omega, by omega, by go_num, rfl, by omega, by omega, HR2.out.store j hm0 hm1, ?_⟩
                rw [mul_step (by omega) hol, ← HV2.out]
                grind
              case measure => simp only [intOf]; omega
            · obtain rfl : c2 = 0 := by omega
              go_wp2_with fail
              go_roundw
              case rel => exact ⟨i + 1, o2, by omega, by go_num, HR2.out, by have := HV2.out; rw [Int.zero_mul, Int.add_zero] at this; exact this⟩
              case measure => simp only [intOf]; omega
    · obtain rfl : i = la.length := by omega
      go_wp2_with fail
      have hv := HV.out
      rw [List.take_length] at hv
      have HV1 := Lib.hid hv; clear hv
      have hol : o.length ≤ 100000 := by rw [HR.out.2.1]; omega
      refine (trim_walk o _ _ hol HR.out.2.2.1 (Sls.own HR.out.1)).mono ?_
      rintro e w2 ⟨v', rfl, hp, hk⟩
      have HP := Lib.hid hp; clear hp
      have HK2 := Lib.hid ((show Kp w wr from HR.out.2.2.2).then hk); clear hk
      go_wp2_with fail
      go_ret
      exact ⟨_, rfl, HV1.out ▸ HP.out, HK2.out⟩
end Go.Proofs.YtjcfejncjdhplaaGreatDoor
namespace Go.Proofs.YtjcfejncjdhplaaGreatDoor
open Go.RowKit Go Klp
theorem cell_new (w : World) (v : Value) (T : Nat) : (w.alloc (.cells #[v] T)).cell? ⟨w.heap.size, 0, none⟩ = some v := by
  unfold World.cell?
  rw [heap_alloc_new]
  rfl
theorem sls_one (w : World) (k : IntKind) (d : Int) (T : Nat) : Sls (w.alloc (.cells #[.int k d] T)) k (.slice (some ⟨w.heap.size, 0, none⟩) 1 1) [d] := by
  refine ⟨_, 1, rfl, Nat.le_refl _, (fun e => by cases e), fun _ => ⟨_, 0, rfl, fun i hi => ?_⟩⟩
  obtain rfl : i = 0 := by simp at hi; exact hi
  rw [Nat.zero_add]
  exact cell_new w _ T
theorem kp_alloc (w : World) (o : Obj) : Kp w (w.alloc o) := (Below.refl _ w).alloc (Nat.le_refl _) o
theorem pv_one (B d : Int) : pv B [d] = d := by simp [pv]
set_option maxHeartbeats 1000000 in
theorem bsmall_walk (la : List Int) (va : Value) (d : Int) (w : World) (hl : la.length ≤ 10000) (ha : Sls w .u64 va la) (pa : Dg 1000000000 la) (hd : 0 ≤ d) (hd' : d < 1000000000) :
    Calls Tryz.prog 181 #[va, .int .u64 d] w fun e w' => ∃ v', e = .returned v' ∧ Pcs w' .u64 1000000000 v' (pv 1000000000 la * d) ∧ Kp w w' := by
  obtain ⟨aa, ca, rfl, hca⟩ := ha.val
  have HA := Lib.hid ha; clear ha
  have PA := Lib.hid pa; clear pa
  go_enter Tryz.func181, Tryz.ntmps181
  go_wp2_with fail
  refine (trim_walk [d] _ _ (by simp) (Dg.cons hd hd' (Dg.nil _)) (sls_one w .u64 d 271)).mono ?_
  rintro e w1 ⟨v', rfl, hp, hk⟩
  obtain ⟨lb, hs, hpc, hv⟩ := hp
  have hlb : lb.length ≤ 1 := by
    have h0 : Pc 1000000000 [999999999] := ⟨Dg.cons (by omega) (by omega) (Dg.nil _), fun x hx => by cases hx; decide⟩
    refine hpc.len_le (by omega) h0 ?_
    rw [hv, pv_one, pv_one]
    omega
  have HK := Lib.hid ((kp_alloc w _).then hk); clear hk
  have HS := Lib.hid hs; clear hs
  have HP := Lib.hid hpc; clear hpc
  have HV := Lib.hid hv; clear hv
  go_wp2_with fail
  refine (times_walk la lb _ _ _ hl (by omega) (HA.out.kp HK.out) HS.out PA.out HP.out.1).mono ?_
  rintro e w2 ⟨v2, rfl, hp2, hk2⟩
  rw [HV.out, pv_one] at hp2
  have HP2 := Lib.hid hp2; clear hp2
  have HK2 := Lib.hid (HK.out.then hk2); clear hk2
  go_wp2_with fail
  go_ret
  exact ⟨_, rfl, HP2.out, HK2.out⟩
end Go.Proofs.YtjcfejncjdhplaaGreatDoor
namespace Go.Proofs.YtjcfejncjdhplaaGreatDoor
open Go.RowKit Go Klp Go.Shelf
attribute [local go_sem] Oper.semAt_some
abbrev Pz (zs : List Int) := { p : Nat × Int // ∃ h : p.1 < zs.length, p.2 = zs[p.1] }
def downB (zs : List Int) : Nat → List (Pz zs)
  | 0 => []
  | k + 1 => if h : zs.length - 1 - k < zs.length then downB zs k ++ [⟨(zs.length - 1 - k, zs[zs.length - 1 - k]), h, rfl⟩] else downB zs k
theorem downB_succ (zs : List Int) (k m : Nat) (hm : m = zs.length - 1 - k) (h : m < zs.length) : downB zs (k + 1) = downB zs k ++ [⟨(m, zs[m]), h, rfl⟩] := by
  subst hm
  rw [downB, dif_pos h]
theorem downB_length (zs : List Int) : ∀ k, k ≤ zs.length → (downB zs k).length = k
  | 0, _ => rfl
  | k + 1, h => by rw [downB_succ zs k _ rfl (by omega), List.length_append, downB_length zs k (by omega)]; rfl
def Keep2 (p q : Nat) (A B : World) : Prop := B.heap[p]? = A.heap[p]? ∧ B.heap[q]? = A.heap[q]?
theorem Keep2.refl (p q : Nat) (A : World) : Keep2 p q A A := ⟨rfl, rfl⟩
theorem Keep2.trans {p q : Nat} {A B C : World} (h : Keep2 p q A B) (k : Keep2 p q B C) : Keep2 p q A C := ⟨k.1.trans h.1, k.2.trans h.2⟩
theorem Keep2.put {p q : Nat} {w : World} (hp : p < w.heap.size) (hq : q < w.heap.size) (W : World) (l : Nat) (o o' : Obj) (hl : w.heap.size ≤ l) (h : W.heap[l]? = some o) (_ : o.isCells = false) (_ : o.isWalk = false) : Keep2 p q W (W.putObj l o') :=
  have hg := grownBy_putObj' W l o'
  have hs := (Array.getElem?_eq_some_iff.1 h).1
  ⟨hg.block p (by omega) (fun e => by cases e; omega), hg.block q (by omega) (fun e => by cases e; omega)⟩
set_option maxRecDepth 100000 in
set_option maxHeartbeats 2000000 in
theorem back1_in (F : Fence) (n : Nat) (h7 : F.fn 247) (hro : F.round = none) (hn : 1 ≤ n) (l Bs b off cap : Nat) (zs : List Int) (hreach : zs.length ≤ 100000) (J Jx : List (Pz zs) → World → Prop)
    (hY : ∀ pre x W, J pre W → pre.length < zs.length → YieldAt F (n - 1) Tryz.prog l #[.int .i64 (x.1.1 : Int), .int .u64 x.1.2] W fun e W' =>
      (e = .returned (.bool true) ∧ J (pre ++ [x]) W' ∧ Keep2 Bs b W W') ∨ (e = .returned (.bool false) ∧ Jx (pre ++ [x]) W'))
    (W : World) (hBs : W.cell? ⟨Bs, 0, none⟩ = some (.slice (some ⟨b, off, none⟩) zs.length cap)) (hc : ∀ j (h : j < zs.length), W.cell? ⟨b, off + j, none⟩ = some (.int .u64 zs[j])) (h0 : J [] W) :
    CallsIn F n Tryz.prog 247 #[.func (.yield l) #[] #[], .pointer (some ⟨Bs, 0, none⟩)] W fun e W' => (∃ v, e = .returned v) ∧
      ((∃ ys, ys = downB zs zs.length ∧ J ys W') ∨ (∃ pre, (∃ k, k ≤ zs.length ∧ pre = downB zs k) ∧ Jx pre W')) := by
  refine callsIn_of_wp Tryz.func247 rfl h7 ?_ hro
  simp only [Tryz.ntmps247, List.size_toArray, List.length_cons, List.length_nil, Nat.reduceAdd, Nat.reduceSub, Array.replicate_succ, Array.replicate_zero, List.push_toArray, List.append_toArray, List.nil_append, List.cons_append]
  gi_wp2
  gi_loopw [3] (fun i wr => ∃ k : Nat, k ≤ zs.length ∧ i = .int .i64 ((zs.length : Int) - 1 - k) ∧ J (downB zs k) wr ∧ Keep2 Bs b W wr)
    (fun i _ => (intOf i + 1).toNat)
  case atStart => exact ⟨0, Nat.zero_le _, by simp, h0, Keep2.refl _ _ _⟩
  case round =>
    obtain ⟨k, hk, rfl, hJs, hnx⟩ := hrel
    by_cases hlt : k < zs.length
    · obtain ⟨m, hm⟩ : ∃ m, m = zs.length - 1 - k := ⟨_, rfl⟩
      have hms : m < zs.length := by omega
      have hcx : wr.cell? ⟨b, off + m, none⟩ = some (.int .u64 zs[m]) := (World.cell?_of_block (a := ⟨b, off + m, none⟩) hnx.2).trans (hc m hms)
      have hBx : wr.cell? ⟨Bs, 0, none⟩ = some (.slice (some ⟨b, off, none⟩) zs.length cap) := (World.cell?_of_block (a := ⟨Bs, 0, none⟩) hnx.1).trans hBs
      have e1 : (zs.length : Int) - 1 - (k : Int) = (m : Int) := by omega
      rw [e1]
      have HM := Lib.hid hm
      clear hm e1
      obtain ⟨fn, tmps, assign, body, hy, hR⟩ := hY _ ⟨(m, zs[m]), hms, rfl⟩ wr hJs (by rw [downB_length _ _ hk]; exact hlt)
      dsimp only at hy
      gi_wp2
      refine hR.mono ?_
      rintro e W3 (⟨rfl, hJ3, hk3⟩ | ⟨rfl, hJx3⟩)
      · gi_wp2
        go_roundw
        case rel => exact ⟨k + 1, by omega, by have := HM.out; congr 1; omega, by rw [downB_succ zs k m HM.out hms]; exact hJ3, hnx.trans hk3⟩
        case measure => simp only [intOf]; omega
      · gi_wp2
        refine bodyPost_ret (results_none rfl _ _ _) rfl ?_
        exact ⟨⟨_, rfl⟩, .inr ⟨_, ⟨k + 1, by omega, by rw [downB_succ zs k m HM.out hms]⟩, hJx3⟩⟩
    · obtain rfl : k = zs.length := by omega
      have e1 : (zs.length : Int) - 1 - (zs.length : Int) = -1 := by omega
      rw [e1]
      gi_wp2
      go_end0
      exact ⟨⟨_, rfl⟩, .inl ⟨_, rfl, hJs⟩⟩
set_option maxHeartbeats 1000000 in
theorem back_in (F : Fence) (n : Nat) (h5 : F.fn 180) (hro : F.round = none) (a : Option Addr) (len cap : Nat) (w : World) :
    CallsIn F n Tryz.prog 180 #[.slice a len cap] w fun e w' => e = .returned (.func (.func 247) #[] #[.pointer (some ⟨w.heap.size, 0, none⟩)]) ∧ w' = w.alloc (.cells #[.slice a len cap] 190) := by
  refine callsIn_of_wp Tryz.func180 rfl h5 ?_ hro
  simp only [Tryz.ntmps180, List.size_toArray, List.length_cons, List.length_nil, Nat.reduceAdd, Nat.reduceSub, Array.replicate_succ, Array.replicate_zero, List.push_toArray, List.append_toArray, List.nil_append, List.cons_append]
  gi_wp2
  go_ret
  exact ⟨rfl, rfl⟩
theorem back_stops (F : Fence) (n : Nat) (h8 : F.fn 247) (hro : F.round = none) (hn : 1 ≤ n) (Bs b off cap : Nat) (zs : List Int) (hreach : zs.length ≤ 100000) (hz : 0 < zs.length) (w : World) (hBs : Bs < w.heap.size)
    (hc : w.cell? ⟨Bs, 0, none⟩ = some (.slice (some ⟨b, off, none⟩) zs.length cap)) (hI : Sls w .u64 (.slice (some ⟨b, off, none⟩) zs.length cap) zs) :
    SeqStopsK F n Tryz.prog 247 #[.pointer (some ⟨Bs, 0, none⟩)] (fun x : Pz zs => #[Value.int .i64 (x.1.1 : Int), Value.int .u64 x.1.2]) (Keep2 Bs b) (fun ys => ys = downB zs zs.length)
      (fun pre => ∃ k, k ≤ zs.length ∧ pre = downB zs k) zs.length w := fun l J Jx W hW _ _ hY h0 => by
  have hc' := (hW.cell (p := ⟨Bs, 0, none⟩) hBs).trans hc
  exact back1_in F n h8 hro hn l Bs b off cap zs hreach J Jx hY W hc' (fun j hj => hI.cells hW hj) h0
end Go.Proofs.YtjcfejncjdhplaaGreatDoor
namespace Go.Proofs.YtjcfejncjdhplaaGreatDoor
open Go.RowKit Go Klp Go.Shelf
def unlis (L : Array Bool) : Nat := L.toList.count false
theorem unlis_set {L : Array Bool} {i : Nat} (h : L.getD i true = false) : unlis L = unlis (L.setIfInBounds i true) + 1 := by
  have hi : i < L.size := by
    rcases Nat.lt_or_ge i L.size with h1 | h1
    · exact h1
    · simp [Array.getD_eq_getD_getElem?, h1] at h
  have hv : L.toList[i]'(by simpa using hi) = false := by simpa [Array.getD_eq_getD_getElem?, hi] using h
  unfold unlis
  rw [Array.toList_setIfInBounds, List.count_set (by simpa using hi)]
  have hpos : 0 < L.toList.count false := List.count_pos_iff.2 (by rw [← hv]; exact List.getElem_mem _)
  have e1 : (L.toList[i]'(by simpa using hi) == false) = true := by rw [hv]; rfl
  rw [e1]
  simp only [if_true, show ((true : Bool) == false) = false from rfl, Bool.false_eq_true, if_false]
  omega
theorem any_inv {F : Fence} {n : Nat} {P : Program} {ops : Array Oper} {Q : Exit → Act → World → Prop} (I : Array Bool → Act → World → Prop)
    (hstep : ∀ L a w i o, I L a w → ops[i]? = some o → L.getD i true = false → (∀ e ∈ o.after, Region.binds .any e = true → L.getD e.on false = true) → wpOpIn F n P ops Q i (I (L.setIfInBounds i true)) a w)
    (hend : ∀ L a w, I L a w → Region.ready .any ops L = [] → Q .normal a w) :
    ∀ (fuel : Nat) (L : Array Bool) (a : Act) (w : World), I L a w → unlis L ≤ fuel → wpAnyIn F n P .any ops Q fuel L a w
  | 0, L, a, w, hI, hu => by
    have hr : Region.ready .any ops L = [] := by
      rcases h : Region.ready .any ops L with _ | ⟨i, l⟩
      · rfl
      · have h1 : i ∈ Region.ready .any ops L := by rw [h]; exact List.mem_cons_self ..
        have := unlis_set (mem_ready.1 h1).1
        omega
    exact ⟨hr, hend L a w hI hr⟩
  | fuel + 1, L, a, w, hI, hu => by
    refine ⟨hend L a w hI, fun i hi => ?_⟩
    obtain ⟨h1, o, ho, h2⟩ := mem_ready.1 hi
    exact wpOpIn_mono (fun a' w' h => any_inv I hstep hend fuel _ a' w' h (by have := unlis_set h1; omega)) (hstep L a w i o hI ho h1 h2)
theorem all_listed {ops : Array Oper} {L : Array Bool} (hs : L.size = ops.size) (hw : ∀ (i : Nat) (o : Oper), ops[i]? = some o → ∀ e ∈ o.after, e.on < i) (hr : Region.ready .any ops L = []) : ∀ i, i < ops.size → L.getD i true = true := by
  intro i
  induction i using Nat.strongRecOn with
  | _ i ih =>
    intro hi
    rcases h : L.getD i true with _ | _
    · exfalso
      have h1 : i ∈ Region.ready .any ops L := by
        refine mem_ready.2 ⟨h, ops[i], Array.getElem?_eq_getElem hi, fun e he _ => ?_⟩
        have h2 := hw i _ (Array.getElem?_eq_getElem hi) e he
        have h3 := ih e.on h2 (by omega)
        rw [Array.getD_eq_getD_getElem?, Array.getElem?_eq_getElem (by omega)] at h3 ⊢
        exact h3
      rw [hr] at h1
      cases h1
    · rfl
section
variable {F : Fence} {n : Nat} {P : Program} {ops : Array Oper} {Q : Exit → Act → World → Prop} {i : Nat} {K : Act → World → Prop} {a : Act} {w : World}
theorem op_gives {o : Oper} {v : Value} {w' : World} (ho : ops[i]? = some o) (hg : o.guard = none) (hd : ∀ c, o.op ≠ .defer c) (hab : ∀ f, o.about P w a.eval = some f → F.fn f)
    (hx : (execOp a.eval o).run P w = .ok (.value v) w') (hk : K (a.put o.dst v) w') : wpOpIn F n P ops Q i K a w := by
  unfold wpOpIn
  simp only [ho]
  rw [if_pos (by unfold Region.wanted; rw [hg])]
  refine ⟨hab, ?_⟩
  rw [Oper.semAt_plain F _ _ hd, hx]
  exact hk
theorem op_skips {o : Oper} {w' : World} (ho : ops[i]? = some o) (hg : o.guard = none) (hd : ∀ c, o.op ≠ .defer c) (hab : ∀ f, o.about P w a.eval = some f → F.fn f)
    (hx : (execOp a.eval o).run P w = .ok .skip w') (hk : K (a.put o.dst undef) w') : wpOpIn F n P ops Q i K a w := by
  unfold wpOpIn
  simp only [ho]
  rw [if_pos (by unfold Region.wanted; rw [hg])]
  refine ⟨hab, ?_⟩
  rw [Oper.semAt_plain F _ _ hd, hx]
  exact hk
end
section
variable {a : Act} {w : World}
theorem ex_load_u {d : Option Tmp} {x : Operand} {t : Nat} {pos : String} {af : Array Edge} {g : Option (Tmp × Bool)} {ad : Addr} {v : Int} (hx : a.eval x = .pointer (some ad)) (hc : w.cell? ad = some (.int .u64 v)) :
    (execOp a.eval { dst := d, op := .load 271 x, type := t, pos := pos, after := af, guard := g }).run Tryz.prog w = .ok (.value (.int .u64 v)) w := by
  unfold execOp
  simp only [hx]
  go_simp
theorem ex_load_s {d : Option Tmp} {x : Operand} {t : Nat} {pos : String} {af : Array Edge} {g : Option (Tmp × Bool)} {ad : Addr} {v : Value} (hx : a.eval x = .pointer (some ad)) (hc : w.cell? ad = some v) :
    (execOp a.eval { dst := d, op := .load 190 x, type := t, pos := pos, after := af, guard := g }).run Tryz.prog w = .ok (.value v) w := by
  unfold execOp
  simp only [hx]
  go_simp
theorem ex_move {d : Option Tmp} {x : Operand} {t : Nat} {pos : String} {af : Array Edge} {g : Option (Tmp × Bool)} {v : Value} (hx : a.eval x = v) :
    (execOp a.eval { dst := d, op := .move x, type := t, pos := pos, after := af, guard := g }).run Tryz.prog w = .ok (.value v) w := by
  unfold execOp
  simp only [hx]
  rfl
theorem ex_index {d : Option Tmp} {x y : Operand} {t : Nat} {pos : String} {af : Array Edge} {g : Option (Tmp × Bool)} {b o n c : Nat} {j : Nat} (hx : a.eval x = .slice (some ⟨b, o, none⟩) n c) (hy : a.eval y = .int .i64 j) (hj : j < n) :
    (execOp a.eval { dst := d, op := .indexAddr 190 x y, type := t, pos := pos, after := af, guard := g }).run Tryz.prog w = .ok (.value (.pointer (some ⟨b, o + j, none⟩))) w := by
  unfold execOp
  simp only [hx, hy]
  go_simp
theorem ex_quo {d : Option Tmp} {x y : Operand} {t : Nat} {pos : String} {af : Array Edge} {g : Option (Tmp × Bool)} {p q : Int} (hx : a.eval x = .int .u64 p) (hy : a.eval y = .int .u64 q) (hp : 0 ≤ p) (hp' : p < 18446744073709551616) (hq : 0 < q) (hq' : q < 18446744073709551616) :
    (execOp a.eval { dst := d, op := .binOp .quo 271 x y 271, type := t, pos := pos, after := af, guard := g }).run Tryz.prog w = .ok (.value (.int .u64 (p / q))) w := by
  unfold execOp
  simp only [hx, hy]
  have hz : q ≠ 0 := by omega
  go_simp
  rw [Int.tdiv_eq_ediv_of_nonneg hp]
  have h1 := Int.ediv_nonneg hp (Int.le_of_lt hq)
  have h2 : p / q ≤ p := Int.ediv_le_self q hp
  rw [IntKind.wrap_u64]
  exact Int.emod_eq_of_lt h1 (by omega)
theorem ex_rem {d : Option Tmp} {x y : Operand} {t : Nat} {pos : String} {af : Array Edge} {g : Option (Tmp × Bool)} {p q : Int} (hx : a.eval x = .int .u64 p) (hy : a.eval y = .int .u64 q) (hp : 0 ≤ p) (hp' : p < 18446744073709551616) (hq : 0 < q) (hq' : q < 18446744073709551616) :
    (execOp a.eval { dst := d, op := .binOp .rem 271 x y 271, type := t, pos := pos, after := af, guard := g }).run Tryz.prog w = .ok (.value (.int .u64 (p % q))) w := by
  unfold execOp
  simp only [hx, hy]
  have hz : q ≠ 0 := by omega
  go_simp
  exact Int.tmod_eq_emod_of_nonneg hp
theorem ex_store {d : Option Tmp} {x y : Operand} {t : Nat} {pos : String} {af : Array Edge} {g : Option (Tmp × Bool)} {ad : Addr} {v : Int} {u : Value} (hx : a.eval x = .pointer (some ad)) (hy : a.eval y = .int .u64 v) (hc : w.cell? ad = some u) (hf : w.frozen? ad = false) :
    (execOp a.eval { dst := d, op := .store 271 x y, type := t, pos := pos, after := af, guard := g }).run Tryz.prog w = .ok .skip (w.setCell ad (.int .u64 v)) := by
  unfold execOp
  simp only [hx, hy]
  go_simp
end
structure RegI (S : Nat) (fix vals : List (Nat × Value)) (W : World) (p q : Addr) (u v : Value) (L : Array Bool) (a : Act) (w : World) : Prop where
  size : L.size = 15
  tm : a.tmps.size = S
  fx : ∀ x ∈ fix, a.tmps[x.1]? = some x.2
  vl : ∀ (j : Nat) (x : Nat × Value), vals[j]? = some x → L.getD j false = true → a.tmps[x.1]? = some x.2
  late : L.getD 14 false = true → ∀ j, j < 14 → L.getD j false = true
  wo : w = if L.getD 14 false then (W.setCell p u).setCell q v else if L.getD 13 false then W.setCell p u else W
theorem eval_of {a : Act} {k : Nat} {v : Value} (h : a.tmps[k]? = some v) : a.eval (.tmp k) = v := by
  show a.tmps.getD k undef = v
  rw [Array.getD_eq_getD_getElem?, h]
  rfl
theorem getD_set {L : Array Bool} {i j : Nat} (hj : (L.setIfInBounds i true).getD j false = true) (hne : j ≠ i) : L.getD j false = true := by
  rw [Array.getD_eq_getD_getElem?, Array.getElem?_setIfInBounds] at hj
  rw [if_neg (fun e => hne e.symm)] at hj
  rw [Array.getD_eq_getD_getElem?]
  exact hj
theorem getD_set_ne {L : Array Bool} {i j : Nat} (hne : j ≠ i) : (L.setIfInBounds i true).getD j false = L.getD j false := by
  rw [Array.getD_eq_getD_getElem?, Array.getD_eq_getD_getElem?, Array.getElem?_setIfInBounds, if_neg (fun e => hne e.symm)]
theorem getD_set_eq {L : Array Bool} {i : Nat} (h : i < L.size) : (L.setIfInBounds i true).getD i false = true := by
  rw [Array.getD_eq_getD_getElem?, Array.getElem?_setIfInBounds, if_pos rfl, if_pos h]
  rfl
theorem getD_tf {L : Array Bool} {i : Nat} (h : L.getD i true = false) : L.getD i false = false := by
  rw [Array.getD_eq_getD_getElem?] at h ⊢
  rcases hx : L[i]? with _ | b
  · rw [hx] at h; cases h
  · rw [hx] at h; exact h
section
variable {S : Nat} {fix vals : List (Nat × Value)} {W : World} {p q : Addr} {u v : Value} {L : Array Bool} {a : Act} {w : World}
theorem RegI.put (h : RegI S fix vals W p q u v L a w) {i : Nat} {d : Nat} {x : Value} (hi : vals[i]? = some (d, x)) (hn : L.getD i true = false) (hS : d < S) (h13 : i < 13)
    (hf : fix.all (fun y => y.1 != d) = true) (hv : (vals.eraseIdx i).all (fun y => y.1 != d) = true) : RegI S fix vals W p q u v (L.setIfInBounds i true) (a.put (some d) x) w := by
  have h14 : L.getD 14 false = false := by
    rcases h1 : L.getD 14 false with _ | _
    · rfl
    · have := h.late h1 i (by omega)
      rw [getD_tf hn] at this
      cases this
  refine ⟨by simp [h.size], by show (a.tmps.setIfInBounds d x).size = S; simp [h.tm], fun y hy => ?_, fun j y hj hl => ?_, fun h1 => ?_, ?_⟩
  · have h1 := List.all_eq_true.1 hf y hy
    show (a.tmps.setIfInBounds d x)[y.1]? = _
    rw [Array.getElem?_setIfInBounds, if_neg (fun e => by rw [e] at h1; simp at h1)]
    exact h.fx y hy
  · show (a.tmps.setIfInBounds d x)[y.1]? = _
    by_cases hji : j = i
    · subst hji
      rw [hi] at hj
      cases hj
      rw [Array.getElem?_setIfInBounds, if_pos rfl, if_pos (by rw [h.tm]; exact hS)]
    · have h1 : y.1 ≠ d := by
        have h2 : y ∈ vals.eraseIdx i := by
          rw [List.mem_eraseIdx_iff_getElem?]
          exact ⟨j, hji, hj⟩
        have h3 := List.all_eq_true.1 hv y h2
        simpa using h3
      rw [Array.getElem?_setIfInBounds, if_neg (fun e => h1 e.symm)]
      exact h.vl j y hj (getD_set hl hji)
  · rw [getD_set_ne (by omega)] at h1
    rw [h14] at h1
    cases h1
  · rw [getD_set_ne (by omega), getD_set_ne (by omega)]
    exact h.wo
theorem RegI.first (h : RegI S fix vals W p q u v L a w) (hn : L.getD 13 true = false) (hv : vals.length = 13) : w = W ∧ RegI S fix vals W p q u v (L.setIfInBounds 13 true) a (W.setCell p u) := by
  have h13 := getD_tf hn
  have h14 : L.getD 14 false = false := by
    rcases h1 : L.getD 14 false with _ | _
    · rfl
    · have := h.late h1 13 (by omega)
      rw [h13] at this
      cases this
  refine ⟨by rw [h.wo, h14, h13]; rfl, by simp [h.size], h.tm, h.fx, fun j y hj hl => ?_, fun h1 => ?_, ?_⟩
  · have : j < vals.length := (List.getElem?_eq_some_iff.1 hj).1
    exact h.vl j y hj (getD_set hl (by omega))
  · rw [getD_set_ne (by omega), h14] at h1
    cases h1
  · rw [getD_set_ne (by omega : 14 ≠ 13), h14, getD_set_eq (i := 13) (by rw [h.size]; omega)]
    rfl
theorem RegI.second (h : RegI S fix vals W p q u v L a w) (hn : L.getD 14 true = false) (hv : vals.length = 13) (hall : ∀ j, j < 14 → L.getD j false = true) : w = W.setCell p u ∧ RegI S fix vals W p q u v (L.setIfInBounds 14 true) a ((W.setCell p u).setCell q v) := by
  have h14 := getD_tf hn
  refine ⟨by rw [h.wo, h14, hall 13 (by omega)]; rfl, by simp [h.size], h.tm, h.fx, fun j y hj hl => ?_, fun _ j hj => ?_, ?_⟩
  · have : j < vals.length := (List.getElem?_eq_some_iff.1 hj).1
    exact h.vl j y hj (getD_set hl (by omega))
  · rw [getD_set_ne (by omega)]
    exact hall j hj
  · rw [getD_set_eq (i := 14) (by rw [h.size]; omega)]
    rfl
theorem RegI.last (h : RegI S fix vals W p q u v L a w) (h14 : L.getD 14 true = true) : w = (W.setCell p u).setCell q v := by
  have : L.getD 14 false = true := by
    rw [Array.getD_eq_getD_getElem?, Array.getElem?_eq_getElem (by rw [h.size]; omega)] at h14 ⊢
    exact h14
  rw [h.wo, this]
  rfl
theorem RegI.w3 (h : RegI S fix vals W p q u v L a w) {i : Nat} (hn : L.getD i true = false) (hi : i < 14) : w = W ∨ w = W.setCell p u := by
  have h14 : L.getD 14 false = false := by
    rcases h1 : L.getD 14 false with _ | _
    · rfl
    · have := h.late h1 i hi
      rw [getD_tf hn] at this
      cases this
  rw [h.wo, h14]
  rcases L.getD 13 false with _ | _
  · exact Or.inl rfl
  · exact Or.inr rfl
end
structure Slo (N S : Nat) (df : List Deferred) (fix : List (Nat × Value)) (ds : List (Option Nat)) (val : Nat → Value) (L : Array Bool) (a : Act) : Prop where
  size : L.size = N
  tm : a.tmps.size = S
  df : a.defers = df
  fx : ∀ x ∈ fix, a.tmps[x.1]? = some x.2
  vl : ∀ (j d : Nat), ds[j]? = some (some d) → L.getD j false = true → a.tmps[d]? = some (val j)
def InvF (N S : Nat) (df : List Deferred) (fix : List (Nat × Value)) (ds : List (Option Nat)) (Fact : Nat → Value → World → Prop) (Wd : Array Bool → World → Prop) (L : Array Bool) (a : Act) (w : World) : Prop :=
  ∃ val, Slo N S df fix ds val L a ∧ (∀ j, L.getD j false = true → Fact j (val j) w) ∧ Wd L w
section
variable {N S : Nat} {df : List Deferred} {fix : List (Nat × Value)} {ds : List (Option Nat)} {Fact : Nat → Value → World → Prop} {Wd : Array Bool → World → Prop} {L : Array Bool} {a : Act} {w w' : World}
theorem InvF.put (h : InvF N S df fix ds Fact Wd L a w) {i d : Nat} {x : Value} (hi : ds[i]? = some (some d)) (hn : L.getD i true = false) (hS : d < S)
    (hf : fix.all (fun y => y.1 != d) = true) (hv : (ds.eraseIdx i).all (fun y => y != some d) = true) (hx : Fact i x w') (hm : ∀ j v, j ≠ i → L.getD j false = true → Fact j v w → Fact j v w') (hw : Wd (L.setIfInBounds i true) w') :
    InvF N S df fix ds Fact Wd (L.setIfInBounds i true) (a.put (some d) x) w' := by
  obtain ⟨val, hs, hF, _⟩ := h
  refine ⟨fun j => if j = i then x else val j, ⟨by simp [hs.size], by show (a.tmps.setIfInBounds d x).size = S; simp [hs.tm], hs.df, fun y hy => ?_, fun j e hj hl => ?_⟩, fun j hj => ?_, hw⟩
  · have h1 := List.all_eq_true.1 hf y hy
    show (a.tmps.setIfInBounds d x)[y.1]? = _
    rw [Array.getElem?_setIfInBounds, if_neg (fun e => by rw [e] at h1; simp at h1)]
    exact hs.fx y hy
  · show (a.tmps.setIfInBounds d x)[e]? = _
    by_cases hji : j = i
    · subst hji
      rw [hi] at hj
      cases hj
      rw [Array.getElem?_setIfInBounds, if_pos rfl, if_pos (by rw [hs.tm]; exact hS), if_pos rfl]
    · have h1 : e ≠ d := by
        have h2 : some e ∈ ds.eraseIdx i := by
          rw [List.mem_eraseIdx_iff_getElem?]
          exact ⟨j, hji, hj⟩
        have h3 := List.all_eq_true.1 hv _ h2
        simpa using h3
      rw [Array.getElem?_setIfInBounds, if_neg (fun e => h1 e.symm), if_neg hji]
      exact hs.vl j e hj (getD_set hl hji)
  · by_cases hji : j = i
    · subst hji
      show Fact j (if j = j then x else val j) w'
      rw [if_pos rfl]
      exact hx
    · show Fact j (if j = i then x else val j) w'
      rw [if_neg hji]
      exact hm j _ hji (getD_set hj hji) (hF j (getD_set hj hji))
theorem InvF.skip (h : InvF N S df fix ds Fact Wd L a w) {i : Nat} (hi : ds[i]? = some none) (hn : L.getD i true = false) (hx : ∀ v, Fact i v w') (hm : ∀ j v, j ≠ i → L.getD j false = true → Fact j v w → Fact j v w') (hw : Wd (L.setIfInBounds i true) w') :
    InvF N S df fix ds Fact Wd (L.setIfInBounds i true) a w' := by
  obtain ⟨val, hs, hF, _⟩ := h
  refine ⟨val, ⟨by simp [hs.size], hs.tm, hs.df, hs.fx, fun j e hj hl => ?_⟩, fun j hj => ?_, hw⟩
  · by_cases hji : j = i
    · subst hji
      rw [hi] at hj
      cases hj
    · exact hs.vl j e hj (getD_set hl hji)
  · by_cases hji : j = i
    · subst hji
      exact hx _
    · exact hm j _ hji (getD_set hj hji) (hF j (getD_set hj hji))
theorem InvF.val (h : InvF N S df fix ds Fact Wd L a w) {j d : Nat} (hj : ds[j]? = some (some d)) (hl : L.getD j false = true) : ∃ v, a.eval (.tmp d) = v ∧ Fact j v w := by
  obtain ⟨val, hs, hF, _⟩ := h
  exact ⟨val j, eval_of (hs.vl j d hj hl), hF j hl⟩
theorem InvF.fixd (h : InvF N S df fix ds Fact Wd L a w) {d : Nat} {v : Value} (hx : (d, v) ∈ fix) : a.eval (.tmp d) = v := by
  obtain ⟨val, hs, hF, _⟩ := h
  exact eval_of (hs.fx (d, v) hx)
theorem InvF.wd (h : InvF N S df fix ds Fact Wd L a w) : Wd L w := by
  obtain ⟨val, hs, hF, h⟩ := h
  exact h
end
section
variable {F : Fence} {n : Nat} {P : Program} {ops : Array Oper} {Q : Exit → Act → World → Prop} {i : Nat} {K : Act → World → Prop} {a : Act} {w : World}
theorem op_calls {o : Oper} {f : FuncId} {args : Array Value} (ho : ops[i]? = some o) (hg : o.guard = none) (hd : ∀ c, o.op ≠ .defer c) (hab : ∀ f, o.about P w a.eval = some f → F.fn f)
    (hx : (execOp a.eval o).run P w = .ok (.enter f args) w) (hn : F.depth.isSome = true → 1 ≤ n) (hc : CallsIn F (n - 1) P f args w fun e w' => ∃ v, e = .returned v ∧ K (a.put o.dst v) w') : wpOpIn F n P ops Q i K a w := by
  unfold wpOpIn
  simp only [ho]
  rw [if_pos (by unfold Region.wanted; rw [hg])]
  refine ⟨hab, ?_⟩
  rw [Oper.semAt_plain F _ _ hd, hx]
  refine ⟨hn, ?_⟩
  obtain ⟨h1, h2⟩ := hc
  refine ⟨h1, fun cs hr => ?_⟩
  obtain ⟨e, w', fr, ⟨v, rfl, hK⟩, h4⟩ := h2 cs hr
  exact ⟨_, w', fr, hK, h4⟩
end
section
variable {a : Act} {w : World}
theorem run_callFunc {k : FuncId} {vs : Array Value} (hk : ∃ f : Func, Tryz.prog.funcs[k]? = some f ∧ (f.name == "runtime.NumGoroutine") = false ∧ f.body.isNone = false) : (callFunc k vs).run Tryz.prog w = .ok (.enter k vs) w := by
  obtain ⟨f, hf, hn, hb⟩ := hk
  unfold callFunc
  go_simp
  rw [if_neg (by simpa using hn), if_neg (by intro h; rw [h] at hb; cases hb)]
theorem ex_call1 {d : Option Tmp} {m k t t1 : Nat} {pos : String} {af : Array Edge} {g : Option (Tmp × Bool)} {v : Value} (hx : a.eval (.tmp m) = v) (hk : ∃ f : Func, Tryz.prog.funcs[k]? = some f ∧ (f.name == "runtime.NumGoroutine") = false ∧ f.body.isNone = false) :
    (execOp a.eval { dst := d, op := .call { callee := .value (.func k), args := #[.tmp m], argTypes := #[t1] }, type := t, pos := pos, after := af, guard := g }).run Tryz.prog w = .ok (.enter k #[v]) w := by
  have hx' : a.tmps[m]?.getD undef = v := by rw [← hx]; simp [Act.eval, Frame.eval]
  unfold execOp
  go_simp
  exact run_callFunc hk
theorem ex_assign {d : Option Tmp} {m t : Nat} {pos : String} {af : Array Edge} {g : Option (Tmp × Bool)} {v : Value} (hx : a.eval (.tmp m) = v) :
    (execOp a.eval { dst := d, op := .assign (.tmp m), type := t, pos := pos, after := af, guard := g }).run Tryz.prog w = .ok (.value v) w := by
  unfold execOp
  simp only [hx]
  rfl
theorem ex_slice1 {d : Option Tmp} {m t : Nat} {pos : String} {af : Array Edge} {g : Option (Tmp × Bool)} {z : Int} (hx : a.eval (.tmp m) = .int .u64 z) :
    (execOp a.eval { dst := d, op := .buildSlice 190 1 #[(0, .tmp m)], type := t, pos := pos, after := af, guard := g }).run Tryz.prog w =
      .ok (.value (.slice (some ⟨w.heap.size, 0, none⟩) 1 1)) (w.alloc (.cells #[.int .u64 z] 271)) := by
  have hx' : a.tmps[m]?.getD undef = .int .u64 z := by rw [← hx]; simp [Act.eval, Frame.eval]
  unfold execOp
  go_simp
theorem ex_store_s {d : Option Tmp} {m m' : Nat} {t : Nat} {pos : String} {af : Array Edge} {g : Option (Tmp × Bool)} {ad : Addr} {ao : Option Addr} {n c : Nat} {u : Value} (hx : a.eval (.tmp m) = .pointer (some ad)) (hy : a.eval (.tmp m') = .slice ao n c) (hc : w.cell? ad = some u) (hf : w.frozen? ad = false) :
    (execOp a.eval { dst := d, op := .store 190 (.tmp m) (.tmp m'), type := t, pos := pos, after := af, guard := g }).run Tryz.prog w = .ok .skip (w.setCell ad (.slice ao n c)) := by
  unfold execOp
  simp only [hx, hy]
  go_simp
end
end Go.Proofs.YtjcfejncjdhplaaGreatDoor
