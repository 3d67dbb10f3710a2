/-
  Numbers in pieces, the reference's: parts (klippe/klipperef01).
-/
import Derived.Test.YtjcfejncjdhplaaGreatDoorBigV
import Derived.Test.YtjcfejncjdhplaaGreatDoorWkRight
import Derived.Laws.AppendOwnNone
set_option linter.unusedSectionVars false
set_option linter.unusedVariables false
set_option linter.unusedSimpArgs false
namespace Go.Proofs.YtjcfejncjdhplaaGreatDoor
open Go.RowKit Go Klp
theorem Sls.ownV {w : World} {base e n : Nat} {k : IntKind} {v : Value} {l : List Int} (h : w.ownsRow base e 1 v n (l.map (Value.int k))) : Sls w k v l := by
  have hl : l.length = n := by have := h.1; simpa using this
  rcases h.2 with ⟨h', h0⟩ | ⟨g, cap, cur, h', _⟩
  · have : l = [] := List.eq_nil_of_length_eq_zero (by omega)
    subst h' this
    exact Sls.nil _ _
  · subst h'
    exact Sls.own h
theorem pv_dropD (B : Int) (l : List Int) (i : Nat) : pv B (l.drop i) = l.getD i 0 + B * pv B (l.drop (i + 1)) := by
  by_cases h : i < l.length
  · rw [pv_drop B l i h, getD_at h]
  · rw [getD_no h, List.drop_eq_nil_of_le (by omega), List.drop_eq_nil_of_le (by omega)]; simp [pv]
theorem carry_step {B : Int} {l lo : List Int} {i : Nat} {ov y X : Int} (hlo : lo.length = i) (h : pv B lo + B ^ i * (ov + pv B (l.drop i)) = X) (hy : y = ov + l.getD i 0) :
    pv B (lo ++ [y % B]) + B ^ (i + 1) * (y / B + pv B (l.drop (i + 1))) = X := by
  rw [pv_snoc, hlo, ← h, pv_dropD B l i, Int.pow_succ]
  have := Int.emod_add_mul_ediv y B
  grind
theorem carry_neg {y : Int} (h : y < 0) (h1 : y.tmod 10000 < 0) : y.tmod 10000 + 10000 = y % 10000 ∧ (y - (y.tmod 10000 + 10000)).tdiv 10000 = y / 10000 := by
  have e : y.tmod 10000 + 10000 = y % 10000 := by
    have := Int.tmod_eq_emod (a := y) (b := 10000)
    split at this <;> omega
  refine ⟨e, ?_⟩
  rw [e]
  have h2 := Int.emod_add_mul_ediv y 10000
  have h3 : y - y % 10000 = 10000 * (y / 10000) := by omega
  rw [h3]
  exact Int.mul_tdiv_cancel_left _ (by omega)
theorem carry_neg0 {y : Int} (h : y < 0) (h1 : y.tmod 10000 = 0) : y % 10000 = 0 ∧ y.tdiv 10000 = y / 10000 := by
  have e : y % 10000 = 0 := by
    have := Int.tmod_eq_emod (a := y) (b := 10000)
    split at this <;> omega
  refine ⟨e, ?_⟩
  have h2 := Int.emod_add_mul_ediv y 10000
  have h3 : y = 10000 * (y / 10000) := by omega
  conv => lhs; rw [h3]
  exact Int.mul_tdiv_cancel_left _ (by omega)
theorem tmod_bd2 (y : Int) (h : y < 0) : -10000 < y.tmod 10000 ∧ y.tmod 10000 ≤ 0 := by
  have := Int.tmod_eq_emod (a := y) (b := 10000)
  split at this <;> omega
def carM (n i : Nat) (ov : Int) : Nat := if i < n then 20000000000000 + (n - i) else ov.toNat
theorem carM_lt {n i : Nat} {ov q : Int} (h1 : q.toNat < 20000000000000) (h2 : n ≤ i → q.toNat < ov.toNat) : carM n ((i : Int) + 1).toNat q < carM n (i : Int).toNat ov := by
  rw [show ((i : Int) + 1).toNat = i + 1 from by omega, Int.toNat_natCast]
  unfold carM
  by_cases ha : i < n
  · rw [if_pos ha]
    by_cases hb : i + 1 < n
    · rw [if_pos hb]; omega
    · rw [if_neg hb]; omega
  · rw [if_neg ha, if_neg (by omega)]
    exact h2 (by omega)
def CarR (w : World) (l : List Int) (out : Value) (i : Nat) (ov : Int) (wr : World) : Prop :=
  ∃ lo, wr.ownsRow w.heap.size 3 1 out i (lo.map (Value.int .i64)) ∧ lo.length = i ∧ Dg 10000 lo ∧ pv 10000 lo + 10000 ^ i * (ov + pv 10000 (l.drop i)) = pv 10000 l ∧ Below w.heap.size w wr
theorem CarR.next {w wr w1 : World} {l lo : List Int} {out v' : Value} {i : Nat} {ov y n q : Int} {ob : Obj} (hown : wr.ownsRow w.heap.size 3 1 out i (lo.map (Value.int .i64))) (hlo : lo.length = i) (hdo : Dg 10000 lo) (hv : pv 10000 lo + 10000 ^ i * (ov + pv 10000 (l.drop i)) = pv 10000 l) (hb : Below w.heap.size w wr)
    (hy : y = ov + l.getD i 0) (hn : n = y % 10000) (hq : q = y / 10000) (hown1 : w1.ownsRow w.heap.size 3 1 v' (i + 1) (lo.map (Value.int .i64) ++ [Value.int .i64 n])) (hg : (wr.alloc ob).grownBy w1 out.ownBlock) : CarR w l v' (i + 1) q w1 := by
  subst hn hq
  have hm0 := Int.emod_nonneg y (show (10000 : Int) ≠ 0 by omega)
  have hm1 := Int.emod_lt_of_pos y (show (0 : Int) < 10000 by omega)
  refine ⟨lo ++ [y % 10000], by rw [List.map_append]; exact hown1, by simp [hlo], hdo.snoc hm0 hm1, carry_step hlo hv hy, ?_⟩
  exact (hb.alloc hb.size _).grown hg (by have := hb.size; simp; omega) (fun k e => (hown.lt k e).1)
set_option maxRecDepth 100000 in
set_option maxHeartbeats 2000000 in
theorem carry_walk (l : List Int) (v : Value) (w : World) (hl : l.length ≤ 10000) (hb : ∀ x ∈ l, -1000000000000 ≤ x ∧ x ≤ 1000000000000) (hp : 0 ≤ pv 10000 l) (h : Sls w .i64 v l) :
    Calls Tryz.prog 240 #[v] w fun e w' => ∃ v', e = .returned v' ∧ Pcs w' .i64 10000 v' (pv 10000 l) ∧ Kp w w' := by
  obtain ⟨ao, cap, rfl, hcap⟩ := h.val
  obtain ⟨i0, hi, hz0, hz1, hz2⟩ := info_parts infoI
  have HS := Lib.hid h; clear h
  have HB := Lib.hid hb; clear hb
  have HP := Lib.hid hp; clear hp
  go_enter Tryz.func240, Tryz.ntmps240
  go_wp2_with fail
  go_loopw [3, 4, 5] (fun out so si wr => ∃ (i : Nat) (ov : Int), si = .int .i64 i ∧ so = .int .i64 ov ∧ CarR w l out i ov wr ∧ (i ≤ l.length ∧ -1000000010000 ≤ ov ∧ ov ≤ 1000000010000 ∨ l.length < i ∧ 0 ≤ ov ∧ ov + i ≤ 10000000000000))
    (fun _ so si _ => carM l.length (intOf si).toNat (intOf so))
  case atStart => exact ⟨0, 0, rfl, rfl, ⟨[], World.ownsRow_nil _ _ _ _, rfl, Dg.nil _, by simp [pv], Below.refl _ _⟩, by omega⟩
  case round =>
    obtain ⟨i, ov, rfl, rfl, ⟨lo, hown, hlo, hdo, hv, hbel⟩, hbd⟩ := hrel
    have HO := Lib.hid hown; clear hown
    have HV := Lib.hid hv; clear hv
    have HD := Lib.hid hdo; clear hdo
    have HK := Lib.hid hbel; clear hbel
    by_cases hlt : i < l.length
    · obtain ⟨b, o, rfl⟩ := HS.out.addr (by omega)
      have ga := HS.out.cells HK.out hlt
      have hli := HB.out _ (List.getElem_mem hlt)
      have hdiv := Int.emod_add_mul_ediv (ov + l[i]) 10000
      have hm0 := Int.emod_nonneg (ov + l[i]) (show (10000 : Int) ≠ 0 by omega)
      have hm1 := Int.emod_lt_of_pos (ov + l[i]) (show (0 : Int) < 10000 by omega)
      by_cases hpos : 0 ≤ ov + l[i]
      · go_wp2_with (at_builtin; refine wpList_append_own _ rfl _ _ 60 rfl w.heap.size 3 i0 (.int .i64 0) 1 8 Tryz.underlying60 hi hz0 hz1 hz2 rfl (by decide) _ _ _ rfl (HO.out.alloc _) ⟨wr.heap.size, 0, none⟩ 1 1 [.int .i64 ((ov + l[i]) % 10000)] rfl rfl (by intro t u h; match t, h with | 0, h => simp at h; subst h; simp [Addr.add]) (by intro u hu; simp at hu; subst hu; rfl) (by unfold maxLen; omega) (by omega) (by have := HK.out.size; simp; omega) ?_; intro v' w1 hown1 hgrow1 _)
        go_roundw
        case rel => exact ⟨i + 1, (ov + l[i] - (ov + l[i]) % 10000) / 10000, by go_num, rfl, CarR.next (n := (ov + l[i]) % 10000) (q := (ov + l[i] - (ov + l[i]) % 10000) / 10000) (y := ov + l[i]) HO.out hlo HD.out HV.out HK.out (by rw [getD_at hlt]) rfl (by omega) hown1 hgrow1, by omega⟩
        case measure =>
          simp only [intOf]
          refine carM_lt ?_ ?_
          · omega
          · omega
      · have hb2 := tmod_bd2 (ov + l[i]) (by omega)
        by_cases htm : (ov + l[i]).tmod 10000 < 0
        · obtain ⟨e1, e2⟩ := carry_neg (y := ov + l[i]) (by omega) htm
          have E1 := Lib.hid e1
          have E2 := Lib.hid e2
          clear e1 e2 hdiv hm0 hm1
          go_wp2_with (at_builtin; refine wpList_append_own _ rfl _ _ 60 rfl w.heap.size 3 i0 (.int .i64 0) 1 8 Tryz.underlying60 hi hz0 hz1 hz2 rfl (by decide) _ _ _ rfl (HO.out.alloc _) ⟨wr.heap.size, 0, none⟩ 1 1 [.int .i64 ((ov + l[i]).tmod 10000 + 10000)] rfl rfl (by intro t u h; match t, h with | 0, h => simp at h; subst h; simp [Addr.add]) (by intro u hu; simp at hu; subst hu; rfl) (by unfold maxLen; omega) (by omega) (by have := HK.out.size; simp; omega) ?_; intro v' w1 hown1 hgrow1 _)
          go_roundw
          case rel =>
            have e1 := E1.out
            have e2 := E2.out
            refine ⟨i + 1, _, by go_num, rfl, CarR.next (y := ov + l[i]) HO.out hlo HD.out HV.out HK.out (by rw [getD_at hlt]) e1 e2 hown1 hgrow1, ?_⟩
            rw [e2]
            omega
          case measure =>
            have e2 := E2.out
            simp only [intOf]
            refine carM_lt ?_ ?_
            · rw [e2]; omega
            · omega
        · obtain ⟨e1, e2⟩ := carry_neg0 (y := ov + l[i]) (by omega) (by omega)
          have E1 := Lib.hid e1
          have E2 := Lib.hid e2
          have htz : (ov + l[i]).tmod 10000 = 0 := by omega
          clear e1 e2 hdiv hm0 hm1
          go_wp2_with (at_builtin; refine wpList_append_own _ rfl _ _ 60 rfl w.heap.size 3 i0 (.int .i64 0) 1 8 Tryz.underlying60 hi hz0 hz1 hz2 rfl (by decide) _ _ _ rfl (HO.out.alloc _) ⟨wr.heap.size, 0, none⟩ 1 1 [.int .i64 0] rfl rfl (by intro t u h; match t, h with | 0, h => simp at h; subst h; simp [Addr.add]) (by intro u hu; simp at hu; subst hu; rfl) (by unfold maxLen; omega) (by omega) (by have := HK.out.size; simp; omega) ?_; intro v' w1 hown1 hgrow1 _)
          go_roundw
          case rel =>
            have e1 := E1.out
            have e2 := E2.out
            refine ⟨i + 1, _, by go_num, rfl, CarR.next (n := 0) (y := ov + l[i]) HO.out hlo HD.out HV.out HK.out (by rw [getD_at hlt]) e1.symm ?_ hown1 hgrow1, ?_⟩
            · rw [← e2]
            · rw [e2]; omega
          case measure =>
            have e2 := E2.out
            simp only [intOf]
            refine carM_lt ?_ ?_
            · rw [e2]; omega
            · omega
    · have hge : l.length ≤ i := by omega
      by_cases hz : ov = 0
      · subst hz
        have hv := HV.out
        rw [List.drop_eq_nil_of_le hge] at hv
        have hv2 : pv 10000 lo = pv 10000 l := by simpa [pv] using hv
        have HV2 := Lib.hid hv2
        clear hv hv2
        go_wp2_with fail
        refine (cut_walk lo _ _ (by omega) HD.out (Sls.ownV HO.out)).mono ?_
        rintro e w2 ⟨v', rfl, hp, _, hk⟩
        rw [HV2.out] at hp
        have HP2 := Lib.hid hp; clear hp
        have HK2 := Lib.hid ((show Kp w wr from HK.out).then hk); clear hk
        go_wp2_with fail
        go_ret
        exact ⟨_, rfl, HP2.out, HK2.out⟩
      · have hov : 0 ≤ ov := by
          rcases Int.lt_or_le ov 0 with h | h
          · exfalso
            have hv := HV.out
            rw [List.drop_eq_nil_of_le hge] at hv
            have h1 := pv_lt (B := 10000) (by omega) HD.out
            have h2 := ipow_pos (B := 10000) (by omega) i
            have h3 : 10000 ^ i * (ov + pv 10000 []) ≤ 10000 ^ i * (-1) := Int.mul_le_mul_of_nonneg_left (by show ov + 0 ≤ -1; omega) (by omega)
            have h4 := HP.out
            rw [hlo] at h1
            omega
          · exact h
        have hm0 := Int.emod_nonneg ov (show (10000 : Int) ≠ 0 by omega)
        have hm1 := Int.emod_lt_of_pos ov (show (0 : Int) < 10000 by omega)
        have hdiv := Int.emod_add_mul_ediv ov 10000
        go_wp2_with (at_builtin; refine wpList_append_own _ rfl _ _ 60 rfl w.heap.size 3 i0 (.int .i64 0) 1 8 Tryz.underlying60 hi hz0 hz1 hz2 rfl (by decide) _ _ _ rfl (HO.out.alloc _) ⟨wr.heap.size, 0, none⟩ 1 1 [.int .i64 (ov % 10000)] rfl rfl (by intro t u h; match t, h with | 0, h => simp at h; subst h; simp [Addr.add]) (by intro u hu; simp at hu; subst hu; rfl) (by unfold maxLen; omega) (by omega) (by have := HK.out.size; simp; omega) ?_; intro v' w1 hown1 hgrow1 _)
        go_roundw
        case rel => exact ⟨i + 1, (ov - ov % 10000) / 10000, by go_num, rfl, CarR.next (n := ov % 10000) (q := (ov - ov % 10000) / 10000) (y := ov) HO.out hlo HD.out HV.out HK.out (by rw [getD_no (by omega), Int.add_zero]) rfl (by omega) hown1 hgrow1, by omega⟩
        case measure =>
          simp only [intOf]
          refine carM_lt ?_ ?_
          · omega
          · omega
end Go.Proofs.YtjcfejncjdhplaaGreatDoor
namespace Go.Proofs.YtjcfejncjdhplaaGreatDoor
open Go.RowKit Go Klp
structure JoI (w0 : World) (lp lq : List Int) (k : Int) (i : Nat) (out : Value) (wr : World) : Prop where
  below : Below w0.heap.size w0 wr
  ex : ∃ o : List Int, wr.ownsRow w0.heap.size 3 1 out o.length (o.map (Value.int .i64)) ∧ o.length ≤ 5001 + i ∧ i ≤ o.length ∧ pv 10000 o = pv 10000 lp + k * pv 10000 (lq.take i) ∧ (∀ x ∈ o.take i, -100000000 ≤ x ∧ x ≤ 100010000) ∧ Dg 10000 (o.drop i)
theorem JoI.drew {w0 w1 : World} {lp lq : List Int} {k : Int} {i : Nat} {out : Value} (h : JoI w0 lp lq k i out w1) : JoI w0 lp lq k i out w1.drew := ⟨h.below.drew, h.ex⟩
theorem JoI.start {w0 w1 : World} {lp lq : List Int} {k : Int} {out : Value} (hl : lp.length ≤ 5000) (hp : Dg 10000 lp) (h : w1.ownsRow w0.heap.size 3 1 out lp.length (lp.map (Value.int .i64))) (hb : Below w0.heap.size w0 w1) : JoI w0 lp lq k 0 out w1 :=
  ⟨hb, lp, h, by omega, by omega, by simp [pv], by simp, by rw [List.drop_zero]; exact hp⟩
theorem own_val {w : World} {base e n : Nat} {v : Value} {xs : List Value} (h : w.ownsRow base e 1 v n xs) : ∃ ao cap, v = .slice ao n cap := by
  rcases h.2 with ⟨h', h0⟩ | ⟨g, cap, cur, h', _⟩
  · exact ⟨none, 0, by rw [h', h0]⟩
  · exact ⟨_, cap, h'⟩
theorem own_pos {w : World} {base e n : Nat} {v : Value} {xs : List Value} (h : w.ownsRow base e 1 v n xs) (hn : 0 < n) : ∃ g cap, v = .slice (some ⟨g, 0, none⟩) n cap := by
  rcases h.2 with ⟨h', h0⟩ | ⟨g, cap, cur, h', _⟩
  · omega
  · exact ⟨g, cap, h'⟩
theorem mul_small {k x : Int} (hk : -10000 ≤ k ∧ k ≤ 10000) (hx : 0 ≤ x ∧ x < 10000) : -100000000 ≤ k * x ∧ k * x ≤ 100000000 := by
  have h1 : k * x ≤ 10000 * x := Int.mul_le_mul_of_nonneg_right hk.2 hx.1
  have h2 : -10000 * x ≤ k * x := Int.mul_le_mul_of_nonneg_right hk.1 hx.1
  omega
theorem JoI.longer {w0 wr w1 : World} {lp lq o : List Int} {k : Int} {i : Nat} {out v' : Value} {ob : Obj} (hown : wr.ownsRow w0.heap.size 3 1 out o.length (o.map (Value.int .i64))) (hol : o.length = i) (hv : pv 10000 o = pv 10000 lp + k * pv 10000 (lq.take i)) (hb : ∀ x ∈ o.take i, -100000000 ≤ x ∧ x ≤ 100010000) (hbel : Below w0.heap.size w0 wr)
    (hown1 : w1.ownsRow w0.heap.size 3 1 v' (o.length + 1) (o.map (Value.int .i64) ++ [Value.int .i64 0])) (hg : (wr.alloc ob).grownBy w1 out.ownBlock) : JoI w0 lp lq k i v' w1 := by
  refine ⟨(hbel.alloc hbel.size _).grown hg (by have := hbel.size; simp; omega) (fun k e => (hown.lt k e).1), o ++ [0], by simpa using hown1, by simp; omega, by simp; omega, by rw [pv_snoc, hv]; simp, ?_, ?_⟩
  · rw [List.take_append_of_le_length (by omega)]; exact hb
  · rw [List.drop_append_of_le_length (by omega), List.drop_eq_nil_of_le (by omega)]
    exact Dg.cons (by omega) (by omega) (Dg.nil _)
theorem JoI.next {w0 wr : World} {lp lq o : List Int} {k : Int} {i g cap : Nat} (hown : wr.ownsRow w0.heap.size 3 1 (.slice (some ⟨g, 0, none⟩) o.length cap) o.length (o.map (Value.int .i64))) (hol : o.length ≤ 5001 + i) (hio : i < o.length) (hiq : i < lq.length) (hv : pv 10000 o = pv 10000 lp + k * pv 10000 (lq.take i)) (hb : ∀ x ∈ o.take i, -100000000 ≤ x ∧ x ≤ 100010000) (hd : Dg 10000 (o.drop i)) (hbel : Below w0.heap.size w0 wr)
    (hk : -10000 ≤ k ∧ k ≤ 10000) (hq : 0 ≤ lq[i] ∧ lq[i] < 10000) : JoI w0 lp lq k (i + 1) (.slice (some ⟨g, 0, none⟩) o.length cap) (wr.setCell ⟨g, i, none⟩ (.int .i64 (o[i] + k * lq[i]))) := by
  have hgb := (hown.lt g rfl).1
  have h2 := (hown.stored i (.int .i64 (o[i] + k * lq[i]))).1
  have h3 := mul_small hk hq
  have h4 : 0 ≤ o[i] ∧ o[i] < 10000 := hd _ (by rw [List.drop_eq_getElem_cons hio]; exact List.mem_cons_self ..)
  refine ⟨hbel.setCell (p := ⟨g, i, none⟩) hgb _, o.set i (o[i] + k * lq[i]), ?_, by rw [List.length_set]; omega, by rw [List.length_set]; omega, ?_, ?_, ?_⟩
  · rw [List.length_set, List.map_set]; exact h2
  · rw [pv_set 10000 o i _ hio, hv, pv_take_succ 10000 lq i hiq]; grind
  · intro x hx
    rw [take_snoc _ i (by rw [List.length_set]; exact hio), List.take_set_of_le (Nat.le_refl i), List.getElem_set_self] at hx
    rcases List.mem_append.1 hx with hx | hx
    · exact hb x hx
    · rw [List.mem_singleton] at hx; subst hx; omega
  · rw [List.drop_set_of_lt (by omega)]
    have := hd.drop 1
    rw [List.drop_drop] at this
    exact this
set_option maxRecDepth 100000 in
set_option maxHeartbeats 2000000 in
theorem joined_walk (lp lq : List Int) (vp vq : Value) (k : Int) (w : World) (hl : lp.length ≤ 5000) (hl' : lq.length ≤ 4000) (hp : Sls w .i64 vp lp) (hq : Sls w .i64 vq lq) (pp : Dg 10000 lp) (pq : Dg 10000 lq) (hk : -10000 ≤ k ∧ k ≤ 10000) (hn : 0 ≤ pv 10000 lp + k * pv 10000 lq) :
    Calls Tryz.prog 168 #[vp, vq, .int .i64 k, .int .i64 0] w fun e w' => ∃ v', e = .returned v' ∧ Pcs w' .i64 10000 v' (pv 10000 lp + k * pv 10000 lq) ∧ Kp w w' := by
  obtain ⟨ap, cp, rfl, hcp⟩ := hp.val
  obtain ⟨aq, cq, rfl, hcq⟩ := hq.val
  obtain ⟨i0, hi, hz0, hz1, hz2⟩ := info_parts infoI
  have HP := Lib.hid hp; clear hp
  have HQ := Lib.hid hq; clear hq
  have PP := Lib.hid pp; clear pp
  have PQ := Lib.hid pq; clear pq
  have HN := Lib.hid hn; clear hn
  go_enter Tryz.func168, Tryz.ntmps168
  have hown0 : (w.alloc (.cells #[] 3)).ownsRow w.heap.size 3 1 (.slice (some ⟨w.heap.size, 0, none⟩) 0 0) 0 [] := World.ownsRow_made w #[] 0 (Nat.le_refl _) (by unfold maxLen; omega) (by simp)
  have hbel0 : Below w.heap.size w (w.alloc (.cells #[] 3)) := (Below.refl _ w).alloc (Nat.le_refl _) _
  have HP0 : Hid (Sls (w.alloc (.cells #[] 3)) .i64 (.slice ap lp.length cp) lp) := Lib.hid (HP.out.kp hbel0)
  have HO0 := Lib.hid hown0
  have HB0 := Lib.hid hbel0
  clear hown0 hbel0
  by_cases hlp : lp = []
  · subst hlp
    go_wp2_with (at_builtin; refine wpList_append_fits_any _ rfl (.tmp 11) (.tmp 12) 60 rfl w.heap.size 3 i0 1 Tryz.underlying60 hi hz1 w.heap.size 0 0 _ rfl HO0.out _ 0 _ [] rfl (by simp) (by intro h; subst h; exact ⟨rfl, HP0.out.none⟩) (by intro ad h j u hj; simp at hj) (by intro u hu; simp at hu) (by omega) ?_; intro w1 hown1 hgrow1)
    have hJ : JoI w [] lq k 0 (.slice (some ⟨w.heap.size, 0, none⟩) 0 0) w1 := JoI.start (by simp) PP.out (by simpa using hown1) (HB0.out.grown hgrow1 (by simp) (fun k e => by cases e; exact Nat.le_refl _))
    have HJ := Lib.hid hJ
    clear hJ hown1 hgrow1 HO0 HB0 HP0
    go_loopw [9, 10] (fun out si wr => ∃ i : Nat, i ≤ lq.length ∧ si = .int .i64 i ∧ JoI w [] lq k i out wr) (fun _ si _ => lq.length - (intOf si).toNat)
    case atStart => exact ⟨0, Nat.zero_le _, rfl, HJ.out⟩
    case round =>
      obtain ⟨i, hil, rfl, hj⟩ := hrel
      have HJ := Lib.hid hj; clear hj
      by_cases hiq : i < lq.length
      · obtain ⟨bq, oq, rfl⟩ := HQ.out.addr (by omega)
        go_wp2_with fail
        go_loopw [9] (fun out ws => JoI w [] lq k i out ws) (fun out _ => i + 1 - lenV out)
        case atStart => exact HJ.out
        case round =>
          obtain ⟨o, hown, hol, hol2, hv, hb1, hd1⟩ := hrel.ex
          have HK := Lib.hid hrel.below
          obtain ⟨ao, co, rfl⟩ := own_val hown
          have HO := Lib.hid hown
          have HV := Lib.hid hv
          have HB1 := Lib.hid hb1
          have HD1 := Lib.hid hd1
          clear hown hv hb1 hd1 hrel
          by_cases hlen : o.length ≤ i
          · go_wp2_with (at_builtin; refine wpList_append_own _ rfl _ _ 60 rfl w.heap.size 3 i0 (.int .i64 0) 1 8 Tryz.underlying60 hi hz0 hz1 hz2 rfl (by decide) _ _ _ rfl (HO.out.alloc _) ⟨_, 0, none⟩ 1 1 [.int .i64 0] rfl rfl (by intro t u h; match t, h with | 0, h => simp at h; subst h; simp [Addr.add]) (by intro u hu; simp at hu; subst hu; rfl) (by unfold maxLen; omega) (by omega) (by have := HK.out.size; simp; omega) ?_; intro v' w1 hown1 hgrow1 _)
            obtain ⟨a2, c2, rfl⟩ := own_val hown1
            go_roundw
            case rel => exact JoI.longer HO.out (by omega) HV.out HB1.out HK.out hown1 hgrow1
            case measure => simp only [lenV]; omega
          · obtain ⟨g, c3, e3⟩ := own_pos HO.out (by omega)
            cases e3
            have hio : i < o.length := by omega
            have g1 := HO.out.cellAt i (by omega)
            rw [List.getElem?_map, List.getElem?_eq_getElem hio, Option.map_some] at g1
            have g2 := HO.out.frozenAt i
            have g3 := HQ.out.cells HK.out hiq
            have hqi := PQ.out.at hiq
            have hms := mul_small hk hqi
            have hoi : 0 ≤ o[i] ∧ o[i] < 10000 := HD1.out _ (by rw [List.drop_eq_getElem_cons hio]; exact List.mem_cons_self ..)
            go_wp2_with fail
            go_region
            all_goals go_wp2_with fail
            go_roundw
            case rel => exact ⟨i + 1, by omega, by go_num, (JoI.next HO.out (by omega) hio hiq HV.out HB1.out HD1.out HK.out hk hqi).drew⟩
            case measure => simp only [intOf]; omega
      · obtain rfl : i = lq.length := by omega
        obtain ⟨o, hown, hol, hol2, hv, hb1, hd1⟩ := HJ.out.ex
        have HK := Lib.hid HJ.out.below
        have HO := Lib.hid hown
        rw [List.take_length] at hv
        have hbd : ∀ x ∈ o, -1000000000000 ≤ x ∧ x ≤ 1000000000000 := fun x hx => by
          rw [← List.take_append_drop lq.length o] at hx
          rcases List.mem_append.1 hx with h | h
          · have := hb1 x h; omega
          · have := hd1 x h; omega
        have HV := Lib.hid hv
        have HBD := Lib.hid hbd
        clear hown hv hb1 hd1 hbd
        go_wp2_with fail
        refine (carry_walk o _ _ (by omega) HBD.out (by rw [HV.out]; exact HN.out) (Sls.ownV HO.out)).mono ?_
        rintro e w2 ⟨v', rfl, hp, hk2⟩
        rw [HV.out] at hp
        have HP2 := Lib.hid hp; clear hp
        have HK2 := Lib.hid ((show Kp w wr from HK.out).then hk2); clear hk2
        go_wp2_with fail
        go_ret
        exact ⟨_, rfl, HP2.out, HK2.out⟩
  · have hl0 : 0 < lp.length := List.length_pos_iff.2 hlp
    obtain ⟨bp, op, rfl⟩ := HP0.out.addr hl0
    have hcs : ∀ (j : Nat) (u : Value), (lp.map (Value.int .i64))[j]? = some u → (w.alloc (.cells #[] 3)).cell? ((⟨bp, op, none⟩ : Addr).add j) = some u := by
      intro j u hj
      rw [List.getElem?_map] at hj
      obtain ⟨x, hx, rfl⟩ := Option.map_eq_some_iff.1 hj
      obtain ⟨hjl, rfl⟩ := List.getElem?_eq_some_iff.1 hx
      rw [show (⟨bp, op, none⟩ : Addr).add j = ⟨bp, op + j, none⟩ from by simp [Addr.add]]
      exact HP0.out.cells (Kp.refl _) hjl
    have h1c : ∀ u ∈ lp.map (Value.int .i64), u.oneCell' = true := by
      intro u hu
      obtain ⟨x, _, rfl⟩ := List.mem_map.1 hu
      rfl
    have HCS := Lib.hid hcs
    have H1C := Lib.hid h1c
    clear hcs h1c
    go_wp2_with (at_builtin; refine wpList_append_own _ rfl (.tmp 11) (.tmp 12) 60 rfl w.heap.size 3 i0 (.int .i64 0) 1 8 Tryz.underlying60 hi hz0 hz1 hz2 rfl (by decide) _ _ _ rfl HO0.out ⟨bp, op, none⟩ lp.length cp (lp.map (Value.int .i64)) rfl (by simp) HCS.out H1C.out (by unfold maxLen; omega) (by omega) (by simp) ?_; intro v0 w1 hown1 hgrow1 _)
    have hJ : JoI w lp lq k 0 v0 w1 := JoI.start hl PP.out (by simpa using hown1) (HB0.out.grown hgrow1 (by simp) (fun k e => by cases e; exact Nat.le_refl _))
    have HJ := Lib.hid hJ
    clear hJ hown1 hgrow1 HO0 HB0 HP0
    go_loopw [9, 10] (fun out si wr => ∃ i : Nat, i ≤ lq.length ∧ si = .int .i64 i ∧ JoI w lp lq k i out wr) (fun _ si _ => lq.length - (intOf si).toNat)
    case atStart => exact ⟨0, Nat.zero_le _, rfl, HJ.out⟩
    case round =>
      obtain ⟨i, hil, rfl, hj⟩ := hrel
      have HJ := Lib.hid hj; clear hj
      by_cases hiq : i < lq.length
      · obtain ⟨bq, oq, rfl⟩ := HQ.out.addr (by omega)
        go_wp2_with fail
        go_loopw [9] (fun out ws => JoI w lp lq k i out ws) (fun out _ => i + 1 - lenV out)
        case atStart => exact HJ.out
        case round =>
          obtain ⟨o, hown, hol, hol2, hv, hb1, hd1⟩ := hrel.ex
          have HK := Lib.hid hrel.below
          obtain ⟨ao, co, rfl⟩ := own_val hown
          have HO := Lib.hid hown
          have HV := Lib.hid hv
          have HB1 := Lib.hid hb1
          have HD1 := Lib.hid hd1
          clear hown hv hb1 hd1 hrel
          by_cases hlen : o.length ≤ i
          · go_wp2_with (at_builtin; refine wpList_append_own _ rfl _ _ 60 rfl w.heap.size 3 i0 (.int .i64 0) 1 8 Tryz.underlying60 hi hz0 hz1 hz2 rfl (by decide) _ _ _ rfl (HO.out.alloc _) ⟨_, 0, none⟩ 1 1 [.int .i64 0] rfl rfl (by intro t u h; match t, h with | 0, h => simp at h; subst h; simp [Addr.add]) (by intro u hu; simp at hu; subst hu; rfl) (by unfold maxLen; omega) (by omega) (by have := HK.out.size; simp; omega) ?_; intro v' w1 hown1 hgrow1 _)
            obtain ⟨a2, c2, rfl⟩ := own_val hown1
            go_roundw
            case rel => exact JoI.longer HO.out (by omega) HV.out HB1.out HK.out hown1 hgrow1
            case measure => simp only [lenV]; omega
          · obtain ⟨g, c3, e3⟩ := own_pos HO.out (by omega)
            cases e3
            have hio : i < o.length := by omega
            have g1 := HO.out.cellAt i (by omega)
            rw [List.getElem?_map, List.getElem?_eq_getElem hio, Option.map_some] at g1
            have g2 := HO.out.frozenAt i
            have g3 := HQ.out.cells HK.out hiq
            have hqi := PQ.out.at hiq
            have hms := mul_small hk hqi
            have hoi : 0 ≤ o[i] ∧ o[i] < 10000 := HD1.out _ (by rw [List.drop_eq_getElem_cons hio]; exact List.mem_cons_self ..)
            go_wp2_with fail
            go_region
            all_goals go_wp2_with fail
            go_roundw
            case rel => exact ⟨i + 1, by omega, by go_num, (JoI.next HO.out (by omega) hio hiq HV.out HB1.out HD1.out HK.out hk hqi).drew⟩
            case measure => simp only [intOf]; omega
      · obtain rfl : i = lq.length := by omega
        obtain ⟨o, hown, hol, hol2, hv, hb1, hd1⟩ := HJ.out.ex
        have HK := Lib.hid HJ.out.below
        have HO := Lib.hid hown
        rw [List.take_length] at hv
        have hbd : ∀ x ∈ o, -1000000000000 ≤ x ∧ x ≤ 1000000000000 := fun x hx => by
          rw [← List.take_append_drop lq.length o] at hx
          rcases List.mem_append.1 hx with h | h
          · have := hb1 x h; omega
          · have := hd1 x h; omega
        have HV := Lib.hid hv
        have HBD := Lib.hid hbd
        clear hown hv hb1 hd1 hbd
        go_wp2_with fail
        refine (carry_walk o _ _ (by omega) HBD.out (by rw [HV.out]; exact HN.out) (Sls.ownV HO.out)).mono ?_
        rintro e w2 ⟨v', rfl, hp, hk2⟩
        rw [HV.out] at hp
        have HP2 := Lib.hid hp; clear hp
        have HK2 := Lib.hid ((show Kp w wr from HK.out).then hk2); clear hk2
        go_wp2_with fail
        go_ret
        exact ⟨_, rfl, HP2.out, HK2.out⟩
end Go.Proofs.YtjcfejncjdhplaaGreatDoor
namespace Go.Proofs.YtjcfejncjdhplaaGreatDoor
open Go.RowKit Go Klp
def Row4 (w0 w : World) (N : Nat) (o : List Int) : Prop :=
  w.ownsRow w0.heap.size 3 1 (.slice (some ⟨w0.heap.size, 0, none⟩) N N) N (o.map (Value.int .i64)) ∧ o.length = N ∧ Dg 10000 o ∧ Below w0.heap.size w0 w
theorem sls_far {w : World} {k : IntKind} {az : Option Addr} {n c g j : Nat} {l : List Int} {u : Value} (h : Sls w k (.slice az n c) l) (hf : ∀ a, az = some a → g < a.block) : Sls (w.setCell ⟨g, j, none⟩ u) k (.slice az n c) l := by
  obtain ⟨ao, cap, e, hc, hn, hx⟩ := h
  cases e
  refine ⟨az, c, rfl, hc, hn, fun hl => ?_⟩
  obtain ⟨b, o, rfl, hcell⟩ := hx hl
  refine ⟨b, o, rfl, fun i hi => ?_⟩
  rw [← hcell i hi]
  exact World.cell?_of_block (a := ⟨b, o + i, none⟩) (Below.heap_setCell _ _ _ _ (by have := hf _ rfl; simp at this ⊢; omega))
theorem Row4.kp {w0 w w' : World} {N : Nat} {o : List Int} (h : Row4 w0 w N o) (hk : Kp w w') : Row4 w0 w' N o := by
  refine ⟨?_, h.2.1, h.2.2.1, h.2.2.2.trans (hk.mono h.2.2.2.size)⟩
  rcases h.1.2 with ⟨h', h0⟩ | ⟨g, cap, cur, h', hb, hg, hr⟩
  · cases h'
  · exact ⟨h.1.1, .inr ⟨g, cap, cur, h', hb, (hk.block g (Array.getElem?_eq_some_iff.1 hg).1).trans hg, hr⟩⟩
theorem Row4.store {w0 w : World} {N : Nat} {o : List Int} (h : Row4 w0 w N o) (j : Nat) {z : Int} (h0 : 0 ≤ z) (h1 : z < 10000) : Row4 w0 (w.setCell ⟨w0.heap.size, j, none⟩ (.int .i64 z)) N (o.set j z) := by
  have h2 := (h.1.stored j (.int .i64 z)).1
  refine ⟨?_, by rw [List.length_set]; exact h.2.1, h.2.2.1.set j h0 h1, h.2.2.2.setCell (p := ⟨w0.heap.size, j, none⟩) (Nat.le_refl _) _⟩
  rw [List.map_set]
  exact h2
theorem Row4.cell {w0 w : World} {N : Nat} {o : List Int} (h : Row4 w0 w N o) {j : Nat} (hj : j < N) : w.cell? ⟨w0.heap.size, j, none⟩ = some (.int .i64 (o[j]'(by rw [h.2.1]; exact hj))) := by
  rw [h.1.cellAt j (by omega), List.getElem?_map, List.getElem?_eq_getElem (by rw [h.2.1]; exact hj)]
  rfl
theorem Row4.frozen {w0 w : World} {N : Nat} {o : List Int} (h : Row4 w0 w N o) (j : Nat) : w.frozen? ⟨w0.heap.size, j, none⟩ = false := h.1.frozenAt j
theorem Row4.zeros {w0 w : World} {N : Nat} (h : w.ownsRow w0.heap.size 3 1 (.slice (some ⟨w0.heap.size, 0, none⟩) N N) N (madeCells #[Value.int IntKind.i64 0] N).toList) (hb : Below w0.heap.size w0 w) : Row4 w0 w N (List.replicate N 0) := by
  rw [toList_madeCells_one] at h
  refine ⟨by rw [List.map_replicate]; exact h, List.length_replicate, fun x hx => ?_, hb⟩
  rw [(List.mem_replicate.1 hx).2]
  omega
theorem quo_step {B : Int} {lp o : List Int} {j : Nat} (hj : j < lp.length) (hj' : j < o.length) {Q r z : Int} (h : pv B (lp.drop (j + 1)) = pv B (o.drop (j + 1)) * Q + r) :
    pv B (lp.drop j) = pv B ((o.set j z).drop j) * Q + (lp[j] + B * r - z * Q) := by
  rw [pv_drop B lp j hj, pv_drop B (o.set j z) j (by rw [List.length_set]; exact hj'), List.getElem_set_self, List.drop_set_of_lt (by omega), h]
  grind
set_option maxRecDepth 100000 in
set_option maxHeartbeats 2000000 in
theorem parts_walk (lp lq : List Int) (vp vq : Value) (w : World) (hl : lp.length ≤ 1000) (hl' : lq.length ≤ 1000) (hp : Sls w .i64 vp lp) (hq : Sls w .i64 vq lq) (pp : Dg 10000 lp) (pq : Pc 10000 lq) (hn : 0 < pv 10000 lq) :
    Calls Tryz.prog 166 #[vp, vq] w fun e w' => ∃ v r, e = .returned (.tuple #[v, r]) ∧ Pcs w' .i64 10000 v (pv 10000 lp / pv 10000 lq) ∧ Pcs w' .i64 10000 r (pv 10000 lp % pv 10000 lq) ∧ Kp w w' := by
  obtain ⟨ap, cp, rfl, hcp⟩ := hp.val
  obtain ⟨aq, cq, rfl, hcq⟩ := hq.val
  obtain ⟨i0, hi, hz0, hz1, hz2⟩ := info_parts infoI
  have HP := Lib.hid hp; clear hp
  have HQ := Lib.hid hq; clear hq
  have PP := Lib.hid pp; clear pp
  have PQ := Lib.hid pq; clear pq
  have HN := Lib.hid hn; clear hn
  go_enter Tryz.func166, Tryz.ntmps166
  go_wp2_with (at_make; refine wpList_make_full _ rfl _ _ 60 rfl w.heap.size 3 i0 (.int .i64 0) 1 Tryz.underlying60 hi hz0 hz1 _ _ _ _ lp.length rfl rfl (by omega) (by omega) ?b2 ?b3 (Nat.le_refl _) ?_)
  case b2 => rw [hz2]; omega
  case b3 => unfold maxLen; omega
  intro w0 hown0 hgrow0
  have hr0 : Row4 w w0 lp.length (List.replicate lp.length 0) := Row4.zeros (by simpa using hown0) ((Below.refl _ w).grown hgrow0 (Nat.le_refl _) (fun k h => by cases h))
  have HR0 := Lib.hid hr0
  clear hr0 hown0 hgrow0
  go_wp2_with fail
  go_loopw [7, 8] (fun rest si wr => ∃ (n : Nat) (o : List Int) (r : Int), n ≤ lp.length ∧ si = .int .i64 ((n : Int) - 1) ∧ Row4 w wr lp.length o ∧ Pcs wr .i64 10000 rest r ∧ 0 ≤ r ∧ r < pv 10000 lq ∧ pv 10000 (lp.drop n) = pv 10000 (o.drop n) * pv 10000 lq + r) (fun _ si _ => (intOf si + 1).toNat)
  case atStart => exact ⟨lp.length, _, 0, Nat.le_refl _, rfl, HR0.out, ⟨[], Sls.nil _ _, Pc.nil _, rfl⟩, by omega, HN.out, by rw [drop_all, List.drop_eq_nil_of_le (by simp)]; simp [pv]⟩
  case round =>
    obtain ⟨n, o, r, hn, rfl, hrow, hpr, hr0, hr1, hv⟩ := hrel
    have HRow := Lib.hid hrow; clear hrow
    have HV := Lib.hid hv; clear hv
    cases n with
    | zero =>
      have HPr := Lib.hid hpr; clear hpr
      have hv := HV.out
      rw [List.drop_zero, List.drop_zero] at hv
      have hq2 : pv 10000 o = pv 10000 lp / pv 10000 lq ∧ r = pv 10000 lp % pv 10000 lq := by
        have := (Int.ediv_emod_unique (a := pv 10000 lp) (b := pv 10000 lq) (r := r) (q := pv 10000 o) HN.out).2 ⟨by rw [hv]; grind, hr0, hr1⟩
        exact ⟨this.1.symm, this.2.symm⟩
      have HQ2 := Lib.hid hq2
      clear hv hq2
      have hol : o.length ≤ 100000000000000 := by rw [HRow.out.2.1]; omega
      go_wp2_with fail
      refine (cut_walk o _ _ hol HRow.out.2.2.1 (Sls.own HRow.out.1)).mono ?_
      rintro e w2 ⟨v', rfl, hp2, _, hk2⟩
      rw [HQ2.out.1] at hp2
      have HP2 := Lib.hid hp2; clear hp2
      have HK := Lib.hid hk2
      have HK2 := Lib.hid ((show Kp w wr from HRow.out.2.2.2).then hk2); clear hk2
      go_wp2_with fail
      go_ret2
      exact ⟨_, _, rfl, HP2.out, HQ2.out.2 ▸ HPr.out.kp HK.out, HK2.out⟩
    | succ j =>
      obtain ⟨lr, hsr, hpcr, hvr⟩ := hpr
      obtain ⟨ar, cr, rfl, hcr⟩ := hsr.val
      obtain ⟨bp, op, rfl⟩ := HP.out.addr (by omega)
      have hj : j < lp.length := by omega
      have ga := HP.out.cells (show Kp w wr from HRow.out.2.2.2) hj
      have hpj := PP.out.at hj
      have e1 : ((j + 1 : Nat) : Int) - 1 = (j : Int) := by omega
      rw [e1]
      have HSR := Lib.hid hsr
      have HPCR := Lib.hid hpcr
      have HVR := Lib.hid hvr
      clear hsr hpcr hvr e1
      have hlr : lr.length ≤ lq.length := HPCR.out.len_le (by omega) PQ.out (by rw [HVR.out]; omega)
      have hownB : (wr.alloc (.cells #[.int .i64 lp[j]] 3)).ownsRow wr.heap.size 3 1 (.slice (some ⟨wr.heap.size, 0, none⟩) 1 1) 1 [.int .i64 lp[j]] := World.ownsRow_lit wr #[.int .i64 lp[j]] 1 (Nat.le_refl _) (by unfold maxLen; omega) (by simp)
      have HOB := Lib.hid hownB
      clear hownB
      have hbw : w.heap.size ≤ wr.heap.size := HRow.out.2.2.2.size
      have hkb : Kp wr (wr.alloc (.cells #[.int .i64 lp[j]] 3)) := kp_alloc _ _
      have hs2 : Sls (wr.alloc (.cells #[.int .i64 lp[j]] 3)) .i64 (.slice ar lr.length cr) lr := HSR.out.kp hkb
      have HS2 := Lib.hid hs2
      have hcs : ∀ ad, ar = some ad → ∀ (t : Nat) (u : Value), (lr.map (Value.int .i64))[t]? = some u → (wr.alloc (.cells #[.int .i64 lp[j]] 3)).cell? (ad.add t) = some u := by
        intro ad had t u ht
        rw [List.getElem?_map] at ht
        obtain ⟨x, hx, rfl⟩ := Option.map_eq_some_iff.1 ht
        obtain ⟨htl, rfl⟩ := List.getElem?_eq_some_iff.1 hx
        obtain ⟨b2, o2, e2⟩ := HS2.out.addr (by omega)
        rw [had] at e2
        cases e2
        subst had
        rw [show (⟨b2, o2, none⟩ : Addr).add t = ⟨b2, o2 + t, none⟩ from by simp [Addr.add]]
        exact HS2.out.cells (Kp.refl _) htl
      have h1c : ∀ u ∈ lr.map (Value.int .i64), u.oneCell' = true := by
        intro u hu
        obtain ⟨x, _, rfl⟩ := List.mem_map.1 hu
        rfl
      have HCS := Lib.hid hcs
      have H1C := Lib.hid h1c
      clear hcs h1c hs2 hkb
      have hR : Pcs wr .i64 10000 (.slice ar lr.length cr) r := ⟨lr, HSR.out, HPCR.out, HVR.out⟩
      have hdl : Dg 10000 (lp[j] :: lr) := Dg.cons hpj.1 hpj.2 HPCR.out.1
      have hpvl : pv 10000 (lp[j] :: lr) = lp[j] + 10000 * r := by rw [pv, HVR.out]
      have HDL := Lib.hid hdl
      have HPV := Lib.hid hpvl
      clear hdl hpvl hR
      cases ar with
      | none =>
        have hlr0 : lr = [] := by
          rcases Nat.eq_zero_or_pos lr.length with h | h
          · exact List.eq_nil_of_length_eq_zero h
          · obtain ⟨_, _, e⟩ := HSR.out.addr h
            cases e
        subst hlr0
        go_wp2_with (at_builtin; refine wpList_append_fits_any _ rfl (.tmp 26) (.tmp 27) 60 rfl wr.heap.size 3 i0 1 Tryz.underlying60 hi hz1 wr.heap.size 1 1 _ rfl HOB.out _ 0 _ [] rfl (by simp) (by intro h; exact ⟨rfl, HSR.out.none⟩) (by intro ad h; cases h) (by intro u hu; simp at hu) (by omega) ?_; intro w1 hown1 hgrow1)
        have hkw : Kp wr w1 := by
          refine ((Below.refl wr.heap.size wr).alloc (Nat.le_refl _) _).grown hgrow1 (by simp) (fun k e => ?_)
          cases e
          exact Nat.le_refl _
        have hown2 : w1.ownsRow wr.heap.size 3 1 (.slice (some ⟨wr.heap.size, 0, none⟩) 1 1) (lp[j] :: ([] : List Int)).length ((lp[j] :: ([] : List Int)).map (Value.int .i64)) := by simpa [Nat.add_comm] using hown1
        have HO2 := Lib.hid hown2
        have HK1 := Lib.hid hkw
        clear hown1 hgrow1 hkw hown2
        refine (cut_walk (lp[j] :: ([] : List Int)) _ _ (by first | (simp; done) | (simp; omega)) HDL.out (Sls.ownV HO2.out)).mono ?_
        rintro e w2 ⟨v2, rfl, hp2, ⟨az, n1, n2, cs, es1, es2⟩, hk2⟩
        have hfar : ∀ a, az = some a → w.heap.size < a.block := fun a ha => by
          subst ha
          have h1 := (HO2.out.lt a.block (by rw [es1]; rfl)).1
          have h2 := (HRow.out.1.lt w.heap.size rfl).2
          omega
        have HFAR := Lib.hid (And.intro es2 hfar)
        clear es1 es2 hfar
        rw [HPV.out] at hp2
        have HP2 := Lib.hid hp2
        have HK2 := Lib.hid (HK1.out.then hk2)
        have HKW : Hid (Kp w w2) := Lib.hid ((show Kp w wr from HRow.out.2.2.2).then HK2.out)
        have HROW2 : Hid (Row4 w w2 lp.length o) := Lib.hid (HRow.out.kp HK2.out)
        clear hp2 hk2
        go_wp2_with fail
        go_loopw [9, 10, 11] (fun slo shi _ ws => ∃ lo hh : Int, slo = .int .i64 lo ∧ shi = .int .i64 hh ∧ 0 ≤ lo ∧ lo ≤ hh ∧ hh ≤ 9999 ∧ lo * pv 10000 lq ≤ lp[j] + 10000 * r ∧ lp[j] + 10000 * r < (hh + 1) * pv 10000 lq ∧ Kp w2 ws) (fun slo shi _ _ => (intOf shi - intOf slo).toNat)
        case atStart => exact ⟨0, 9999, rfl, rfl, by omega, by omega, by omega, by omega, by omega, Kp.refl _⟩
        case round =>
          obtain ⟨lo, hh, rfl, rfl, hlo, hlh, hhi, hlq, hhq, hks⟩ := hrel
          have HLQ := Lib.hid hlq
          have HHQ := Lib.hid hhq
          have HKS := Lib.hid hks
          clear hlq hhq hks
          have hwq : Kp w wr := HKW.out.then HKS.out
          have HWQ := Lib.hid hwq
          clear hwq
          by_cases hlt : lo < hh
          · have hm0 : 0 ≤ (lo + hh + 1) / 2 * pv 10000 lq := Int.mul_nonneg (by omega) (by have := HN.out; omega)
            have HM0 := Lib.hid hm0
            clear hm0
            go_wp2_with fail
            refine (joined_walk [] lq _ _ ((lo + hh + 1) / 2) _ (by simp) (by omega) (Sls.nil _ _) (HQ.out.kp HWQ.out) (Dg.nil _) PQ.out.1 ⟨by omega, by omega⟩ (by show 0 ≤ 0 + _; rw [Int.zero_add]; exact HM0.out)).mono ?_
            rintro e w3 ⟨v3, rfl, hp3, hk3⟩
            rw [show pv 10000 [] = 0 from rfl, Int.zero_add] at hp3
            obtain ⟨l2, hs2, hc2, hv2⟩ := HP2.out.kp (HKS.out.then hk3)
            obtain ⟨l3, hs3, hc3, hv3⟩ := hp3
            have H2 := Lib.hid (And.intro hs2 (And.intro hc2 hv2))
            have H3 := Lib.hid (And.intro hs3 (And.intro hc3 hv3))
            have HK3 := Lib.hid hk3
            clear hs2 hc2 hv2 hs3 hc3 hv3 hk3
            have h0 : Pc 10000 (0 :: lq) := by
              refine ⟨Dg.cons (by omega) (by omega) PQ.out.1, fun x hx => ?_⟩
              cases hl0 : lq with
              | nil => have := HN.out; rw [hl0] at this; simp [pv] at this
              | cons y ys => rw [hl0, List.getLast?_cons_cons] at hx; exact PQ.out.2 x (by rw [hl0]; exact hx)
            have hp0 : pv 10000 (0 :: lq) = 10000 * pv 10000 lq := by simp [pv]
            have hL2 : l2.length ≤ 100000 := by
              have := H2.out.2.1.len_le (by omega) h0 (by rw [hp0, H2.out.2.2]; omega)
              simp at this; omega
            have hL3 : l3.length ≤ 100000 := by
              have hmul : (lo + hh + 1) / 2 * pv 10000 lq ≤ 10000 * pv 10000 lq := Int.mul_le_mul_of_nonneg_right (by omega) (by have := HN.out; omega)
              have := H3.out.2.1.len_le (by omega) h0 (by rw [hp0, H3.out.2.2]; exact hmul)
              simp at this; omega
            clear h0 hp0
            go_wp2_with fail
            refine (less_walk l2 l3 _ _ _ hL2 hL3 H2.out.1 H3.out.1 H2.out.2.1 H3.out.2.1).mono ?_
            rintro e w4 ⟨rfl, hk4⟩
            have HK4 := Lib.hid ((HKS.out.then HK3.out).then hk4)
            clear hk4
            by_cases hcmp : pv 10000 l2 < pv 10000 l3
            · rw [decide_eq_true hcmp]
              rw [H2.out.2.2, H3.out.2.2] at hcmp
              have HCMP := Lib.hid hcmp
              clear hcmp
              go_wp2_with fail
              go_roundw
              case rel => exact ⟨lo, (lo + hh + 1) / 2 - 1, rfl, rfl, hlo, by omega, by omega, HLQ.out, by rw [Int.sub_add_cancel]; exact HCMP.out, HK4.out⟩
              case measure => simp only [intOf]; omega
            · rw [decide_eq_false hcmp]
              rw [H2.out.2.2, H3.out.2.2] at hcmp
              have HCMP := Lib.hid hcmp
              clear hcmp
              go_wp2_with fail
              go_roundw
              case rel => exact ⟨(lo + hh + 1) / 2, hh, rfl, rfl, by omega, by omega, hhi, by have := HCMP.out; omega, HHQ.out, HK4.out⟩
              case measure => simp only [intOf]; omega
          · obtain rfl : lo = hh := by omega
            have hrw := HROW2.out.kp HKS.out
            have gc := hrw.cell hj
            have gf := hrw.frozen j
            have HRW := Lib.hid hrw
            obtain ⟨l2, hs2, hc2, hv2⟩ := HP2.out.kp HKS.out
            have hs3 : Sls (wr.setCell ⟨w.heap.size, j, none⟩ (.int .i64 lo)) .i64 v2 l2 := by
              have h2 := HFAR.out
              obtain ⟨rfl, h3⟩ := h2
              exact sls_far hs2 h3
            have h0 : Pc 10000 (0 :: lq) := by
              refine ⟨Dg.cons (by omega) (by omega) PQ.out.1, fun x hx => ?_⟩
              cases hl0 : lq with
              | nil => have := HN.out; rw [hl0] at this; simp [pv] at this
              | cons y ys => rw [hl0, List.getLast?_cons_cons] at hx; exact PQ.out.2 x (by rw [hl0]; exact hx)
            have hp0 : pv 10000 (0 :: lq) = 10000 * pv 10000 lq := by simp [pv]
            have hL2 : l2.length ≤ 5000 := by
              have := hc2.len_le (by omega) h0 (by rw [hp0, hv2]; omega)
              simp at this; omega
            have hlow := HLQ.out
            have hhigh := HHQ.out
            have hdist : (lo + 1) * pv 10000 lq = lo * pv 10000 lq + pv 10000 lq := by rw [Int.add_mul, Int.one_mul]
            have hneg : -lo * pv 10000 lq = -(lo * pv 10000 lq) := Int.neg_mul ..
            have hst := HRW.out.store j (z := lo) (by omega) (by omega)
            have hq3 := HQ.out.kp (show Kp w _ from hst.2.2.2)
            have H2 := Lib.hid (And.intro hs3 (And.intro hc2 hv2))
            have HST := Lib.hid hst
            have HQ3 := Lib.hid hq3
            have HLO := Lib.hid (And.intro hlow (And.intro hhigh (And.intro hdist hneg)))
            clear hs2 hs3 hc2 hv2 h0 hp0 hlow hhigh hdist hneg hst hq3
            go_wp2_with fail
            refine (joined_walk l2 lq _ _ (-lo) _ hL2 (by omega) H2.out.1 HQ3.out H2.out.2.1.1 PQ.out.1 ⟨by omega, by omega⟩ (by rw [H2.out.2.2]; have := HLO.out; omega)).mono ?_
            rintro e w5 ⟨v5, rfl, hp5, hk5⟩
            have HP5 := Lib.hid hp5
            have HK5 := Lib.hid hk5
            clear hp5 hk5
            go_wp2_with fail
            go_roundw
            case rel =>
              have h1 := HLO.out
              have h2 := H2.out.2.2
              refine ⟨j, o.set j lo, lp[j] + 10000 * r - lo * pv 10000 lq, by omega, rfl, HST.out.kp HK5.out, ?_, by omega, by omega, quo_step hj (by rw [HRW.out.2.1]; exact hj) HV.out⟩
              have h3 := HP5.out
              rw [h2] at h3
              have e5 : lp[j] + 10000 * r + -lo * pv 10000 lq = lp[j] + 10000 * r - lo * pv 10000 lq := by omega
              rw [e5] at h3
              exact h3
            case measure => simp only [intOf]; omega
      | some ad =>
        go_wp2_with (at_builtin; refine wpList_append_own _ rfl (.tmp 26) (.tmp 27) 60 rfl wr.heap.size 3 i0 (.int .i64 0) 1 8 Tryz.underlying60 hi hz0 hz1 hz2 rfl (by decide) _ _ _ rfl HOB.out ad lr.length cr (lr.map (Value.int .i64)) rfl (by simp) (HCS.out ad rfl) H1C.out (by unfold maxLen; omega) (by omega) (by simp) ?_; intro v1 w1 hown1 hgrow1 _)
        have hkw : Kp wr w1 := by
          refine ((Below.refl wr.heap.size wr).alloc (Nat.le_refl _) _).grown hgrow1 (by simp) (fun k e => ?_)
          cases e
          exact Nat.le_refl _
        have hown2 : w1.ownsRow wr.heap.size 3 1 v1 (lp[j] :: lr).length ((lp[j] :: lr).map (Value.int .i64)) := by simpa [Nat.add_comm] using hown1
        have HO2 := Lib.hid hown2
        have HK1 := Lib.hid hkw
        clear hown1 hgrow1 hkw hown2
        refine (cut_walk (lp[j] :: lr) _ _ (by first | (simp; done) | (simp; omega)) HDL.out (Sls.ownV HO2.out)).mono ?_
        rintro e w2 ⟨v2, rfl, hp2, ⟨az, n1, n2, cs, es1, es2⟩, hk2⟩
        have hfar : ∀ a, az = some a → w.heap.size < a.block := fun a ha => by
          subst ha
          have h1 := (HO2.out.lt a.block (by rw [es1]; rfl)).1
          have h2 := (HRow.out.1.lt w.heap.size rfl).2
          omega
        have HFAR := Lib.hid (And.intro es2 hfar)
        clear es1 es2 hfar
        rw [HPV.out] at hp2
        have HP2 := Lib.hid hp2
        have HK2 := Lib.hid (HK1.out.then hk2)
        have HKW : Hid (Kp w w2) := Lib.hid ((show Kp w wr from HRow.out.2.2.2).then HK2.out)
        have HROW2 : Hid (Row4 w w2 lp.length o) := Lib.hid (HRow.out.kp HK2.out)
        clear hp2 hk2
        go_wp2_with fail
        go_loopw [9, 10, 11] (fun slo shi _ ws => ∃ lo hh : Int, slo = .int .i64 lo ∧ shi = .int .i64 hh ∧ 0 ≤ lo ∧ lo ≤ hh ∧ hh ≤ 9999 ∧ lo * pv 10000 lq ≤ lp[j] + 10000 * r ∧ lp[j] + 10000 * r < (hh + 1) * pv 10000 lq ∧ Kp w2 ws) (fun slo shi _ _ => (intOf shi - intOf slo).toNat)
        case atStart => exact ⟨0, 9999, rfl, rfl, by omega, by omega, by omega, by omega, by omega, Kp.refl _⟩
        case round =>
          obtain ⟨lo, hh, rfl, rfl, hlo, hlh, hhi, hlq, hhq, hks⟩ := hrel
          have HLQ := Lib.hid hlq
          have HHQ := Lib.hid hhq
          have HKS := Lib.hid hks
          clear hlq hhq hks
          have hwq : Kp w wr := HKW.out.then HKS.out
          have HWQ := Lib.hid hwq
          clear hwq
          by_cases hlt : lo < hh
          · have hm0 : 0 ≤ (lo + hh + 1) / 2 * pv 10000 lq := Int.mul_nonneg (by omega) (by have := HN.out; omega)
            have HM0 := Lib.hid hm0
            clear hm0
            go_wp2_with fail
            refine (joined_walk [] lq _ _ ((lo + hh + 1) / 2) _ (by simp) (by omega) (Sls.nil _ _) (HQ.out.kp HWQ.out) (Dg.nil _) PQ.out.1 ⟨by omega, by omega⟩ (by show 0 ≤ 0 + _; rw [Int.zero_add]; exact HM0.out)).mono ?_
            rintro e w3 ⟨v3, rfl, hp3, hk3⟩
            rw [show pv 10000 [] = 0 from rfl, Int.zero_add] at hp3
            obtain ⟨l2, hs2, hc2, hv2⟩ := HP2.out.kp (HKS.out.then hk3)
            obtain ⟨l3, hs3, hc3, hv3⟩ := hp3
            have H2 := Lib.hid (And.intro hs2 (And.intro hc2 hv2))
            have H3 := Lib.hid (And.intro hs3 (And.intro hc3 hv3))
            have HK3 := Lib.hid hk3
            clear hs2 hc2 hv2 hs3 hc3 hv3 hk3
            have h0 : Pc 10000 (0 :: lq) := by
              refine ⟨Dg.cons (by omega) (by omega) PQ.out.1, fun x hx => ?_⟩
              cases hl0 : lq with
              | nil => have := HN.out; rw [hl0] at this; simp [pv] at this
              | cons y ys => rw [hl0, List.getLast?_cons_cons] at hx; exact PQ.out.2 x (by rw [hl0]; exact hx)
            have hp0 : pv 10000 (0 :: lq) = 10000 * pv 10000 lq := by simp [pv]
            have hL2 : l2.length ≤ 100000 := by
              have := H2.out.2.1.len_le (by omega) h0 (by rw [hp0, H2.out.2.2]; omega)
              simp at this; omega
            have hL3 : l3.length ≤ 100000 := by
              have hmul : (lo + hh + 1) / 2 * pv 10000 lq ≤ 10000 * pv 10000 lq := Int.mul_le_mul_of_nonneg_right (by omega) (by have := HN.out; omega)
              have := H3.out.2.1.len_le (by omega) h0 (by rw [hp0, H3.out.2.2]; exact hmul)
              simp at this; omega
            clear h0 hp0
            go_wp2_with fail
            refine (less_walk l2 l3 _ _ _ hL2 hL3 H2.out.1 H3.out.1 H2.out.2.1 H3.out.2.1).mono ?_
            rintro e w4 ⟨rfl, hk4⟩
            have HK4 := Lib.hid ((HKS.out.then HK3.out).then hk4)
            clear hk4
            by_cases hcmp : pv 10000 l2 < pv 10000 l3
            · rw [decide_eq_true hcmp]
              rw [H2.out.2.2, H3.out.2.2] at hcmp
              have HCMP := Lib.hid hcmp
              clear hcmp
              go_wp2_with fail
              go_roundw
              case rel => exact ⟨lo, (lo + hh + 1) / 2 - 1, rfl, rfl, hlo, by omega, by omega, HLQ.out, by rw [Int.sub_add_cancel]; exact HCMP.out, HK4.out⟩
              case measure => simp only [intOf]; omega
            · rw [decide_eq_false hcmp]
              rw [H2.out.2.2, H3.out.2.2] at hcmp
              have HCMP := Lib.hid hcmp
              clear hcmp
              go_wp2_with fail
              go_roundw
              case rel => exact ⟨(lo + hh + 1) / 2, hh, rfl, rfl, by omega, by omega, hhi, by have := HCMP.out; omega, HHQ.out, HK4.out⟩
              case measure => simp only [intOf]; omega
          · obtain rfl : lo = hh := by omega
            have hrw := HROW2.out.kp HKS.out
            have gc := hrw.cell hj
            have gf := hrw.frozen j
            have HRW := Lib.hid hrw
            obtain ⟨l2, hs2, hc2, hv2⟩ := HP2.out.kp HKS.out
            have hs3 : Sls (wr.setCell ⟨w.heap.size, j, none⟩ (.int .i64 lo)) .i64 v2 l2 := by
              have h2 := HFAR.out
              obtain ⟨rfl, h3⟩ := h2
              exact sls_far hs2 h3
            have h0 : Pc 10000 (0 :: lq) := by
              refine ⟨Dg.cons (by omega) (by omega) PQ.out.1, fun x hx => ?_⟩
              cases hl0 : lq with
              | nil => have := HN.out; rw [hl0] at this; simp [pv] at this
              | cons y ys => rw [hl0, List.getLast?_cons_cons] at hx; exact PQ.out.2 x (by rw [hl0]; exact hx)
            have hp0 : pv 10000 (0 :: lq) = 10000 * pv 10000 lq := by simp [pv]
            have hL2 : l2.length ≤ 5000 := by
              have := hc2.len_le (by omega) h0 (by rw [hp0, hv2]; omega)
              simp at this; omega
            have hlow := HLQ.out
            have hhigh := HHQ.out
            have hdist : (lo + 1) * pv 10000 lq = lo * pv 10000 lq + pv 10000 lq := by rw [Int.add_mul, Int.one_mul]
            have hneg : -lo * pv 10000 lq = -(lo * pv 10000 lq) := Int.neg_mul ..
            have hst := HRW.out.store j (z := lo) (by omega) (by omega)
            have hq3 := HQ.out.kp (show Kp w _ from hst.2.2.2)
            have H2 := Lib.hid (And.intro hs3 (And.intro hc2 hv2))
            have HST := Lib.hid hst
            have HQ3 := Lib.hid hq3
            have HLO := Lib.hid (And.intro hlow (And.intro hhigh (And.intro hdist hneg)))
            clear hs2 hs3 hc2 hv2 h0 hp0 hlow hhigh hdist hneg hst hq3
            go_wp2_with fail
            refine (joined_walk l2 lq _ _ (-lo) _ hL2 (by omega) H2.out.1 HQ3.out H2.out.2.1.1 PQ.out.1 ⟨by omega, by omega⟩ (by rw [H2.out.2.2]; have := HLO.out; omega)).mono ?_
            rintro e w5 ⟨v5, rfl, hp5, hk5⟩
            have HP5 := Lib.hid hp5
            have HK5 := Lib.hid hk5
            clear hp5 hk5
            go_wp2_with fail
            go_roundw
            case rel =>
              have h1 := HLO.out
              have h2 := H2.out.2.2
              refine ⟨j, o.set j lo, lp[j] + 10000 * r - lo * pv 10000 lq, by omega, rfl, HST.out.kp HK5.out, ?_, by omega, by omega, quo_step hj (by rw [HRW.out.2.1]; exact hj) HV.out⟩
              have h3 := HP5.out
              rw [h2] at h3
              have e5 : lp[j] + 10000 * r + -lo * pv 10000 lq = lp[j] + 10000 * r - lo * pv 10000 lq := by omega
              rw [e5] at h3
              exact h3
            case measure => simp only [intOf]; omega
end Go.Proofs.YtjcfejncjdhplaaGreatDoor
