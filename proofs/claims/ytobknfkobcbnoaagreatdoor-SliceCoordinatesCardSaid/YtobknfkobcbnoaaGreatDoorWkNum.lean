/-
  klippe/rational.Parts, Check, Sub, Div; klippe/vector.long: at the texts of small numbers.
-/
import Derived.Test.YtobknfkobcbnoaaGreatDoorWkChk
set_option linter.unusedSectionVars false
set_option linter.unusedVariables false
set_option linter.unusedSimpArgs false
namespace Go.Proofs.YtobknfkobcbnoaaGreatDoor
open Go.RowKit Go Klp

theorem cut_rs_one (n : Int) (w : World) : Calls Tryz.prog 77 #[.string ⟨(Lib.itoa n).toArray⟩, .string ⟨#[47]⟩] w fun e w' => e = .returned (.tuple #[.string ⟨(Lib.itoa n).toArray⟩, .string ⟨#[]⟩, .bool false]) ∧ Kp w w' :=
  cut_none _ w (index_none fun _ hc => itoa_no_stroke hc)
theorem cut_rs_of (n d : Int) (w : World) (hl : (Lib.itoa n).length + (Lib.itoa d).length < 1000) : Calls Tryz.prog 77 #[.string ⟨(Lib.itoa n ++ 47 :: Lib.itoa d).toArray⟩, .string ⟨#[47]⟩] w fun e w' => e = .returned (.tuple #[.string ⟨(Lib.itoa n).toArray⟩, .string ⟨(Lib.itoa d).toArray⟩, .bool true]) ∧ Kp w w' :=
  cut_at _ _ w (index_at fun _ hc => itoa_no_stroke hc) hl

/-! ### Parts -/
set_option maxHeartbeats 400000 in
theorem parts_walk1 (l p q : List UInt8) (w : World) (hc : ∀ w, Calls Tryz.prog 77 #[.string ⟨l.toArray⟩, .string ⟨#[47]⟩] w fun e w' => e = .returned (.tuple #[.string ⟨p.toArray⟩, .string ⟨q.toArray⟩, .bool true]) ∧ Kp w w') :
    Calls Tryz.prog 56 #[.string ⟨l.toArray⟩] w fun e w' => e = .returned (.tuple #[strV p, strV q]) ∧ Kp w w' := by
  have HC := Lib.hid hc; clear hc
  go_enter Tryz.func56, Tryz.ntmps56
  go_wp2_with fail
  refine (HC.out _).mono ?_
  rintro e w' ⟨rfl, hk⟩
  have HK := Lib.hid hk; clear hk
  go_wp2_with fail
  go_ret2
  exact ⟨rfl, HK.out⟩
set_option maxHeartbeats 400000 in
theorem parts_walk0 (l p : List UInt8) (w : World) (hc : ∀ w, Calls Tryz.prog 77 #[.string ⟨l.toArray⟩, .string ⟨#[47]⟩] w fun e w' => e = .returned (.tuple #[.string ⟨p.toArray⟩, .string ⟨#[]⟩, .bool false]) ∧ Kp w w') :
    Calls Tryz.prog 56 #[.string ⟨l.toArray⟩] w fun e w' => e = .returned (.tuple #[strV p, strV [49]]) ∧ Kp w w' := by
  have HC := Lib.hid hc; clear hc
  go_enter Tryz.func56, Tryz.ntmps56
  go_wp2_with fail
  refine (HC.out _).mono ?_
  rintro e w' ⟨rfl, hk⟩
  have HK := Lib.hid hk; clear hk
  go_wp2_with fail
  go_ret2
  exact ⟨rfl, HK.out⟩
theorem parts_rs (n d : Int) (w : World) (hl : (Lib.itoa n).length + (Lib.itoa d).length < 1000) : Calls Tryz.prog 56 #[strV (rs n d)] w fun e w' => e = .returned (.tuple #[strV (Lib.itoa n), strV (Lib.itoa d)]) ∧ Kp w w' := by
  by_cases h : d = 1
  · subst h
    rw [rs_one, itoa_one]
    exact parts_walk0 _ _ w fun w => cut_rs_one n w
  · rw [rs_of h]
    exact parts_walk1 _ _ _ w fun w => cut_rs_of n d w hl

/-! ### Check -/
set_option maxHeartbeats 400000 in
theorem check_walk0 (l : List UInt8) (w : World) (hc : ∀ w, Calls Tryz.prog 77 #[.string ⟨l.toArray⟩, .string ⟨#[47]⟩] w fun e w' => e = .returned (.tuple #[.string ⟨l.toArray⟩, .string ⟨#[]⟩, .bool false]) ∧ Kp w w')
    (hi : ∀ w, Calls Tryz.prog 78 #[.string ⟨l.toArray⟩] w fun e w' => e = .returned (.int .i64 0) ∧ w' = w) :
    Calls Tryz.prog 44 #[.string ⟨l.toArray⟩] w fun e w' => e = .returned (.int .i64 0) ∧ Kp w w' := by
  have HC := Lib.hid hc; clear hc
  have HI := Lib.hid hi; clear hi
  go_enter Tryz.func44, Tryz.ntmps44
  go_wp2_with fail
  refine (HC.out _).mono ?_
  rintro e w' ⟨rfl, hk⟩
  have HK := Lib.hid hk; clear hk
  go_wp2_with fail
  refine (HI.out _).mono ?_
  rintro e w'' ⟨rfl, hw⟩
  subst hw
  go_wp2_with fail
  go_ret
  exact ⟨rfl, HK.out⟩
set_option maxHeartbeats 1000000 in
theorem check_walk1 (l p q : List UInt8) (w : World) (hc : ∀ w, Calls Tryz.prog 77 #[.string ⟨l.toArray⟩, .string ⟨#[47]⟩] w fun e w' => e = .returned (.tuple #[.string ⟨p.toArray⟩, .string ⟨q.toArray⟩, .bool true]) ∧ Kp w w')
    (hi : ∀ w, Calls Tryz.prog 78 #[.string ⟨p.toArray⟩] w fun e w' => e = .returned (.int .i64 0) ∧ w' = w)
    (hj : ∀ w, Calls Tryz.prog 78 #[.string ⟨q.toArray⟩] w fun e w' => e = .returned (.int .i64 0) ∧ w' = w)
    (hm : ∀ w, Calls Tryz.prog 79 #[.string ⟨q.toArray⟩, .string ⟨#[49]⟩] w fun e w' => e = .returned (.int .i64 1) ∧ w' = w)
    (hz : (p == [48]) = false) (ht : PTab w)
    (hg : ∀ w, PTab w → Calls Tryz.prog 80 #[.string ⟨p.toArray⟩, .string ⟨q.toArray⟩] w fun e w' => e = .returned (.string ⟨#[49]⟩) ∧ Kp w w') :
    Calls Tryz.prog 44 #[.string ⟨l.toArray⟩] w fun e w' => e = .returned (.int .i64 0) ∧ Kp w w' := by
  have HC := Lib.hid hc; clear hc
  have HI := Lib.hid hi; clear hi
  have HJ := Lib.hid hj; clear hj
  have HM := Lib.hid hm; clear hm
  have HG := Lib.hid hg; clear hg
  have HT := Lib.hid ht; clear ht
  go_enter Tryz.func44, Tryz.ntmps44
  go_wp2_with fail
  refine (HC.out _).mono ?_
  rintro e w' ⟨rfl, hk⟩
  have HK := Lib.hid hk; clear hk
  go_wp2_with fail
  refine (HI.out _).mono ?_
  rintro e w'' ⟨rfl, hw⟩
  subst hw
  go_wp2_with fail
  refine (HJ.out _).mono ?_
  rintro e w'' ⟨rfl, hw⟩
  subst hw
  go_wp2_with fail
  refine (HM.out _).mono ?_
  rintro e w'' ⟨rfl, hw⟩
  subst hw
  go_wp2_with fail
  refine (HG.out _ (HT.out.kp HK.out)).mono ?_
  rintro e w3 ⟨rfl, hk3⟩
  have HK3 := Lib.hid (HK.out.then hk3); clear hk3
  go_wp2_with fail
  go_ret
  exact ⟨rfl, HK3.out⟩
theorem itoa_len18 {n : Int} (h1 : -1000000000 < n) (h2 : n < 1000000000) : (Lib.itoa n).length ≤ 10 := by
  have p9 : (10 : Nat) ^ 9 = 1000000000 := by decide
  rw [itoa_eq, List.length_append]
  have h5 := dec_len (u := n.natAbs) (k := 9) (by omega) (by omega)
  have h6 : (if n < 0 then [(45 : UInt8)] else []).length ≤ 1 := by split <;> simp
  omega
theorem gcd_itoa (n d : Int) (w : World) (h1 : -1000000000 < n) (h2 : n < 1000000000) (h3 : -1000000000 < d) (h4 : d < 1000000000) (ht : PTab w) :
    Calls Tryz.prog 80 #[.string ⟨(Lib.itoa n).toArray⟩, .string ⟨(Lib.itoa d).toArray⟩] w fun e w' => e = .returned (strV (Lib.itoa (Int.gcd n d))) ∧ Kp w w' := by
  have l1 := itoa_len18 h1 h2
  have l2 := itoa_len18 h3 h4
  exact gcd_walk _ _ n d _ w (fun w => iquick_walk _ n w (by omega) (atoi_itoa n)) (fun w => iquick_walk _ d w (by omega) (atoi_itoa d)) (by omega) (by omega) (by omega) (by omega) rfl ht
theorem check_rat (a : Rat) (w : World) (ha : Sm a) (ht : PTab w) : Calls Tryz.prog 44 #[strV (canon a)] w fun e w' => e = .returned (.int .i64 0) ∧ Kp w w' := by
  have ⟨p1, p2, p3⟩ := ha
  have hd := a.den_pos
  have hred := a.reduced
  unfold canon
  by_cases h : (a.den : Int) = 1
  · rw [h, rs_one]
    exact check_walk0 _ w (fun w => cut_rs_one _ w) (fun w => icheck_itoa _ w (by omega) (by omega))
  · rw [rs_of h]
    have l1 := itoa_len18 p1 p2
    have l2 := itoa_len18 (n := a.den) (by omega) (by omega)
    refine check_walk1 _ (Lib.itoa a.num) (Lib.itoa a.den) w (fun w => cut_rs_of _ _ w (by omega)) (fun w => icheck_itoa _ w (by omega) (by omega)) (fun w => icheck_itoa _ w (by omega) (by omega)) (fun w => compare_itoa _ w (by omega) (by omega)) ?_ ht (fun w hw => ?_)
    · rw [itoa_is_zero, decide_eq_false]
      intro e
      rw [e] at hred
      have : a.den = 1 := by simpa using hred
      omega
    · have hg := gcd_itoa a.num a.den w p1 p2 (by omega) (by omega) hw
      have e1 : ((Int.gcd a.num a.den : Nat) : Int) = 1 := by
        unfold Int.gcd
        rw [Int.natAbs_natCast]
        have : a.num.natAbs.gcd a.den = 1 := hred
        rw [this]; rfl
      rw [e1, itoa_one] at hg
      exact hg

/-! ### Sub, Div -/
set_option maxHeartbeats 400000 in
theorem sub_walk (la lb lc lr : List UInt8) (w : World) (hn : ∀ w, Calls Tryz.prog 89 #[.string ⟨lb.toArray⟩] w fun e w' => e = .returned (strV lc) ∧ w' = w)
    (ha : ∀ w, PTab w → Calls Tryz.prog 42 #[.string ⟨la.toArray⟩, .string ⟨lc.toArray⟩] w fun e w' => e = .returned (strV lr) ∧ Kp w w') (ht : PTab w) :
    Calls Tryz.prog 55 #[.string ⟨la.toArray⟩, .string ⟨lb.toArray⟩] w fun e w' => e = .returned (strV lr) ∧ Kp w w' := by
  have HN := Lib.hid hn; clear hn
  have HA := Lib.hid ha; clear ha
  have HT := Lib.hid ht; clear ht
  go_enter Tryz.func55, Tryz.ntmps55
  go_wp2_with fail
  refine (HN.out _).mono ?_
  rintro e w' ⟨rfl, hw⟩
  subst hw
  go_wp2_with fail
  refine (HA.out _ HT.out).mono ?_
  rintro e w1 ⟨rfl, hk⟩
  have HK := Lib.hid hk; clear hk
  go_wp2_with fail
  go_ret
  exact ⟨rfl, HK.out⟩
theorem Sm.neg {a : Rat} (h : Sm a) : Sm (-a) := by
  obtain ⟨h1, h2, h3⟩ := h
  refine ⟨?_, ?_, h3⟩
  · show -1000000000 < -a.num; omega
  · show -a.num < 1000000000; omega
theorem sub_rat (a b : Rat) (w : World) (ha : Sm a) (hb : Sm b) (ht : PTab w) : Calls Tryz.prog 55 #[strV (canon a), strV (canon b)] w fun e w' => e = .returned (strV (canon (a - b))) ∧ Kp w w' := by
  rw [Rat.sub_eq_add_neg]
  exact sub_walk _ _ (canon (-b)) _ w (fun w => neg_rat b w hb) (fun w hw => add_rat a (-b) w ha hb.neg hw) ht
set_option maxHeartbeats 400000 in
theorem join_walk1 (p q : List UInt8) (w : World) (h : (q == [49]) = true) : Calls Tryz.prog 58 #[.string ⟨p.toArray⟩, .string ⟨q.toArray⟩] w fun e w' => e = .returned (strV p) ∧ w' = w := by
  go_enter Tryz.func58, Tryz.ntmps58
  go_wp2_with fail
  go_ret
  exact ⟨rfl, rfl⟩
set_option maxHeartbeats 400000 in
theorem join_walk0 (p q : List UInt8) (w : World) (h : (q == [49]) = false) (h1 : p.length ≤ 1000) (h2 : q.length ≤ 1000) : Calls Tryz.prog 58 #[.string ⟨p.toArray⟩, .string ⟨q.toArray⟩] w fun e w' => e = .returned (strV (p ++ 47 :: q)) ∧ w' = w := by
  have a1 := fun w => run_string_add_sum (P := Tryz.prog) (w := w) ⟨p.toArray⟩ ⟨#[47]⟩ (by simp [ByteArray.size]; omega)
  have a2 := fun w => run_string_add_sum (P := Tryz.prog) (w := w) (⟨p.toArray⟩ ++ ⟨#[47]⟩) ⟨q.toArray⟩ (by simp [ByteArray.size]; omega)
  go_enter Tryz.func58, Tryz.ntmps58
  go_wp2_with fail
  go_ret
  refine ⟨?_, rfl⟩
  show Ending.returned (.string (⟨p.toArray⟩ ++ ⟨#[47]⟩ ++ ⟨q.toArray⟩)) = _
  congr 2
  apply ByteArray.ext
  simp
theorem join_itoa (n d : Int) (w : World) (h1 : (Lib.itoa n).length ≤ 1000) (h2 : (Lib.itoa d).length ≤ 1000) : Calls Tryz.prog 58 #[strV (Lib.itoa n), strV (Lib.itoa d)] w fun e w' => e = .returned (strV (rs n d)) ∧ w' = w := by
  by_cases h : d = 1
  · have := join_walk1 (Lib.itoa n) (Lib.itoa d) w (by rw [itoa_is_one, decide_eq_true h])
    rw [h, rs_one]
    rw [h] at this
    exact this
  · rw [rs_of h]
    exact join_walk0 _ _ w (by rw [itoa_is_one, decide_eq_false h]) h1 h2
set_option maxHeartbeats 1000000 in
theorem div_walkp (la lb p q j r : List UInt8) (w : World) (hz : (lb == [48]) = false) (hp : ∀ w, Calls Tryz.prog 56 #[.string ⟨lb.toArray⟩] w fun e w' => e = .returned (.tuple #[strV p, strV q]) ∧ Kp w w')
    (h0 : 0 < lb.length) (h45 : (((⟨lb.toArray⟩ : ByteArray)[0].toNat : Int) == 45) = false)
    (hj : ∀ w, Calls Tryz.prog 58 #[.string ⟨q.toArray⟩, .string ⟨p.toArray⟩] w fun e w' => e = .returned (strV j) ∧ w' = w)
    (hm : ∀ w, PTab w → Calls Tryz.prog 31 #[.string ⟨la.toArray⟩, .string ⟨j.toArray⟩] w fun e w' => e = .returned (strV r) ∧ Kp w w') (ht : PTab w) :
    Calls Tryz.prog 27 #[.string ⟨la.toArray⟩, .string ⟨lb.toArray⟩] w fun e w' => e = .returned (.tuple #[strV r, .int .i64 0]) ∧ Kp w w' := by
  have HP := Lib.hid hp; clear hp
  have HJ := Lib.hid hj; clear hj
  have HM := Lib.hid hm; clear hm
  have HT := Lib.hid ht; clear ht
  go_enter Tryz.func27, Tryz.ntmps27
  go_wp2_with fail
  refine (HP.out _).mono ?_
  rintro e w' ⟨rfl, hk⟩
  have HK := Lib.hid hk; clear hk
  go_wp2_with fail
  refine (HJ.out _).mono ?_
  rintro e w1 ⟨rfl, hw⟩
  subst hw
  go_wp2_with fail
  refine (HM.out _ (HT.out.kp HK.out)).mono ?_
  rintro e w2 ⟨rfl, hk2⟩
  have HK2 := Lib.hid (HK.out.then hk2); clear hk2
  go_wp2_with fail
  go_ret2
  exact ⟨rfl, HK2.out⟩
theorem rs_first {n d : Int} (h : ¬ n < 0) : 0 < (rs n d).length ∧ ∀ h0 : 0 < (⟨(rs n d).toArray⟩ : ByteArray).size, ((((⟨(rs n d).toArray⟩ : ByteArray)[0]'h0).toNat : Int) == 45) = false := by
  obtain ⟨c, r, hc, hd⟩ := rs_head (n := n) (d := d) h
  unfold isDig at hd
  refine ⟨by rw [hc]; simp, fun h0 => ?_⟩
  rw [beq_eq_false_iff_ne]
  intro e
  have hx : (⟨(rs n d).toArray⟩ : ByteArray)[0]'h0 = c := by rw [get_mk _ 0 h0 (by rw [hc]; simp)]; simp [hc]
  rw [hx] at e
  omega
theorem div_rat (a b : Rat) (w : World) (ha : Sm a) (hb : Sm b) (hp : 0 < b.num) (ht : PTab w) : Calls Tryz.prog 27 #[strV (canon a), strV (canon b)] w fun e w' => e = .returned (.tuple #[strV (canon (a / b)), .int .i64 0]) ∧ Kp w w' := by
  have ⟨q1, q2, q3⟩ := hb
  have hd := b.den_pos
  have l1 := itoa_len18 q1 q2
  have l2 := itoa_len18 (n := b.den) (by omega) (by omega)
  have hinv : (b⁻¹).num = b.den ∧ ((b⁻¹).den : Int) = b.num := by
    rw [Rat.inv_def]
    have h1 : b.num ≠ 0 := by omega
    have e : Rat.divInt b.den b.num = mkRat b.den b.num.natAbs := by
      rw [← Rat.divInt_ofNat]; congr 1; omega
    rw [e]
    have hg : b.num.natAbs.gcd b.den = 1 := b.reduced
    constructor
    · rw [Rat.num_mkRat, if_neg (by omega), Int.natAbs_natCast, hg]; simp
    · rw [Rat.den_mkRat, if_neg (by omega), Int.natAbs_natCast, hg]; simp; omega
  have hsm : Sm b⁻¹ := ⟨by omega, by omega, by omega⟩
  have hcan : canon b⁻¹ = rs b.den b.num := by unfold canon; rw [hinv.1, hinv.2]
  have hz : b ≠ 0 := by intro e; rw [e] at hp; exact absurd hp (by decide)
  obtain ⟨f1, f2⟩ := rs_first (n := b.num) (d := b.den) (by omega)
  rw [Rat.div_def]
  refine div_walkp (canon a) (canon b) (Lib.itoa b.num) (Lib.itoa b.den) (canon b⁻¹) _ w (by rw [canon_is_zero, decide_eq_false hz]) (fun w => parts_rs _ _ w (by omega)) f1 (f2 (by rw [size_mk]; exact f1)) (fun w => ?_) (fun w hw => mul_rat a b⁻¹ w ha hsm hw) ht
  rw [hcan]
  exact join_itoa _ _ w (by omega) (by omega)

/-! ### vector.long -/
set_option maxHeartbeats 400000 in
theorem abs_walk (l s : List UInt8) (w : World) (h : Lib.trimPrefix l [45] = s) : Calls Tryz.prog 94 #[.string ⟨l.toArray⟩] w fun e w' => e = .returned (strV s) ∧ w' = w := by
  have H := Lib.hid h; clear h
  go_enter Tryz.func94, Tryz.ntmps94
  go_wp2_with fail
  refine (trimPre l _).mono ?_
  rintro e w' ⟨rfl, hw⟩
  rw [H.out]
  subst hw
  go_wp2_with fail
  go_ret
  exact ⟨rfl, rfl⟩
set_option maxHeartbeats 400000 in
theorem long_walk (l p q s : List UInt8) (w : World) (hp : ∀ w, Calls Tryz.prog 56 #[.string ⟨l.toArray⟩] w fun e w' => e = .returned (.tuple #[strV p, strV q]) ∧ Kp w w')
    (ha : ∀ w, Calls Tryz.prog 94 #[.string ⟨p.toArray⟩] w fun e w' => e = .returned (strV s) ∧ w' = w) (h1 : decide ((200 : Int) < (s.length : Int)) = false) (h2 : decide ((200 : Int) < (q.length : Int)) = false) :
    Calls Tryz.prog 62 #[.string ⟨l.toArray⟩] w fun e w' => e = .returned (.bool false) ∧ Kp w w' := by
  have HP := Lib.hid hp; clear hp
  have HA := Lib.hid ha; clear ha
  go_enter Tryz.func62, Tryz.ntmps62
  go_wp2_with fail
  refine (HP.out _).mono ?_
  rintro e w' ⟨rfl, hk⟩
  have HK := Lib.hid hk; clear hk
  go_wp2_with fail
  refine (HA.out _).mono ?_
  rintro e w1 ⟨rfl, hw⟩
  subst hw
  go_wp2_with fail
  go_ret
  exact ⟨rfl, HK.out⟩
theorem long_rat (a : Rat) (w : World) (ha : Sm a) : Calls Tryz.prog 62 #[strV (canon a)] w fun e w' => e = .returned (.bool false) ∧ Kp w w' := by
  have ⟨p1, p2, p3⟩ := ha
  have hd := a.den_pos
  have l1 := itoa_len18 p1 p2
  have l2 := itoa_len18 (n := a.den) (by omega) (by omega)
  have l3 := l1
  rw [itoa_eq, List.length_append] at l3
  exact long_walk _ (Lib.itoa a.num) (Lib.itoa a.den) (Lib.decDigits a.num.natAbs) w (fun w => parts_rs _ _ w (by omega)) (fun w => abs_walk _ _ w (trim_itoa _)) (by simp; omega) (by simp; omega)
end Go.Proofs.YtobknfkobcbnoaaGreatDoor
