/-
  klippe/klipperef02.Right: which texts are right numbers (any text).
-/
import Derived.Test.YtjcfejncjdhplaaGreatDoorBigZ
import Derived.Test.YtjcfejncjdhplaaGreatDoorBigP
import Derived.Lib.IndexLaws
set_option linter.unusedSectionVars false
set_option linter.unusedVariables false
set_option linter.unusedSimpArgs false
namespace Go.Proofs.YtjcfejncjdhplaaGreatDoor
open Go.RowKit Go Klp
set_option maxHeartbeats 1000000 in
theorem split_nil (w : World) : Calls Tryz.prog 95 #[.string ⟨([] : List UInt8).toArray⟩] w fun e w' => e = .returned (.tuple #[.bool false, .string ⟨([] : List UInt8).toArray⟩]) ∧ Kp w w' := by
  go_enter Tryz.func95, Tryz.ntmps95
  go_wp2_with fail
  go_ret2
  exact ⟨rfl, Kp.refl _⟩
theorem split_any (l : List UInt8) (hl : l.length ≤ 1000) (w : World) : Calls Tryz.prog 95 #[.string ⟨l.toArray⟩] w fun e w' => e = .returned (.tuple #[.bool (splM l).1, .string ⟨(splM l).2.toArray⟩]) ∧ Kp w w' := by
  cases l with
  | nil => exact split_nil w
  | cons c r =>
    by_cases hc : c = 45
    · subst hc
      exact split_minus (45 :: r) r w rfl hl
    · have e3 : splM (c :: r) = (false, c :: r) := by simp [splM, hc]
      rw [e3]
      refine (split_plus (c :: r) w hl (by simp) ?_).mono fun e w' ⟨h1, h2⟩ => ⟨h1, Kp.of_eq' h2⟩
      rw [beq_eq_false_iff_ne, get_mk _ 0 (by simp [ByteArray.size]) (by simp)]
      intro e
      apply hc
      rw [← UInt8.toNat_inj]
      simp at e ⊢
      omega
theorem splM_len (l : List UInt8) : (splM l).2.length ≤ l.length := by
  cases l with
  | nil => simp [splM]
  | cons c r => simp only [splM]; split <;> simp
set_option maxHeartbeats 2000000 in
theorem canon_any (l t : List UInt8) (m : Bool) (w : World) (hs : ∀ w, Calls Tryz.prog 95 #[.string ⟨l.toArray⟩] w fun e w' => e = .returned (.tuple #[.bool m, .string ⟨t.toArray⟩]) ∧ Kp w w') (hl : t.length ≤ 1000) :
    Calls Tryz.prog 96 #[.string ⟨l.toArray⟩] w fun e w' => e = .returned (.bool (canB m t)) ∧ Kp w w' := by
  have HS := Lib.hid hs; clear hs
  go_enter Tryz.func96, Tryz.ntmps96
  go_wp2_with fail
  refine (HS.out _).mono ?_
  rintro e w' ⟨rfl, hk⟩
  have HK := Lib.hid hk; clear hk
  go_wp2_with fail
  go_loop [2, 5] (fun r i => ∃ k : Nat, k ≤ t.length ∧ i = .int .i64 k ∧ r = .bool false ∧ ∀ j (h : j < t.length), j < k → digB t[j] = true) (fun _ i => 1001 - (intOf i).toNat)
  case atStart => exact ⟨0, Nat.zero_le _, rfl, rfl, fun j h h' => by omega⟩
  case round =>
    obtain ⟨k, hk, rfl, rfl, hall⟩ := hrel
    have HALL := Lib.hid hall; clear hall
    by_cases hlt : k < t.length
    · have hks : k < (⟨t.toArray⟩ : ByteArray).size := by rw [size_mk]; exact hlt
      have hg : (⟨t.toArray⟩ : ByteArray)[k] = t[k] := get_mk t k hks hlt
      by_cases hd : digB t[k] = true
      · have hdk := (digB_iff _).1 hd
        unfold isDig at hdk
        rw [← hg] at hdk
        have HD := Lib.hid hd
        clear hg hd
        go_wp2_with fail
        go_round
        case rel => exact ⟨k + 1, by omega, by go_num, rfl, fun j h h' => by
          rcases Nat.lt_or_ge j k with h1 | h1
          · exact HALL.out j h h1
          · obtain rfl : j = k := by omega
            exact HD.out⟩
        case measure => simp [intOf]; omega
      · have hf : canB m t = false := by
          unfold canB
          rw [show t.all digB = false from List.all_eq_false.2 ⟨t[k], List.getElem_mem hlt, hd⟩]
          rfl
        have HF := Lib.hid hf
        have hdk : ¬ isDig t[k] := fun h => hd ((digB_iff _).2 h)
        unfold isDig at hdk
        rw [← hg] at hdk
        clear hf hd hg
        by_cases h48 : (⟨t.toArray⟩ : ByteArray)[k].toNat < 48
        · clear hdk
          go_wp2_with fail
          go_ret
          exact ⟨by rw [HF.out]; rfl, HK.out⟩
        · have h57 : 57 < (⟨t.toArray⟩ : ByteArray)[k].toNat := by omega
          clear hdk
          go_wp2_with fail
          go_ret
          exact ⟨by rw [HF.out]; rfl, HK.out⟩
    · obtain rfl : k = t.length := by omega
      have ha : t.all digB = true := List.all_eq_true.2 fun c hc => by
        obtain ⟨j, hj, rfl⟩ := List.getElem_of_mem hc
        exact HALL.out j hj hj
      have HA := Lib.hid ha
      clear ha HALL
      by_cases h0 : t.length = 0
      · obtain rfl := List.eq_nil_of_length_eq_zero h0
        go_wp2_with fail
        go_ret
        exact ⟨rfl, HK.out⟩
      · have hl0 : ((t.length : Int) == 0) = false := by rw [beq_eq_false_iff_ne]; omega
        have hks : 0 < (⟨t.toArray⟩ : ByteArray).size := by rw [size_mk]; omega
        have hg : (⟨t.toArray⟩ : ByteArray)[0] = t[0] := get_mk t 0 hks (by omega)
        have hne : t.isEmpty = false := by rw [List.isEmpty_eq_false_iff]; rintro rfl; simp at h0
        have hhd : t.headD 0 = t[0]'(by omega) := by cases t with
          | nil => simp at h0
          | cons c r => rfl
        by_cases h48 : t[0]'(by omega) = 48
        · have hz : ((((⟨t.toArray⟩ : ByteArray)[0]).toNat : Int) == 48) = true := by rw [hg, h48]; rfl
          have hc : canB m t = !(m || decide (1 < t.length)) := by unfold canB; rw [HA.out, hne, hhd, h48]; simp
          have HC := Lib.hid hc
          clear hg hne hhd h48 hc
          cases m
          · by_cases h1 : 1 < t.length
            · have h1' : decide ((1 : Int) < (t.length : Int)) = true := decide_eq_true (by omega)
              go_wp2_with fail
              go_ret
              exact ⟨by rw [HC.out]; simp [h1], HK.out⟩
            · have h1' : decide ((1 : Int) < (t.length : Int)) = false := decide_eq_false (by omega)
              go_wp2_with fail
              go_ret
              exact ⟨by rw [HC.out]; simp [h1], HK.out⟩
          · go_wp2_with fail
            go_ret
            exact ⟨by rw [HC.out]; rfl, HK.out⟩
        · have hz : ((((⟨t.toArray⟩ : ByteArray)[0]).toNat : Int) == 48) = false := by
            rw [hg, beq_eq_false_iff_ne]
            intro e
            apply h48
            rw [← UInt8.toNat_inj]
            simp at e ⊢
            omega
          have hc : canB m t = true := by unfold canB; rw [HA.out, hne, hhd]; simp [h48]
          have HC := Lib.hid hc
          clear hg hne hhd h48 hc
          go_wp2_with fail
          go_ret
          exact ⟨by rw [HC.out]; rfl, HK.out⟩
set_option maxHeartbeats 400000 in
theorem right01_any (l : List UInt8) (hl : l.length ≤ 1000) (w : World) : Calls Tryz.prog 53 #[.string ⟨l.toArray⟩] w fun e w' => e = .returned (.bool (chk l)) ∧ Kp w w' := by
  have HS := Lib.hid fun w => split_any l hl w
  have HC := Lib.hid fun w => canon_any l _ _ w HS.out (by have := splM_len l; omega)
  have hc : chk l = (canB (splM l).1 (splM l).2 && decide ((splM l).2.length ≤ 200)) := rfl
  generalize canB (splM l).1 (splM l).2 = cb at *
  generalize (splM l).2 = t at *
  generalize (splM l).1 = m at *
  have HC2 := Lib.hid hc
  clear hc
  go_enter Tryz.func53, Tryz.ntmps53
  go_wp2_with fail
  refine (HS.out _).mono ?_
  rintro e w' ⟨rfl, hk⟩
  have HK := Lib.hid hk; clear hk
  go_wp2_with fail
  refine (HC.out _).mono ?_
  rintro e w2 ⟨rfl, hk⟩
  have HK2 := Lib.hid (HK.out.then hk); clear hk
  cases cb
  · go_wp2_with fail
    go_ret
    exact ⟨by rw [HC2.out]; rfl, HK2.out⟩
  · go_wp2_with fail
    go_ret
    refine ⟨?_, HK2.out⟩
    rw [HC2.out]
    by_cases h : t.length ≤ 200
    · rw [decide_eq_true h]
      exact congrArg (fun b => Ending.returned (Value.bool b)) (show decide ((t.length : Int) ≤ 200) = (true && true) from decide_eq_true (by omega))
    · rw [decide_eq_false h]
      exact congrArg (fun b => Ending.returned (Value.bool b)) (show decide ((t.length : Int) ≤ 200) = (true && false) from decide_eq_false (by omega))
set_option maxHeartbeats 400000 in
theorem sign01B {n : Int} (h : Bg n) (w : World) : Calls Tryz.prog 98 #[.string ⟨(Lib.itoa n).toArray⟩] w fun e w' => e = .returned (.int .i64 (sgn n 0)) ∧ Kp w w' := by
  have hs := fun w => split_itoaB h w
  by_cases h0 : n < 0
  · rw [decide_eq_true h0] at hs
    have HS := Lib.hid hs; clear hs
    have HN := Lib.hid (sgn_lt h0)
    go_enter Tryz.func98, Tryz.ntmps98
    go_wp2_with fail
    refine (HS.out _).mono ?_
    rintro e w' ⟨rfl, hk⟩
    have HK := Lib.hid hk; clear hk
    go_wp2_with fail
    go_ret
    exact ⟨by rw [HN.out]; rfl, HK.out⟩
  · rw [decide_eq_false h0] at hs
    have HS := Lib.hid hs; clear hs
    by_cases hz : n = 0
    · have hz1 : (Lib.itoa n == [48]) = true := by rw [itoa_is_zero, decide_eq_true hz]
      have HN := Lib.hid (sgn_eq hz)
      clear hz h0
      go_enter Tryz.func98, Tryz.ntmps98
      go_wp2_with fail
      refine (HS.out _).mono ?_
      rintro e w' ⟨rfl, hk⟩
      have HK := Lib.hid hk; clear hk
      go_wp2_with fail
      go_ret
      exact ⟨by rw [HN.out]; rfl, HK.out⟩
    · have hz1 : (Lib.itoa n == [48]) = false := by rw [itoa_is_zero, decide_eq_false hz]
      have HN := Lib.hid (sgn_gt (show (0 : Int) < n by omega))
      go_enter Tryz.func98, Tryz.ntmps98
      go_wp2_with fail
      refine (HS.out _).mono ?_
      rintro e w' ⟨rfl, hk⟩
      have HK := Lib.hid hk; clear hk
      go_wp2_with fail
      go_ret
      exact ⟨by rw [HN.out]; rfl, HK.out⟩
theorem bg_of {n : Int} {k : Nat} (hk : k ≤ 900) (h : (Lib.decDigits n.natAbs).length ≤ k) : Bg n := Nat.le_trans h hk
theorem bg_one : Bg (-1) := by show (Lib.decDigits 1).length ≤ 900; rw [dec_small (by omega)]; simp
theorem bg_pred {n : Int} (h : (Lib.decDigits n.natAbs).length ≤ 200) : Bg (n + -1) := by
  refine lt_bg (by omega) ?_
  have h1 := bg_lt h
  have h2 : (10 : Int) ^ 200 * 10 ^ 700 = 10 ^ 900 := by rw [← Int.pow_add]
  have h3 := ipow_pos (B := 10) (by omega) 200
  have h5 : (0 : Int) ≤ 10 ^ 200 := by omega
  have h6 : ∀ m : Nat, 1 ≤ m → (10 : Int) ^ 200 * 10 ≤ 10 ^ 200 * 10 ^ m := fun m hm => Int.mul_le_mul_of_nonneg_left (by have h := ipow_le (B := 10) (by omega) hm; rw [Int.pow_succ, Int.pow_zero, Int.one_mul] at h; exact h) h5
  have h4 := h6 700 (by decide)
  clear h6
  generalize (10 : Int) ^ 900 = Q at *
  generalize (10 : Int) ^ 200 * 10 ^ 700 = R at *
  generalize (10 : Int) ^ 200 = S at *
  omega
set_option maxHeartbeats 400000 in
theorem cmp01B {d : Int} (h : (Lib.decDigits d.natAbs).length ≤ 200) (w : World) (ht : PTab w) : Calls Tryz.prog 55 #[.string ⟨(Lib.itoa d).toArray⟩, .string ⟨#[49]⟩] w fun e w' => e = .returned (.int .i64 (sgn d 1)) ∧ Kp w w' := by
  have hsub : ∀ w, PTab w → Calls Tryz.prog 99 #[.string ⟨(Lib.itoa d).toArray⟩, .string ⟨#[49]⟩] w fun e w' => e = .returned (strV (Lib.itoa (d + -1))) ∧ Kp w w' := by
    intro w ht
    have HT := Lib.hid ht; clear ht
    have HA := Lib.hid (bg_of (by omega) h)
    go_enter Tryz.func99, Tryz.ntmps99
    go_wp2_with fail
    refine (neg01_one _).mono ?_
    rintro e w' ⟨rfl, hw⟩
    subst hw
    go_wp2_with fail
    refine (addB HA.out bg_one _ HT.out).mono ?_
    rintro e w' ⟨rfl, hk⟩
    have HK := Lib.hid hk; clear hk
    go_wp2_with fail
    go_ret
    exact ⟨rfl, HK.out⟩
  have HS := Lib.hid hsub
  have HP := Lib.hid (bg_pred h)
  have HT := Lib.hid ht; clear ht hsub
  have he : sgn (d + -1) 0 = sgn d 1 := by unfold sgn; split <;> split <;> (try split) <;> (try split) <;> omega
  have HE := Lib.hid he
  clear he
  go_enter Tryz.func55, Tryz.ntmps55
  go_wp2_with fail
  refine (HS.out _ HT.out).mono ?_
  rintro e w' ⟨rfl, hk⟩
  have HK := Lib.hid hk; clear hk
  go_wp2_with fail
  refine (sign01B HP.out _).mono ?_
  rintro e w2 ⟨rfl, hk⟩
  have HK2 := Lib.hid (HK.out.then hk); clear hk
  go_wp2_with fail
  go_ret
  exact ⟨by rw [← HE.out]; rfl, HK2.out⟩
end Go.Proofs.YtjcfejncjdhplaaGreatDoor
namespace Go.Proofs.YtjcfejncjdhplaaGreatDoor
open Go.RowKit Go Klp
theorem stroke (l : List UInt8) : Lib.indexByte l 47 = -1 ∨ ∃ k : Nat, Lib.indexByte l 47 = (k : Int) ∧ k < l.length := by
  have h := Lib.indexByte_ge l 47
  rcases Int.lt_or_le (Lib.indexByte l 47) 0 with h1 | h1
  · exact .inl (by omega)
  · refine .inr ⟨(Lib.indexByte l 47).toNat, by omega, ?_⟩
    have h2 := (Lib.indexByte_some (l := l) (c := 47) (o := (Lib.indexByte l 47).toNat) (by omega)).1
    exact (List.getElem?_eq_some_iff.1 h2).1
theorem ratOk_none {l : List UInt8} (h : Lib.indexByte l 47 = -1) : ratOk l = chk l := by unfold ratOk; rw [h]; rfl
theorem ratOk_at {l : List UInt8} {k : Nat} (h : Lib.indexByte l 47 = (k : Int)) : ratOk l = qchk (l.take k) (l.drop (k + 1)) := by
  unfold ratOk
  rw [h, if_neg (by omega)]
  rfl
theorem chk_one : chk [49] = true := by decide
set_option maxHeartbeats 400000 in
theorem right02_none (l : List UInt8) (hl : l.length ≤ 1000) (h : Lib.indexByte l 47 = -1) (w : World) : Calls Tryz.prog 25 #[.string ⟨l.toArray⟩] w fun e w' => e = .returned (.bool (ratOk l)) ∧ Kp w w' := by
  have hN := fun w => right01_any l hl w
  have h1 := fun w => right01_any [49] (by simp) w
  rw [chk_one] at h1
  have HR := Lib.hid (ratOk_none h)
  have HI := Lib.hid h
  have H1 := Lib.hid h1
  clear h h1
  cases hc : chk l
  · rw [hc] at hN
    have HN := Lib.hid hN
    have HC := Lib.hid hc
    clear hN hc
    go_enter Tryz.func25, Tryz.ntmps25
    go_wp2_with fail
    refine (parts02_none _ _ HI.out).mono ?_
    rintro e w' ⟨rfl, hk⟩
    have HK := Lib.hid hk; clear hk
    go_wp2_with fail
    refine (HN.out _).mono ?_
    rintro e w2 ⟨rfl, hk⟩
    have HK2 := Lib.hid (HK.out.then hk); clear hk
    go_wp2_with fail
    go_ret
    exact ⟨by rw [HR.out, HC.out]; rfl, HK2.out⟩
  · rw [hc] at hN
    have HN := Lib.hid hN
    have HC := Lib.hid hc
    clear hN hc
    go_enter Tryz.func25, Tryz.ntmps25
    go_wp2_with fail
    refine (parts02_none _ _ HI.out).mono ?_
    rintro e w' ⟨rfl, hk⟩
    have HK := Lib.hid hk; clear hk
    go_wp2_with fail
    refine (HN.out _).mono ?_
    rintro e w2 ⟨rfl, hk⟩
    have HK2 := Lib.hid (HK.out.then hk); clear hk
    go_wp2_with fail
    refine (H1.out _).mono ?_
    rintro e w3 ⟨rfl, hk⟩
    have HK3 := Lib.hid (HK2.out.then hk); clear hk
    go_wp2_with fail
    refine (idxB _ _).mono ?_
    rintro e w2 ⟨rfl, hw⟩
    rw [HI.out]
    subst hw
    go_wp2_with fail
    go_ret
    exact ⟨by rw [HR.out, HC.out]; rfl, HK3.out⟩
set_option maxHeartbeats 2000000 in
theorem right02_quo (l : List UInt8) (k : Nat) (hl : l.length ≤ 1000) (h : Lib.indexByte l 47 = (k : Int)) (hk : k < l.length) (w : World) (ht : PTab w) : Calls Tryz.prog 25 #[.string ⟨l.toArray⟩] w fun e w' => e = .returned (.bool (ratOk l)) ∧ Kp w w' := by
  have HP := Lib.hid fun w => parts02_at l k w h hk hl
  have hA := fun w => right01_any (l.take k) (by rw [List.length_take]; omega) w
  have hB := fun w => right01_any (l.drop (k + 1)) (by rw [List.length_drop]; omega) w
  have HR := Lib.hid (ratOk_at h)
  have HI := Lib.hid h
  have HT := Lib.hid ht
  have hneg : ¬ ((k : Int) < 0) := by omega
  clear h hk ht
  generalize l.take k = p at *
  generalize l.drop (k + 1) = q at *
  cases hcp : chk p
  · rw [hcp] at hA
    have hr : qchk p q = false := by unfold qchk; rw [hcp]; rfl
    have HR2 := Lib.hid hr
    have HN := Lib.hid hA
    clear hA hB hcp hr
    go_enter Tryz.func25, Tryz.ntmps25
    go_wp2_with fail
    refine (HP.out _).mono ?_
    rintro e w' ⟨rfl, hk⟩
    have HK := Lib.hid hk; clear hk
    go_wp2_with fail
    refine (HN.out _).mono ?_
    rintro e w2 ⟨rfl, hk⟩
    have HK2 := Lib.hid (HK.out.then hk); clear hk
    go_wp2_with fail
    go_ret
    exact ⟨by rw [HR.out, HR2.out]; rfl, HK2.out⟩
  · rw [hcp] at hA
    cases hcq : chk q
    · rw [hcq] at hB
      have hr : qchk p q = false := by unfold qchk; rw [hcp, hcq]; rfl
      have HR2 := Lib.hid hr
      have HN := Lib.hid hA
      have HD := Lib.hid hB
      clear hA hB hcp hcq hr
      go_enter Tryz.func25, Tryz.ntmps25
      go_wp2_with fail
      refine (HP.out _).mono ?_
      rintro e w' ⟨rfl, hk⟩
      have HK := Lib.hid hk; clear hk
      go_wp2_with fail
      refine (HN.out _).mono ?_
      rintro e w2 ⟨rfl, hk⟩
      have HK2 := Lib.hid (HK.out.then hk); clear hk
      go_wp2_with fail
      refine (HD.out _).mono ?_
      rintro e w3 ⟨rfl, hk⟩
      have HK3 := Lib.hid (HK2.out.then hk); clear hk
      go_wp2_with fail
      go_ret
      exact ⟨by rw [HR.out, HR2.out]; rfl, HK3.out⟩
    · rw [hcq] at hB
      obtain ⟨a, rfl, ha⟩ := chk_is hcp
      obtain ⟨b, rfl, hb⟩ := chk_is hcq
      have hr : qchk (Lib.itoa a) (Lib.itoa b) = (decide (1 < b) && decide (a ≠ 0) && decide (Int.gcd a b = 1)) := by unfold qchk; rw [hcp, hcq, ival_itoa, ival_itoa]; rfl
      have HR2 := Lib.hid hr
      have HN := Lib.hid hA
      have HD := Lib.hid hB
      have HC := Lib.hid fun w h => cmp01B hb w h
      have HG := Lib.hid fun w h => gcdB (bg_of (by omega) ha) (bg_of (by omega) hb) w h
      clear hA hB hcp hcq hr ha hb
      by_cases hb1 : 1 < b
      · have hs : sgn b 1 = 1 := sgn_gt hb1
        have HB1 := Lib.hid (decide_eq_true hb1)
        clear hb1
        by_cases ha0 : a = 0
        · have hz : (Lib.itoa a == [48]) = true := by rw [itoa_is_zero, decide_eq_true ha0]
          have hzn : (Lib.itoa a != [48]) = false := by rw [bne, hz]; rfl
          have HA0 : Hid (decide (a ≠ 0) = false) := Lib.hid (decide_eq_false (by simpa using ha0))
          clear ha0
          go_enter Tryz.func25, Tryz.ntmps25
          go_wp2_with fail
          refine (HP.out _).mono ?_
          rintro e w' ⟨rfl, hk⟩
          have HK := Lib.hid hk; clear hk
          go_wp2_with fail
          refine (HN.out _).mono ?_
          rintro e w2 ⟨rfl, hk⟩
          have HK2 := Lib.hid (HK.out.then hk); clear hk
          go_wp2_with fail
          refine (HD.out _).mono ?_
          rintro e w3 ⟨rfl, hk⟩
          have HK3 := Lib.hid (HK2.out.then hk); clear hk
          go_wp2_with fail
          refine (idxB _ _).mono ?_
          rintro e w2 ⟨rfl, hw⟩
          rw [HI.out]
          subst hw
          go_wp2_with fail
          refine (HC.out _ (HT.out.kp HK3.out)).mono ?_
          rintro e w4 ⟨rfl, hk⟩
          have HK4 := Lib.hid (HK3.out.then hk); clear hk
          go_wp2_with fail
          go_ret
          exact ⟨by rw [HR.out, HR2.out, HB1.out, HA0.out]; rfl, HK4.out⟩
        · have hz : (Lib.itoa a == [48]) = false := by rw [itoa_is_zero, decide_eq_false ha0]
          have hzn : (Lib.itoa a != [48]) = true := by rw [bne, hz]; rfl
          have HA0 : Hid (decide (a ≠ 0) = true) := Lib.hid (decide_eq_true ha0)
          clear ha0
          go_enter Tryz.func25, Tryz.ntmps25
          go_wp2_with fail
          refine (HP.out _).mono ?_
          rintro e w' ⟨rfl, hk⟩
          have HK := Lib.hid hk; clear hk
          go_wp2_with fail
          refine (HN.out _).mono ?_
          rintro e w2 ⟨rfl, hk⟩
          have HK2 := Lib.hid (HK.out.then hk); clear hk
          go_wp2_with fail
          refine (HD.out _).mono ?_
          rintro e w3 ⟨rfl, hk⟩
          have HK3 := Lib.hid (HK2.out.then hk); clear hk
          go_wp2_with fail
          refine (idxB _ _).mono ?_
          rintro e w2 ⟨rfl, hw⟩
          rw [HI.out]
          subst hw
          go_wp2_with fail
          refine (HC.out _ (HT.out.kp HK3.out)).mono ?_
          rintro e w4 ⟨rfl, hk⟩
          have HK4 := Lib.hid (HK3.out.then hk); clear hk
          go_wp2_with fail
          refine (HG.out _ (HT.out.kp HK4.out)).mono ?_
          rintro e w5 ⟨rfl, hk⟩
          have HK5 := Lib.hid (HK4.out.then hk); clear hk
          go_wp2_with fail
          go_ret
          refine ⟨?_, HK5.out⟩
          rw [HR.out, HR2.out, HB1.out, HA0.out]
          refine congrArg (fun b => Ending.returned (Value.bool b)) (show (Lib.itoa ((Int.gcd a b : Nat) : Int) == [49]) = (true && true && decide (Int.gcd a b = 1)) from ?_)
          rw [itoa_is_one]
          simp only [Bool.true_and]
          by_cases hg : Int.gcd a b = 1
          · rw [decide_eq_true hg, decide_eq_true (by omega)]
          · rw [decide_eq_false hg, decide_eq_false (by omega)]
      · have hs : ¬ 0 < sgn b 1 := by unfold sgn; split <;> (try split) <;> omega
        have HB1 := Lib.hid (decide_eq_false hb1)
        clear hb1
        go_enter Tryz.func25, Tryz.ntmps25
        go_wp2_with fail
        refine (HP.out _).mono ?_
        rintro e w' ⟨rfl, hk⟩
        have HK := Lib.hid hk; clear hk
        go_wp2_with fail
        refine (HN.out _).mono ?_
        rintro e w2 ⟨rfl, hk⟩
        have HK2 := Lib.hid (HK.out.then hk); clear hk
        go_wp2_with fail
        refine (HD.out _).mono ?_
        rintro e w3 ⟨rfl, hk⟩
        have HK3 := Lib.hid (HK2.out.then hk); clear hk
        go_wp2_with fail
        refine (idxB _ _).mono ?_
        rintro e w2 ⟨rfl, hw⟩
        rw [HI.out]
        subst hw
        go_wp2_with fail
        refine (HC.out _ (HT.out.kp HK3.out)).mono ?_
        rintro e w4 ⟨rfl, hk⟩
        have HK4 := Lib.hid (HK3.out.then hk); clear hk
        go_wp2_with fail
        go_ret
        exact ⟨by rw [HR.out, HR2.out, HB1.out]; rfl, HK4.out⟩
theorem right02_any (l : List UInt8) (hl : l.length ≤ 1000) (w : World) (ht : PTab w) : Calls Tryz.prog 25 #[.string ⟨l.toArray⟩] w fun e w' => e = .returned (.bool (ratOk l)) ∧ Kp w w' := by
  rcases stroke l with h | ⟨k, h, hk⟩
  · exact right02_none l hl h w
  · exact right02_quo l k hl h hk w ht
end Go.Proofs.YtjcfejncjdhplaaGreatDoor
