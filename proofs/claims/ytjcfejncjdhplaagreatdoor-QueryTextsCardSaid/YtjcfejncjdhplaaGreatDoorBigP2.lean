/-
  klippe/integer.Compare with one, klippe/rational.Check: which texts are right numbers (any text).
-/
import Derived.Test.YtjcfejncjdhplaaGreatDoorBigL
import Derived.Test.YtjcfejncjdhplaaGreatDoorBigC
import Derived.Test.YtjcfejncjdhplaaGreatDoorWkNum
set_option linter.unusedSectionVars false
set_option linter.unusedVariables false
set_option linter.unusedSimpArgs false
namespace Go.Proofs.YtjcfejncjdhplaaGreatDoor
open Go.RowKit Go Klp
theorem pre_splM (l : List UInt8) : Lib.hasPrefix l [45] = (splM l).1 ∧ Lib.trimPrefix l [45] = (splM l).2 := by
  cases l with
  | nil => exact ⟨rfl, rfl⟩
  | cons c r =>
    by_cases hc : c = 45
    · subst hc
      have h : Lib.hasPrefix (45 :: r) [45] = true := by simp [Lib.hasPrefix]
      refine ⟨h, ?_⟩
      unfold Lib.trimPrefix
      rw [h]
      simp [splM]
    · have h : Lib.hasPrefix (c :: r) [45] = false := by simp [Lib.hasPrefix, List.isPrefixOf, Ne.symm hc]
      have e3 : splM (c :: r) = (false, c :: r) := by simp [splM, hc]
      rw [e3]
      refine ⟨h, ?_⟩
      unfold Lib.trimPrefix
      rw [h]
      simp
set_option maxHeartbeats 2000000 in
theorem icheck_core (l t : List UInt8) (m : Bool) (res : Int) (hres : res = if (canB m t && decide (t.length ≤ 200)) = true then 0 else 2) (w : World) (h1 : Lib.trimPrefix l [45] = t) (h2 : Lib.hasPrefix l [45] = m) (hl : t.length ≤ 1000) :
    Calls Tryz.prog 61 #[.string ⟨l.toArray⟩] w fun e w' => e = .returned (.int .i64 res) ∧ w' = w := by
  have HRES := Lib.hid hres; clear hres
  have H1 := Lib.hid h1; clear h1
  have H2 := Lib.hid h2; clear h2
  by_cases h0 : t = []
  · subst h0
    have hr : (canB m [] && decide (([] : List UInt8).length ≤ 200)) = false := by simp [canB]
    have HR := Lib.hid hr
    clear hr
    go_enter Tryz.func61, Tryz.ntmps61
    go_wp2_with fail
    refine (cutPre l _).mono ?_
    rintro e w' ⟨rfl, hw⟩
    rw [H1.out, H2.out]
    subst hw
    go_wp2_with fail
    go_ret
    exact ⟨by rw [HRES.out, HR.out]; rfl, rfl⟩
  · have he : (t == []) = false := by rw [beq_eq_false_iff_ne]; exact h0
    have he' : t.isEmpty = false := by cases t <;> simp_all
    have hpos : 0 < t.length := List.length_pos_iff.2 h0
    by_cases h200 : t.length ≤ 200
    · have hz2 : decide ((200 : Int) < (t.length : Int)) = false := by simp; omega
      have hks : 0 < (⟨t.toArray⟩ : ByteArray).size := by rw [size_mk]; omega
      have hg : (⟨t.toArray⟩ : ByteArray)[0] = t[0] := get_mk t 0 hks hpos
      have hhd : t.headD 0 = t[0] := by cases t with
        | nil => simp at hpos
        | cons c r => rfl
      have hcan : canB m t = (t.all digB && !(t[0] == 48 && (m || decide (1 < t.length)))) := by unfold canB; rw [he', hhd]; simp
      have HCAN := Lib.hid hcan
      clear hcan hhd h0
      by_cases hbad : t[0] = 48 ∧ (1 < t.length ∨ m = true)
      · have hr : (canB m t && decide (t.length ≤ 200)) = false := by
          rw [HCAN.out, hbad.1]
          rcases hbad.2 with h | h
          · simp [h]
          · simp [h]
        have HR := Lib.hid hr
        have hz : ((((⟨t.toArray⟩ : ByteArray)[0]).toNat : Int) == 48) = true := by rw [hg, hbad.1]; rfl
        have hb2 := hbad.2
        clear hr hg hbad
        by_cases hl1 : 1 < t.length
        · have hl2 : decide ((1 : Int) < (t.length : Int)) = true := by simp; omega
          clear hb2
          go_enter Tryz.func61, Tryz.ntmps61
          go_wp2_with fail
          refine (cutPre l _).mono ?_
          rintro e w' ⟨rfl, hw⟩
          rw [H1.out, H2.out]
          subst hw
          go_wp2_with fail
          go_ret
          exact ⟨by rw [HRES.out, HR.out]; rfl, rfl⟩
        · have hm : m = true := by rcases hb2 with h | h; exact absurd h hl1; exact h
          subst hm
          have hl2 : decide ((1 : Int) < (t.length : Int)) = false := by simp; omega
          clear hb2
          go_enter Tryz.func61, Tryz.ntmps61
          go_wp2_with fail
          refine (cutPre l _).mono ?_
          rintro e w' ⟨rfl, hw⟩
          rw [H1.out, H2.out]
          subst hw
          go_wp2_with fail
          go_ret
          exact ⟨by rw [HRES.out, HR.out]; rfl, rfl⟩
      · have hr : (canB m t && decide (t.length ≤ 200)) = t.all digB := by
          rw [HCAN.out, decide_eq_true h200]
          have : (t[0] == 48 && (m || decide (1 < t.length))) = false := by
            by_cases hz : t[0] = 48
            · have h3 : ¬ (1 < t.length ∨ m = true) := fun h => hbad ⟨hz, h⟩
              rw [decide_eq_false (fun h => h3 (.inl h))]
              cases m
              · simp
              · exact absurd (.inr rfl) h3
            · have : (t[0] == 48) = false := by simpa using hz
              rw [this]; rfl
          rw [this]
          simp
        have HR := Lib.hid hr
        have hbr : ((((⟨t.toArray⟩ : ByteArray)[0]).toNat : Int) == 48) = false ∨ ((((⟨t.toArray⟩ : ByteArray)[0]).toNat : Int) == 48) = true ∧ decide ((1 : Int) < (t.length : Int)) = false ∧ m = false := by
          by_cases hz : t[0] = 48
          · have h3 : ¬ (1 < t.length ∨ m = true) := fun h => hbad ⟨hz, h⟩
            refine .inr ⟨by rw [hg, hz]; rfl, by simp; omega, ?_⟩
            cases m
            · rfl
            · exact absurd (.inr rfl) h3
          · refine .inl ?_
            rw [hg, beq_eq_false_iff_ne]
            intro e
            apply hz
            rw [← UInt8.toNat_inj]
            simp at e ⊢
            omega
        clear hr hbad hg
        rcases hbr with hz | ⟨hz, hl2, rfl⟩
        all_goals
          go_enter Tryz.func61, Tryz.ntmps61
          go_wp2_with fail
          refine (cutPre l _).mono ?_
          rintro e w' ⟨rfl, hw⟩
          rw [H1.out, H2.out]
          subst hw
          go_wp2_with fail
          go_loop [2, 33] (fun r i => ∃ k : Nat, k ≤ t.length ∧ i = .int .i64 k ∧ r = .int .i64 0 ∧ ∀ j (h : j < t.length), j < k → digB t[j] = true) (fun _ i => 1001 - (intOf i).toNat)
          case atStart => exact ⟨0, Nat.zero_le _, rfl, rfl, fun j h h' => by omega⟩
          case round =>
            obtain ⟨k, hk, rfl, rfl, hall⟩ := hrel
            have HALL := Lib.hid hall; clear hall
            by_cases hlt : k < t.length
            · have hks : k < (⟨t.toArray⟩ : ByteArray).size := by rw [size_mk]; exact hlt
              have hg : (⟨t.toArray⟩ : ByteArray)[k] = t[k] := get_mk t k hks hlt
              by_cases hd : digB t[k] = true
              · have hdk := (digB_iff _).1 hd
                unfold isDig at hdk
                rw [← hg] at hdk
                have HD := Lib.hid hd
                clear hg hd
                go_wp2_with fail
                go_round
                case rel => exact ⟨k + 1, by omega, by go_num, rfl, fun j h h' => by
                  rcases Nat.lt_or_ge j k with h1 | h1
                  · exact HALL.out j h h1
                  · obtain rfl : j = k := by omega
                    exact HD.out⟩
                case measure => simp [intOf]; omega
              · have hf : t.all digB = false := List.all_eq_false.2 ⟨t[k], List.getElem_mem hlt, hd⟩
                have HF := Lib.hid hf
                have hdk : ¬ isDig t[k] := fun h => hd ((digB_iff _).2 h)
                unfold isDig at hdk
                rw [← hg] at hdk
                clear hf hd hg
                by_cases h48 : (⟨t.toArray⟩ : ByteArray)[k].toNat < 48
                · clear hdk
                  go_wp2_with fail
                  go_ret
                  exact ⟨by rw [HRES.out, HR.out, HF.out]; rfl, rfl⟩
                · have h57 : 57 < (⟨t.toArray⟩ : ByteArray)[k].toNat := by omega
                  clear hdk
                  go_wp2_with fail
                  go_ret
                  exact ⟨by rw [HRES.out, HR.out, HF.out]; rfl, rfl⟩
            · obtain rfl : k = t.length := by omega
              have ha : t.all digB = true := List.all_eq_true.2 fun c hc => by
                obtain ⟨j, hj, rfl⟩ := List.getElem_of_mem hc
                exact HALL.out j hj hj
              have HA := Lib.hid ha
              clear ha
              go_wp2_with fail
              go_ret
              exact ⟨by rw [HRES.out, HR.out, HA.out]; rfl, rfl⟩
    · have hz2 : decide ((200 : Int) < (t.length : Int)) = true := by simp; omega
      have hr : (canB m t && decide (t.length ≤ 200)) = false := by rw [decide_eq_false h200]; simp
      have HR := Lib.hid hr
      clear hr h0
      go_enter Tryz.func61, Tryz.ntmps61
      go_wp2_with fail
      refine (cutPre l _).mono ?_
      rintro e w' ⟨rfl, hw⟩
      rw [H1.out, H2.out]
      subst hw
      go_wp2_with fail
      go_ret
      exact ⟨by rw [HRES.out, HR.out]; rfl, rfl⟩
theorem icheck_any (l : List UInt8) (hl : l.length ≤ 1000) (w : World) : Calls Tryz.prog 61 #[.string ⟨l.toArray⟩] w fun e w' => e = .returned (.int .i64 (if chk l = true then 0 else 2)) ∧ w' = w := by
  obtain ⟨h1, h2⟩ := pre_splM l
  exact icheck_core l _ _ _ rfl w h2 h1 (by have := splM_len l; omega)
end Go.Proofs.YtjcfejncjdhplaaGreatDoor
namespace Go.Proofs.YtjcfejncjdhplaaGreatDoor
open Go.RowKit Go Klp
theorem icmp_big (b : Int) (w : World) (h1 : 2 ≤ b) (hl : (Lib.decDigits b.natAbs).length ≤ 200) : Calls Tryz.prog 62 #[.string ⟨(Lib.itoa b).toArray⟩, .string ⟨#[49]⟩] w fun e w' => e = .returned (.int .i64 1) ∧ w' = w := by
  refine compare_walk (Lib.itoa b) (Lib.decDigits b.natAbs) w (fun w => (sign_itoa b w).mono fun e w' ⟨a, c⟩ => ⟨by rw [a, if_neg (by omega), if_neg (by omega)], c⟩) (trim_itoa b) (dec_pos _) hl ?_
  intro h
  have hb : b.natAbs < 10 := by
    rcases Nat.lt_or_ge b.natAbs 10 with h' | h'
    · exact h'
    · rw [dec_big (by omega), List.length_append, List.length_singleton] at h
      have := dec_pos (b.natAbs / 10)
      omega
  rw [dec_small hb]
  have ht := toNat_dig hb
  have e1 : ¬ (UInt8.ofNat (48 + b.natAbs) < 49) := by rw [UInt8.lt_iff_toNat_lt, ht]; show ¬ (48 + b.natAbs < 49); omega
  have e2 : (49 : UInt8) < UInt8.ofNat (48 + b.natAbs) := by rw [UInt8.lt_iff_toNat_lt, ht]; show 49 < 48 + b.natAbs; omega
  rw [Lib.compareBytes, if_neg e1, if_pos e2]
set_option maxHeartbeats 1000000 in
theorem icmp_less (b : Int) (w : World) (h1 : b ≤ 0) : Calls Tryz.prog 62 #[.string ⟨(Lib.itoa b).toArray⟩, .string ⟨#[49]⟩] w fun e w' => e = .returned (.int .i64 (-1)) ∧ w' = w := by
  have hs : ∀ w, ∃ s : Int, s < 1 ∧ -5 < s ∧ Calls Tryz.prog 106 #[.string ⟨(Lib.itoa b).toArray⟩] w fun e w' => e = .returned (.int .i64 s) ∧ w' = w := by
    intro w
    by_cases h0 : b = 0
    · exact ⟨0, by omega, by omega, (sign_itoa b w).mono fun e w' ⟨a, c⟩ => ⟨by rw [a, if_pos h0], c⟩⟩
    · exact ⟨-1, by omega, by omega, (sign_itoa b w).mono fun e w' ⟨a, c⟩ => ⟨by rw [a, if_neg h0, if_pos (by omega)], c⟩⟩
  obtain ⟨s, hs1, hs5, hs2⟩ := hs ((w.alloc (.cells #[] 0)))
  have HS := Lib.hid hs
  clear hs2 h1 hs1 hs5 s hs
  go_enter Tryz.func62, Tryz.ntmps62
  go_wp2_with fail
  obtain ⟨s, hs1, hs5, hs2⟩ := HS.out w
  refine hs2.mono ?_
  rintro e w' ⟨rfl, hw⟩
  subst hw
  have hne : (s == 1) = false := by rw [beq_eq_false_iff_ne]; omega
  have hne2 : (s != 1) = true := by rw [bne, hne]; rfl
  clear hs2
  go_wp2_with fail
  refine (signOne _).mono ?_
  rintro e w' ⟨rfl, hw⟩
  subst hw
  go_wp2_with fail
  go_ret
  exact ⟨rfl, rfl⟩
set_option maxHeartbeats 1000000 in
theorem icmp_same (w : World) : Calls Tryz.prog 62 #[.string ⟨#[49]⟩, .string ⟨#[49]⟩] w fun e w' => e = .returned (.int .i64 0) ∧ w' = w := by
  have hcb : Lib.compareBytes [49] [49] = 0 := by decide
  have HCB := Lib.hid hcb
  clear hcb
  go_enter Tryz.func62, Tryz.ntmps62
  go_wp2_with fail
  refine (signOne _).mono ?_
  rintro e w' ⟨rfl, hw⟩
  subst hw
  go_wp2_with fail
  refine (signOne _).mono ?_
  rintro e w' ⟨rfl, hw⟩
  subst hw
  go_wp2_with fail
  refine (trimOne _).mono ?_
  rintro e w' ⟨rfl, hw⟩
  subst hw
  go_wp2_with fail
  refine (trimOne _).mono ?_
  rintro e w' ⟨rfl, hw⟩
  subst hw
  go_wp2_with fail
  refine (cmpOne [49] _).mono ?_
  rintro e w' ⟨rfl, hw⟩
  rw [HCB.out]
  subst hw
  go_wp2_with fail
  go_ret
  exact ⟨rfl, rfl⟩
theorem icmp_one (b : Int) (hl : (Lib.decDigits b.natAbs).length ≤ 200) : ∃ v : Int, -5 < v ∧ v < 5 ∧ (v ≤ 0 ↔ b ≤ 1) ∧ ∀ w, Calls Tryz.prog 62 #[.string ⟨(Lib.itoa b).toArray⟩, .string ⟨#[49]⟩] w fun e w' => e = .returned (.int .i64 v) ∧ w' = w := by
  rcases Int.lt_or_le 1 b with h | h
  · exact ⟨1, by omega, by omega, by omega, fun w => icmp_big b w (by omega) hl⟩
  · by_cases h1 : b = 1
    · subst h1
      rw [itoa_one]
      exact ⟨0, by omega, by omega, by omega, fun w => icmp_same w⟩
    · exact ⟨-1, by omega, by omega, by omega, fun w => icmp_less b w (by omega)⟩
set_option maxHeartbeats 400000 in
theorem rcheck_none (l : List UInt8) (hl : l.length ≤ 1000) (res : Int) (hres : res = if ratOk l = true then 0 else 2) (h : Lib.indexByte l 47 = -1) (w : World) :
    Calls Tryz.prog 30 #[.string ⟨l.toArray⟩] w fun e w' => e = .returned (.int .i64 res) ∧ Kp w w' := by
  rw [ratOk_none h] at hres
  have HC := Lib.hid fun w => cut_none l w h
  have hi := fun w => icheck_any l hl w
  rw [← hres] at hi
  have HI := Lib.hid hi
  have hr : res = 0 ∨ res = 2 := by rw [hres]; split <;> simp
  clear hi hres h
  rcases hr with rfl | rfl
  · go_enter Tryz.func30, Tryz.ntmps30
    go_wp2_with fail
    refine (HC.out _).mono ?_
    rintro e w' ⟨rfl, hk⟩
    have HK := Lib.hid hk; clear hk
    go_wp2_with fail
    refine (HI.out _).mono ?_
    rintro e w'' ⟨rfl, hw⟩
    subst hw
    go_wp2_with fail
    go_ret
    exact ⟨rfl, HK.out⟩
  · go_enter Tryz.func30, Tryz.ntmps30
    go_wp2_with fail
    refine (HC.out _).mono ?_
    rintro e w' ⟨rfl, hk⟩
    have HK := Lib.hid hk; clear hk
    go_wp2_with fail
    refine (HI.out _).mono ?_
    rintro e w'' ⟨rfl, hw⟩
    subst hw
    go_wp2_with fail
    go_ret
    exact ⟨rfl, HK.out⟩
theorem icheck_yes {l : List UInt8} (hl : l.length ≤ 1000) (h : chk l = true) (w : World) : Calls Tryz.prog 61 #[.string ⟨l.toArray⟩] w fun e w' => e = .returned (.int .i64 0) ∧ w' = w := by
  have := icheck_any l hl w
  rw [h, if_pos rfl] at this
  exact this
theorem icheck_no {l : List UInt8} (hl : l.length ≤ 1000) (h : chk l = false) (w : World) : Calls Tryz.prog 61 #[.string ⟨l.toArray⟩] w fun e w' => e = .returned (.int .i64 2) ∧ w' = w := by
  have := icheck_any l hl w
  rw [h, if_neg (by simp)] at this
  exact this
set_option maxHeartbeats 2000000 in
theorem rcheck_quo (l p q : List UInt8) (hl : p.length ≤ 1000) (hl' : q.length ≤ 1000) (res : Int) (hres : res = if qchk p q = true then 0 else 2) (w : World) (ht : PTab w)
    (hc : ∀ w, Calls Tryz.prog 60 #[.string ⟨l.toArray⟩, .string ⟨#[47]⟩] w fun e w' => e = .returned (.tuple #[.string ⟨p.toArray⟩, .string ⟨q.toArray⟩, .bool true]) ∧ Kp w w') :
    Calls Tryz.prog 30 #[.string ⟨l.toArray⟩] w fun e w' => e = .returned (.int .i64 res) ∧ Kp w w' := by
  have HC := Lib.hid hc; clear hc
  have HT := Lib.hid ht; clear ht
  cases hcp : chk p
  · have hA := icheck_no hl hcp
    have hr : res = 2 := by rw [hres]; unfold qchk; rw [hcp]; rfl
    subst hr
    have HN := Lib.hid hA
    clear hA hcp hres
    go_enter Tryz.func30, Tryz.ntmps30
    go_wp2_with fail
    refine (HC.out _).mono ?_
    rintro e w' ⟨rfl, hk⟩
    have HK := Lib.hid hk; clear hk
    go_wp2_with fail
    refine (HN.out _).mono ?_
    rintro e w'' ⟨rfl, hw⟩
    subst hw
    go_wp2_with fail
    go_ret
    exact ⟨rfl, HK.out⟩
  · have hA := icheck_yes hl hcp
    have HN := Lib.hid hA
    cases hcq : chk q
    · have hB := icheck_no hl' hcq
      have hr : res = 2 := by rw [hres]; unfold qchk; rw [hcp, hcq]; rfl
      subst hr
      have HD := Lib.hid hB
      clear hA hB hcp hcq hres
      go_enter Tryz.func30, Tryz.ntmps30
      go_wp2_with fail
      refine (HC.out _).mono ?_
      rintro e w' ⟨rfl, hk⟩
      have HK := Lib.hid hk; clear hk
      go_wp2_with fail
      refine (HN.out _).mono ?_
      rintro e w'' ⟨rfl, hw⟩
      subst hw
      go_wp2_with fail
      refine (HD.out _).mono ?_
      rintro e w'' ⟨rfl, hw⟩
      subst hw
      go_wp2_with fail
      go_ret
      exact ⟨rfl, HK.out⟩
    · have hB := icheck_yes hl' hcq
      have HD := Lib.hid hB
      obtain ⟨a, rfl, ha⟩ := chk_is hcp
      obtain ⟨b, rfl, hb⟩ := chk_is hcq
      have hr : qchk (Lib.itoa a) (Lib.itoa b) = (decide (1 < b) && decide (a ≠ 0) && decide (Int.gcd a b = 1)) := by unfold qchk; rw [hcp, hcq, ival_itoa, ival_itoa]; rfl
      rw [hr] at hres
      obtain ⟨v, hv1, hv2, hv, hcmp⟩ := icmp_one b hb
      have HCM := Lib.hid hcmp
      have HG := Lib.hid fun w h => igcdB (bg_of (by omega) ha) (bg_of (by omega) hb) w h
      clear hA hB hcp hcq hr ha hb hcmp
      by_cases hb1 : 1 < b
      · have hv0 : ¬ v ≤ 0 := fun h => by have := hv.1 h; omega
        rw [decide_eq_true hb1, Bool.true_and] at hres
        clear hv hb1
        by_cases ha0 : a = 0
        · have hz : (Lib.itoa a == [48]) = true := by rw [itoa_is_zero, decide_eq_true ha0]
          have hr2 : res = 2 := by rw [hres, decide_eq_false (by simpa using ha0)]; rfl
          subst hr2
          clear hres ha0
          go_enter Tryz.func30, Tryz.ntmps30
          go_wp2_with fail
          refine (HC.out _).mono ?_
          rintro e w' ⟨rfl, hk⟩
          have HK := Lib.hid hk; clear hk
          go_wp2_with fail
          refine (HN.out _).mono ?_
          rintro e w'' ⟨rfl, hw⟩
          subst hw
          go_wp2_with fail
          refine (HD.out _).mono ?_
          rintro e w'' ⟨rfl, hw⟩
          subst hw
          go_wp2_with fail
          refine (HCM.out _).mono ?_
          rintro e w'' ⟨rfl, hw⟩
          subst hw
          go_wp2_with fail
          go_ret
          exact ⟨rfl, HK.out⟩
        · have hz : (Lib.itoa a == [48]) = false := by rw [itoa_is_zero, decide_eq_false ha0]
          rw [decide_eq_true ha0, Bool.true_and] at hres
          clear ha0
          by_cases hg : Int.gcd a b = 1
          · have hr2 : res = 0 := by rw [hres, decide_eq_true hg]; rfl
            subst hr2
            have hgg := HG.out
            rw [hg] at hgg
            have e1 : Lib.itoa ((1 : Nat) : Int) = [49] := itoa_one
            rw [e1] at hgg
            have HG1 := Lib.hid hgg
            clear hres hg hgg HG e1
            go_enter Tryz.func30, Tryz.ntmps30
            go_wp2_with fail
            refine (HC.out _).mono ?_
            rintro e w' ⟨rfl, hk⟩
            have HK := Lib.hid hk; clear hk
            go_wp2_with fail
            refine (HN.out _).mono ?_
            rintro e w'' ⟨rfl, hw⟩
            subst hw
            go_wp2_with fail
            refine (HD.out _).mono ?_
            rintro e w'' ⟨rfl, hw⟩
            subst hw
            go_wp2_with fail
            refine (HCM.out _).mono ?_
            rintro e w'' ⟨rfl, hw⟩
            subst hw
            go_wp2_with fail
            refine (HG1.out _ (HT.out.kp HK.out)).mono ?_
            rintro e w3 ⟨rfl, hk3⟩
            have HK3 := Lib.hid (HK.out.then hk3); clear hk3
            go_wp2_with fail
            go_ret
            exact ⟨rfl, HK3.out⟩
          · have hr2 : res = 2 := by rw [hres, decide_eq_false hg]; rfl
            subst hr2
            have hgz : (Lib.itoa (Int.gcd a b : Int) == [49]) = false := by rw [itoa_is_one, decide_eq_false (by omega)]
            have hgz2 : (Lib.itoa (Int.gcd a b : Int) != [49]) = true := by rw [bne, hgz]; rfl
            clear hres hg
            go_enter Tryz.func30, Tryz.ntmps30
            go_wp2_with fail
            refine (HC.out _).mono ?_
            rintro e w' ⟨rfl, hk⟩
            have HK := Lib.hid hk; clear hk
            go_wp2_with fail
            refine (HN.out _).mono ?_
            rintro e w'' ⟨rfl, hw⟩
            subst hw
            go_wp2_with fail
            refine (HD.out _).mono ?_
            rintro e w'' ⟨rfl, hw⟩
            subst hw
            go_wp2_with fail
            refine (HCM.out _).mono ?_
            rintro e w'' ⟨rfl, hw⟩
            subst hw
            go_wp2_with fail
            refine (HG.out _ (HT.out.kp HK.out)).mono ?_
            rintro e w3 ⟨rfl, hk3⟩
            have HK3 := Lib.hid (HK.out.then hk3); clear hk3
            go_wp2_with fail
            go_ret
            exact ⟨rfl, HK3.out⟩
      · have hv0 : v ≤ 0 := hv.2 (by omega)
        have hr2 : res = 2 := by rw [hres, decide_eq_false hb1]; rfl
        subst hr2
        clear hv hb1 hres
        go_enter Tryz.func30, Tryz.ntmps30
        go_wp2_with fail
        refine (HC.out _).mono ?_
        rintro e w' ⟨rfl, hk⟩
        have HK := Lib.hid hk; clear hk
        go_wp2_with fail
        refine (HN.out _).mono ?_
        rintro e w'' ⟨rfl, hw⟩
        subst hw
        go_wp2_with fail
        refine (HD.out _).mono ?_
        rintro e w'' ⟨rfl, hw⟩
        subst hw
        go_wp2_with fail
        refine (HCM.out _).mono ?_
        rintro e w'' ⟨rfl, hw⟩
        subst hw
        go_wp2_with fail
        go_ret
        exact ⟨rfl, HK.out⟩
theorem rcheck_any (l : List UInt8) (hl : l.length ≤ 900) (w : World) (ht : PTab w) : Calls Tryz.prog 30 #[.string ⟨l.toArray⟩] w fun e w' => e = .returned (.int .i64 (if ratOk l = true then 0 else 2)) ∧ Kp w w' := by
  rcases stroke l with h | ⟨k, h, hk⟩
  · exact rcheck_none l (by omega) _ rfl h w
  · have h2 := (Lib.indexByte_some (l := l) (c := 47) (o := k) h).1
    obtain ⟨hk', hx⟩ := List.getElem?_eq_some_iff.1 h2
    have e : l = l.take k ++ 47 :: l.drop (k + 1) := by
      conv => lhs; rw [part_at l k hk', hx]
    have hlt : (l.take k).length = k := by rw [List.length_take]; omega
    have hcut := fun w => cut_at (l.take k) (l.drop (k + 1)) w (by rw [← e, hlt]; exact h) (by rw [hlt, List.length_drop]; omega)
    rw [← e] at hcut
    rw [ratOk_at h]
    exact rcheck_quo l _ _ (by rw [List.length_take]; omega) (by rw [List.length_drop]; omega) _ rfl w ht hcut
end Go.Proofs.YtjcfejncjdhplaaGreatDoor
