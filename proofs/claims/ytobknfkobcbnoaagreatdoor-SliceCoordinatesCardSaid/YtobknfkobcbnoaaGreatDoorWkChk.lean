/-
  klippe/integer.Check, Compare, Gcd; klippe/rational.Parts, Check, Div; klippe/vector.long: at the texts of small numbers.
-/
import Derived.Test.YtobknfkobcbnoaaGreatDoorWkInt
set_option linter.unusedSectionVars false
set_option linter.unusedVariables false
set_option linter.unusedSimpArgs false
namespace Go.Proofs.YtobknfkobcbnoaaGreatDoor
open Go.RowKit Go Klp

theorem cutPre (l : List UInt8) (w : World) : Calls Tryz.prog 129 #[.string ⟨l.toArray⟩, .string ⟨#[45]⟩] w fun e w' => e = .returned (.tuple #[.string ⟨(Lib.trimPrefix l [45]).toArray⟩, .bool (Lib.hasPrefix l [45])]) ∧ w' = w :=
  Tryz.strings_CutPrefix ⟨l.toArray⟩ ⟨#[45]⟩ w
theorem trimPre (l : List UInt8) (w : World) : Calls Tryz.prog 130 #[.string ⟨l.toArray⟩, .string ⟨#[45]⟩] w fun e w' => e = .returned (.string ⟨(Lib.trimPrefix l [45]).toArray⟩) ∧ w' = w :=
  Tryz.strings_TrimPrefix ⟨l.toArray⟩ ⟨#[45]⟩ w
theorem trim_itoa (n : Int) : Lib.trimPrefix (Lib.itoa n) [45] = Lib.decDigits n.natAbs := by
  unfold Lib.trimPrefix
  rw [pre_itoa]
  by_cases h : n < 0
  · rw [decide_eq_true h, if_pos rfl, itoa_neg' h]; rfl
  · rw [decide_eq_false h, itoa_pos' h]; rfl

/-! ### integer.Check -/
set_option maxHeartbeats 1000000 in
theorem icheck_walk (l s : List UInt8) (m : Bool) (w : World) (h1 : Lib.trimPrefix l [45] = s) (h2 : Lib.hasPrefix l [45] = m) (hd : ∀ c ∈ s, isDig c) (hp : 0 < s.length) (h200 : s.length ≤ 200)
    (hz : ((((⟨s.toArray⟩ : ByteArray)[0]'(by rw [size_mk]; exact hp)).toNat : Int) == 48) = false) :
    Calls Tryz.prog 78 #[.string ⟨l.toArray⟩] w fun e w' => e = .returned (.int .i64 0) ∧ w' = w := by
  have H1 := Lib.hid h1; clear h1
  have H2 := Lib.hid h2; clear h2
  have HD := Lib.hid hd; clear hd
  have he : (s == []) = false := by rw [beq_eq_false_iff_ne]; intro e; rw [e] at hp; simp at hp
  have he' : s.isEmpty = false := by cases s <;> simp_all
  go_enter Tryz.func78, Tryz.ntmps78
  go_wp2_with fail
  refine (cutPre l _).mono ?_
  rintro e w' ⟨rfl, hw⟩
  rw [H1.out, H2.out]
  subst hw
  have hz2 : decide ((200 : Int) < (s.length : Int)) = false := by simp; omega
  go_wp2_with fail
  go_loop [2, 33] (fun r i => ∃ k : Nat, k ≤ s.length ∧ i = .int .i64 k ∧ r = .int .i64 0) (fun _ i => 1000 - (intOf i).toNat)
  case atStart => exact ⟨0, Nat.zero_le _, rfl, rfl⟩
  case round =>
    obtain ⟨k, hk, rfl, rfl⟩ := hrel
    by_cases hlt : k < s.length
    · have hks : k < (⟨s.toArray⟩ : ByteArray).size := by rw [size_mk]; exact hlt
      have hdk := HD.out s[k] (List.getElem_mem hlt)
      unfold isDig at hdk
      rw [← get_mk s k hks hlt] at hdk
      go_wp2_with fail
      go_round
      case rel => exact ⟨k + 1, by omega, by go_num, rfl⟩
      case measure => simp [intOf]; omega
    · obtain rfl : k = s.length := by omega
      go_wp2_with fail
      go_ret
      exact ⟨rfl, rfl⟩

set_option maxHeartbeats 1000000 in
theorem icheck_zero (w : World) : Calls Tryz.prog 78 #[.string ⟨([48] : List UInt8).toArray⟩] w fun e w' => e = .returned (.int .i64 0) ∧ w' = w := by
  go_enter Tryz.func78, Tryz.ntmps78
  go_wp2_with fail
  refine (cutPre [48] _).mono ?_
  rintro e w' ⟨rfl, hw⟩
  have e1 : Lib.trimPrefix [48] [45] = [48] := by decide
  have e2 : Lib.hasPrefix [48] [45] = false := by decide
  rw [e1, e2]
  clear e1 e2
  subst hw
  have h48 : ((((⟨([48] : List UInt8).toArray⟩ : ByteArray)[0]'(by decide)).toNat : Int) == 48) = true := by decide
  go_wp2_with fail
  go_loop [2, 33] (fun r i => ∃ k : Nat, k ≤ 1 ∧ i = .int .i64 k ∧ r = .int .i64 0) (fun _ i => 1000 - (intOf i).toNat)
  case atStart => exact ⟨0, Nat.zero_le _, rfl, rfl⟩
  case round =>
    obtain ⟨k, hk, rfl, rfl⟩ := hrel
    have : k = 0 ∨ k = 1 := by omega
    rcases this with rfl | rfl
    · go_wp2_with fail
      go_round
      case rel => exact ⟨1, by omega, by go_num, rfl⟩
      case measure => simp [intOf]
    · go_wp2_with fail
      go_ret
      exact ⟨rfl, rfl⟩
theorem icheck_itoa (n : Int) (w : World) (h1 : -9223372036854775807 ≤ n) (h2 : n ≤ 9223372036854775807) : Calls Tryz.prog 78 #[strV (Lib.itoa n)] w fun e w' => e = .returned (.int .i64 0) ∧ w' = w := by
  by_cases h : n = 0
  · subst h; rw [itoa_zero]; exact icheck_zero w
  · obtain ⟨c, r, hc, hne, _⟩ := dec_head (u := n.natAbs) (by omega)
    have hl := itoa_short (n := n) (by omega) h2
    rw [itoa_eq, List.length_append] at hl
    refine icheck_walk (Lib.itoa n) (Lib.decDigits n.natAbs) _ w (trim_itoa n) (pre_itoa n) (dec_dig _) (dec_pos _) (by omega) ?_
    rw [beq_eq_false_iff_ne]
    intro e
    have hz0 : 0 < (⟨(Lib.decDigits n.natAbs).toArray⟩ : ByteArray).size := by rw [size_mk]; exact dec_pos _
    have hx : (⟨(Lib.decDigits n.natAbs).toArray⟩ : ByteArray)[0]'hz0 = c := by rw [get_mk _ 0 hz0 (dec_pos _)]; simp [hc]
    rw [hx] at e
    omega

/-! ### integer.Compare with one -/
theorem signOne (w : World) : Calls Tryz.prog 49 #[.string ⟨#[49]⟩] w fun e w' => e = .returned (.int .i64 1) ∧ w' = w := by
  have := sign_itoa 1 w
  rw [itoa_one] at this
  exact this
theorem trimOne (w : World) : Calls Tryz.prog 130 #[.string ⟨#[49]⟩, .string ⟨#[45]⟩] w fun e w' => e = .returned (.string ⟨#[49]⟩) ∧ w' = w := trimPre [49] w
theorem cmpOne (s : List UInt8) (w : World) : Calls Tryz.prog 131 #[.string ⟨s.toArray⟩, .string ⟨#[49]⟩] w fun e w' => e = .returned (.int .i64 (Lib.compareBytes s [49])) ∧ w' = w := Tryz.strings_Compare ⟨s.toArray⟩ ⟨#[49]⟩ w
set_option maxHeartbeats 1000000 in
theorem compare_walk (l s : List UInt8) (w : World) (hs : ∀ w, Calls Tryz.prog 49 #[.string ⟨l.toArray⟩] w fun e w' => e = .returned (.int .i64 1) ∧ w' = w) (h1 : Lib.trimPrefix l [45] = s) (hp : 0 < s.length) (h200 : s.length ≤ 200)
    (hc : s.length = 1 → Lib.compareBytes s [49] = 1) : Calls Tryz.prog 79 #[.string ⟨l.toArray⟩, .string ⟨#[49]⟩] w fun e w' => e = .returned (.int .i64 1) ∧ w' = w := by
  have HS := Lib.hid hs; clear hs
  have H1 := Lib.hid h1; clear h1
  have HC := Lib.hid hc; clear hc
  go_enter Tryz.func79, Tryz.ntmps79
  go_wp2_with fail
  refine (HS.out _).mono ?_
  rintro e w' ⟨rfl, hw⟩
  subst hw
  go_wp2_with fail
  refine (signOne _).mono ?_
  rintro e w' ⟨rfl, hw⟩
  subst hw
  go_wp2_with fail
  refine (trimPre l _).mono ?_
  rintro e w' ⟨rfl, hw⟩
  rw [H1.out]
  subst hw
  go_wp2_with fail
  refine (trimOne _).mono ?_
  rintro e w' ⟨rfl, hw⟩
  subst hw
  by_cases h : s.length = 1
  · have hq : (((s.length : Nat) : Int) != 1) = false := by simp [h]
    have HH := Lib.hid h; clear h
    go_wp2_with fail
    refine (cmpOne s _).mono ?_
    rintro e w' ⟨rfl, hw⟩
    rw [HC.out HH.out]
    subst hw
    go_wp2_with fail
    go_ret
    exact ⟨rfl, rfl⟩
  · have hq : (((s.length : Nat) : Int) != 1) = true := by simp; omega
    have hq2 : ¬ (((s.length : Nat) : Int) < 1) := by omega
    go_wp2_with fail
    go_ret
    exact ⟨rfl, rfl⟩
theorem compare_itoa (b : Int) (w : World) (h1 : 2 ≤ b) (h2 : b ≤ 9223372036854775807) : Calls Tryz.prog 79 #[strV (Lib.itoa b), .string ⟨#[49]⟩] w fun e w' => e = .returned (.int .i64 1) ∧ w' = w := by
  have hl := itoa_short (n := b) (by omega) h2
  rw [itoa_eq, List.length_append] at hl
  refine compare_walk (Lib.itoa b) (Lib.decDigits b.natAbs) w (fun w => (sign_itoa b w).mono fun e w' ⟨a, c⟩ => ⟨by rw [a, if_neg (by omega), if_neg (by omega)], c⟩) (trim_itoa b) (dec_pos _) (by omega) ?_
  intro h
  have hb : b.natAbs < 10 := by
    rcases Nat.lt_or_ge b.natAbs 10 with h' | h'
    · exact h'
    · rw [dec_big (by omega), List.length_append, List.length_singleton] at h
      have := dec_pos (b.natAbs / 10)
      omega
  rw [dec_small hb]
  have ht := toNat_dig hb
  have e1 : ¬ (UInt8.ofNat (48 + b.natAbs) < 49) := by rw [UInt8.lt_iff_toNat_lt, ht]; show ¬ (48 + b.natAbs < 49); omega
  have e2 : (49 : UInt8) < UInt8.ofNat (48 + b.natAbs) := by rw [UInt8.lt_iff_toNat_lt, ht]; show 49 < 48 + b.natAbs; omega
  rw [Lib.compareBytes, if_neg e1, if_pos e2]

/-! ### integer.Gcd of short texts -/
set_option maxHeartbeats 1000000 in
theorem iquick_walk (l : List UInt8) (n : Int) (w : World) (hl : l.length ≤ 18) (ha : Lib.atoi l = some n) :
    Calls Tryz.prog 90 #[.string ⟨l.toArray⟩, .int .i64 18] w fun e w' => e = .returned (.tuple #[.int .i64 n, .bool true]) ∧ Kp w w' := by
  have HA := Lib.hid ha; clear ha
  go_enter Tryz.func90, Tryz.ntmps90
  go_wp2_with fail
  refine (Tryz.strconv_Atoi ⟨l.toArray⟩ n (by rw [size_mk]; exact hl) HA.out _).mono ?_
  rintro e w' ⟨rfl, t, hw⟩
  have HK : Hid (Kp w w') := Lib.hid (by rw [hw]; exact Lib.bytesWorld_below w 5 t)
  clear hw
  go_wp2_with fail
  go_region
  go_wp2_with fail
  go_ret2
  exact ⟨rfl, HK.out.then (Kp.drew _)⟩
set_option maxHeartbeats 400000 in
theorem of_any (n : Int) (w : World) (h0 : -9223372036854775808 ≤ n) (h1 : n ≤ 9223372036854775807) (ht : PTab w) : Calls Tryz.prog 20 #[.int .i64 n] w fun e w' => e = .returned (strV (Lib.itoa n)) ∧ Kp w w' := by
  have HT := Lib.hid ht; clear ht
  go_enter Tryz.func20, Tryz.ntmps20
  go_wp2_with fail
  refine (itoa_any n _ h0 h1 HT.out).mono ?_
  rintro e w' ⟨rfl, hk⟩
  have HK := Lib.hid hk; clear hk
  go_wp2_with fail
  go_ret
  exact ⟨rfl, HK.out⟩
set_option maxHeartbeats 400000 in
theorem whole_any (n : Int) (w : World) (h0 : -9223372036854775808 ≤ n) (h1 : n ≤ 9223372036854775807) (ht : PTab w) : Calls Tryz.prog 45 #[.int .i64 n] w fun e w' => e = .returned (strV (Lib.itoa n)) ∧ Kp w w' := by
  have HT := Lib.hid ht; clear ht
  go_enter Tryz.func45, Tryz.ntmps45
  go_wp2_with fail
  refine (of_any n _ h0 h1 HT.out).mono ?_
  rintro e w' ⟨rfl, hk⟩
  have HK := Lib.hid hk; clear hk
  go_wp2_with fail
  go_ret
  exact ⟨rfl, HK.out⟩
set_option maxHeartbeats 1000000 in
theorem gcd_walk (la lb : List UInt8) (n d g : Int) (w : World)
    (qa : ∀ w, Calls Tryz.prog 90 #[.string ⟨la.toArray⟩, .int .i64 18] w fun e w' => e = .returned (.tuple #[.int .i64 n, .bool true]) ∧ Kp w w')
    (qb : ∀ w, Calls Tryz.prog 90 #[.string ⟨lb.toArray⟩, .int .i64 18] w fun e w' => e = .returned (.tuple #[.int .i64 d, .bool true]) ∧ Kp w w')
    (hn : -9223372036854775807 ≤ n) (hn' : n ≤ 9223372036854775807) (hd : -9223372036854775807 ≤ d) (hd' : d ≤ 9223372036854775807) (hgcd : (Int.gcd n d : Int) = g) (ht : PTab w) :
    Calls Tryz.prog 80 #[.string ⟨la.toArray⟩, .string ⟨lb.toArray⟩] w fun e w' => e = .returned (strV (Lib.itoa g)) ∧ Kp w w' := by
  have HA := Lib.hid qa; clear qa
  have HB := Lib.hid qb; clear qb
  have HT := Lib.hid ht; clear ht
  have HGC := Lib.hid hgcd; clear hgcd
  go_enter Tryz.func80, Tryz.ntmps80
  go_wp2_with fail
  refine (HA.out _).mono ?_
  rintro e w1 ⟨rfl, hk1⟩
  have HK1 := Lib.hid hk1; clear hk1
  go_wp2_with fail
  refine (HB.out _).mono ?_
  rintro e w2 ⟨rfl, hk2⟩
  have HK2 : Hid (Kp w w2) := Lib.hid (HK1.out.then hk2); clear hk2
  go_wp2_with fail
  go_loopw [5, 7] (fun a b wr => ∃ x y : Int, a = .int .i64 x ∧ b = .int .i64 y ∧ (Int.gcd x y : Int) = g ∧ -9223372036854775807 ≤ x ∧ x ≤ 9223372036854775807 ∧ -9223372036854775807 ≤ y ∧ y ≤ 9223372036854775807 ∧ Kp w wr) (fun _ b _ => (intOf b).natAbs)
  case atStart => exact ⟨n, d, rfl, rfl, HGC.out, by omega, by omega, by omega, by omega, HK2.out⟩
  case round =>
    obtain ⟨x, y, rfl, rfl, hg, hx1, hx2, hy1, hy2, hk⟩ := hrel
    have HG := Lib.hid hg; clear hg
    have HK := Lib.hid hk; clear hk
    by_cases hy : y = 0
    · subst hy
      have hg0 : (0 : Int) ≤ g := by have := HG.out; omega
      have hxg : x = g ∨ x = -g := by have := HG.out; rw [Int.gcd_zero_right] at this; omega
      clear HG
      rcases hxg with rfl | rfl
      · have HM : Hid (max x (-x) = x) := Lib.hid (by omega)
        go_wp2_with fail
        refine (of_any (max x (-x)) _ (by omega) (by omega) (HT.out.kp HK.out)).mono ?_
        rintro e w' ⟨rfl, hk⟩
        rw [HM.out]
        have HK3 := Lib.hid (HK.out.then hk); clear hk
        go_wp2_with fail
        go_ret
        exact ⟨rfl, HK3.out⟩
      · have HM : Hid (max (-g) g = g) := Lib.hid (by omega)
        go_wp2_with fail
        refine (of_any (max (-g) g) _ (by omega) (by omega) (HT.out.kp HK.out)).mono ?_
        rintro e w' ⟨rfl, hk⟩
        rw [HM.out]
        have HK3 := Lib.hid (HK.out.then hk); clear hk
        go_wp2_with fail
        go_ret
        exact ⟨rfl, HK3.out⟩
    · have hy0 : (y != 0) = true := by simpa using hy
      have hyf : (y == 0) = false := by simpa using hy
      go_wp2_with fail
      go_region
      go_wp2_with fail
      go_roundw
      case rel => exact ⟨y, x.tmod y, rfl, rfl, (gcd_step x y).trans HG.out, hy1, hy2, (tmod_bd x y hx1 hx2).1, (tmod_bd x y hx1 hx2).2, HK.out.then (Kp.drew _)⟩
      case measure => simp only [intOf]; exact tmod_lt x y hy
end Go.Proofs.YtobknfkobcbnoaaGreatDoor
