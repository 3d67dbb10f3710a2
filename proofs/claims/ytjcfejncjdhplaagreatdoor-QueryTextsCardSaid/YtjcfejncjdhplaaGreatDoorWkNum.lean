/-
  klippe/rational.Compare and Sign, at the texts of small numbers.
-/
import Derived.Test.YtjcfejncjdhplaaGreatDoorWkQuick
import Derived.Lib.AtoiErrMem
set_option linter.unusedSectionVars false
set_option linter.unusedVariables false
set_option linter.unusedSimpArgs false
namespace Go.Proofs.YtjcfejncjdhplaaGreatDoor
open Go.RowKit Go Klp
abbrev strV (l : List UInt8) : Value := .string ⟨l.toArray⟩
structure Sm (q : Rat) : Prop where
  lo : -1000000000 < q.num
  hi : q.num < 1000000000
  den : q.den < 1000000000
end Go.Proofs.YtjcfejncjdhplaaGreatDoor
namespace Go.Proofs.YtjcfejncjdhplaaGreatDoor
open Go.RowKit Go Klp
theorem indexOne (l : List UInt8) (w : World) : Calls Tryz.prog 135 #[.string ⟨l.toArray⟩, .string ⟨#[47]⟩] w fun e w' => e = .returned (.int .i64 (Lib.indexByte l 47)) ∧ w' = w :=
  Tryz.stringslite_Index_one ⟨l.toArray⟩ 47 w
set_option maxHeartbeats 400000 in
theorem cutIn_none (l : List UInt8) (w : World) (h : Lib.indexByte l 47 = -1) : Calls Tryz.prog 104 #[.string ⟨l.toArray⟩, .string ⟨#[47]⟩] w fun e w' => e = .returned (.tuple #[.string ⟨l.toArray⟩, .string ⟨#[]⟩, .bool false]) ∧ Kp w w' := by
  have H := Lib.hid h; clear h
  go_enter Tryz.func104, Tryz.ntmps104
  go_wp2_with fail
  refine (indexOne l _).mono ?_
  rintro e w' ⟨rfl, hw⟩
  rw [H.out]
  subst hw
  go_wp2_with fail
  go_ret3
  exact ⟨rfl, Kp.refl _⟩
set_option maxHeartbeats 400000 in
theorem cutIn_at (l : List UInt8) (k : Nat) (w : World) (h : Lib.indexByte l 47 = (k : Int)) (hk : k < l.length) (hl : l.length ≤ 1000) : Calls Tryz.prog 104 #[.string ⟨l.toArray⟩, .string ⟨#[47]⟩] w fun e w' => e = .returned (.tuple #[.string ⟨(l.take k).toArray⟩, .string ⟨(l.drop (k + 1)).toArray⟩, .bool true]) ∧ Kp w w' := by
  have H := Lib.hid h; clear h
  go_enter Tryz.func104, Tryz.ntmps104
  go_wp2_with fail
  refine (indexOne l _).mono ?_
  rintro e w' ⟨rfl, hw⟩
  rw [H.out]
  subst hw
  go_wp2_with fail
  go_region
  go_wp2_with fail
  go_ret3
  refine ⟨?_, Kp.drew _⟩
  show Ending.returned (.tuple #[.string ((⟨l.toArray⟩ : ByteArray).extract 0 k), .string ((⟨l.toArray⟩ : ByteArray).extract (k + 1) l.length), .bool true]) = _
  have e1 : (⟨l.toArray⟩ : ByteArray).extract 0 k = ⟨(l.take k).toArray⟩ := by apply ByteArray.ext; simp [ByteArray.data_extract]
  have e2 : (⟨l.toArray⟩ : ByteArray).extract (k + 1) l.length = ⟨(l.drop (k + 1)).toArray⟩ := by apply ByteArray.ext; simp [ByteArray.data_extract]; exact List.take_of_length_le (by simp)
  rw [e1, e2]
set_option maxHeartbeats 400000 in
theorem sign_walk (l : List UInt8) (w : World) (b : Bool) (h : Lib.hasPrefix l [45] = b) (hz : (l == [48]) = false) : Calls Tryz.prog 106 #[.string ⟨l.toArray⟩] w fun e w' => e = .returned (.int .i64 (if b then -1 else 1)) ∧ w' = w := by
  have H := Lib.hid h; clear h
  go_enter Tryz.func106, Tryz.ntmps106
  go_wp2_with fail
  refine (Tryz.strings_HasPrefix ⟨l.toArray⟩ ⟨#[45]⟩ _).mono ?_
  rintro e w' ⟨rfl, hw⟩
  rw [H.out]
  subst hw
  cases b
  all_goals
    go_wp2_with fail
    go_ret
    exact ⟨rfl, rfl⟩
set_option maxHeartbeats 400000 in
theorem cut_none (l : List UInt8) (w : World) (h : Lib.indexByte l 47 = -1) : Calls Tryz.prog 60 #[.string ⟨l.toArray⟩, .string ⟨#[47]⟩] w fun e w' => e = .returned (.tuple #[.string ⟨l.toArray⟩, .string ⟨#[]⟩, .bool false]) ∧ Kp w w' := by
  have H := Lib.hid h; clear h
  go_enter Tryz.func60, Tryz.ntmps60
  go_wp2_with fail
  refine (cutIn_none l _ H.out).mono ?_
  rintro e w' ⟨rfl, hk⟩
  have HK := Lib.hid hk; clear hk
  go_wp2_with fail
  go_ret3
  exact ⟨rfl, HK.out⟩
set_option maxHeartbeats 400000 in
theorem cut_at (p q : List UInt8) (w : World) (h : Lib.indexByte (p ++ 47 :: q) 47 = (p.length : Int)) (hl : p.length + q.length < 1000) : Calls Tryz.prog 60 #[.string ⟨(p ++ 47 :: q).toArray⟩, .string ⟨#[47]⟩] w fun e w' => e = .returned (.tuple #[.string ⟨p.toArray⟩, .string ⟨q.toArray⟩, .bool true]) ∧ Kp w w' := by
  have H := Lib.hid h; clear h
  obtain ⟨l, hl'⟩ : ∃ l, l = p ++ 47 :: q := ⟨_, rfl⟩
  have HL := Lib.hid hl'
  rw [← hl']
  clear hl'
  go_enter Tryz.func60, Tryz.ntmps60
  go_wp2_with fail
  refine (cutIn_at l p.length _ (by rw [HL.out]; exact H.out) (by rw [HL.out]; simp) (by rw [HL.out]; simp; omega)).mono ?_
  rintro e w' ⟨rfl, hk⟩
  have e1 : l.take p.length = p := by rw [HL.out]; simp
  have e2 : l.drop (p.length + 1) = q := by rw [HL.out]; simp
  rw [e1, e2]
  clear e1 e2
  have HK := Lib.hid hk; clear hk
  go_wp2_with fail
  go_ret3
  exact ⟨rfl, HK.out⟩
set_option maxHeartbeats 400000 in
theorem sign_zero (w : World) : Calls Tryz.prog 106 #[.string ⟨([48] : List UInt8).toArray⟩] w fun e w' => e = .returned (.int .i64 0) ∧ w' = w := by
  go_enter Tryz.func106, Tryz.ntmps106
  go_wp2_with fail
  go_ret
  exact ⟨rfl, rfl⟩
theorem pre_itoa (n : Int) : Lib.hasPrefix (Lib.itoa n) [45] = decide (n < 0) := by
  by_cases h : n < 0
  · rw [itoa_neg' h, decide_eq_true h]; rfl
  · rw [itoa_pos' h, decide_eq_false h]
    cases hl : Lib.decDigits n.natAbs with
    | nil => rfl
    | cons c r =>
      have hc := dec_dig n.natAbs c (by rw [hl]; exact List.mem_cons_self ..)
      unfold isDig at hc
      have : ((45 : UInt8) == c) = false := by rw [beq_eq_false_iff_ne]; rintro rfl; exact absurd hc.1 (by decide)
      simp [Lib.hasPrefix, List.isPrefixOf, this]
theorem itoa_is_zero (n : Int) : (Lib.itoa n == [48]) = decide (n = 0) := by
  by_cases h : n = 0
  · subst h; rw [itoa_zero]; rfl
  · rw [decide_eq_false h, beq_eq_false_iff_ne]; intro e; rw [← itoa_zero] at e; exact h (itoa_inj e)
theorem itoa_is_one (n : Int) : (Lib.itoa n == [49]) = decide (n = 1) := by
  by_cases h : n = 1
  · subst h; rw [itoa_one]; rfl
  · rw [decide_eq_false h, beq_eq_false_iff_ne]; intro e; rw [← itoa_one] at e; exact h (itoa_inj e)
theorem sign_itoa (n : Int) (w : World) : Calls Tryz.prog 106 #[.string ⟨(Lib.itoa n).toArray⟩] w fun e w' => e = .returned (.int .i64 (if n = 0 then 0 else if n < 0 then -1 else 1)) ∧ w' = w := by
  by_cases h : n = 0
  · subst h; rw [itoa_zero]; exact sign_zero w
  · refine (sign_walk (Lib.itoa n) w (decide (n < 0)) (pre_itoa n) (by rw [itoa_is_zero, decide_eq_false h])).mono fun e w' ⟨h1, h2⟩ => ⟨?_, h2⟩
    rw [h1, if_neg h]
    by_cases hn : n < 0 <;> simp [hn]
end Go.Proofs.YtjcfejncjdhplaaGreatDoor
namespace Go.Proofs.YtjcfejncjdhplaaGreatDoor
open Go.RowKit Go Klp
theorem cutPre (l : List UInt8) (w : World) : Calls Tryz.prog 105 #[.string ⟨l.toArray⟩, .string ⟨#[45]⟩] w fun e w' => e = .returned (.tuple #[.string ⟨(Lib.trimPrefix l [45]).toArray⟩, .bool (Lib.hasPrefix l [45])]) ∧ w' = w :=
  Tryz.strings_CutPrefix ⟨l.toArray⟩ ⟨#[45]⟩ w
theorem trimPre (l : List UInt8) (w : World) : Calls Tryz.prog 107 #[.string ⟨l.toArray⟩, .string ⟨#[45]⟩] w fun e w' => e = .returned (.string ⟨(Lib.trimPrefix l [45]).toArray⟩) ∧ w' = w :=
  Tryz.strings_TrimPrefix ⟨l.toArray⟩ ⟨#[45]⟩ w
theorem trim_itoa (n : Int) : Lib.trimPrefix (Lib.itoa n) [45] = Lib.decDigits n.natAbs := by
  unfold Lib.trimPrefix
  rw [pre_itoa]
  by_cases h : n < 0
  · rw [decide_eq_true h, if_pos rfl, itoa_neg' h]; rfl
  · rw [decide_eq_false h, itoa_pos' h]; rfl
theorem signOne (w : World) : Calls Tryz.prog 106 #[.string ⟨#[49]⟩] w fun e w' => e = .returned (.int .i64 1) ∧ w' = w := by
  have := sign_itoa 1 w
  rw [itoa_one] at this
  exact this
theorem trimOne (w : World) : Calls Tryz.prog 107 #[.string ⟨#[49]⟩, .string ⟨#[45]⟩] w fun e w' => e = .returned (.string ⟨#[49]⟩) ∧ w' = w := trimPre [49] w
theorem cmpOne (s : List UInt8) (w : World) : Calls Tryz.prog 108 #[.string ⟨s.toArray⟩, .string ⟨#[49]⟩] w fun e w' => e = .returned (.int .i64 (Lib.compareBytes s [49])) ∧ w' = w := Tryz.strings_Compare ⟨s.toArray⟩ ⟨#[49]⟩ w
set_option maxHeartbeats 1000000 in
theorem compare_walk (l s : List UInt8) (w : World) (hs : ∀ w, Calls Tryz.prog 106 #[.string ⟨l.toArray⟩] w fun e w' => e = .returned (.int .i64 1) ∧ w' = w) (h1 : Lib.trimPrefix l [45] = s) (hp : 0 < s.length) (h200 : s.length ≤ 200)
    (hc : s.length = 1 → Lib.compareBytes s [49] = 1) : Calls Tryz.prog 62 #[.string ⟨l.toArray⟩, .string ⟨#[49]⟩] w fun e w' => e = .returned (.int .i64 1) ∧ w' = w := by
  have HS := Lib.hid hs; clear hs
  have H1 := Lib.hid h1; clear h1
  have HC := Lib.hid hc; clear hc
  go_enter Tryz.func62, Tryz.ntmps62
  go_wp2_with fail
  refine (HS.out _).mono ?_
  rintro e w' ⟨rfl, hw⟩
  subst hw
  go_wp2_with fail
  refine (signOne _).mono ?_
  rintro e w' ⟨rfl, hw⟩
  subst hw
  go_wp2_with fail
  refine (trimPre l _).mono ?_
  rintro e w' ⟨rfl, hw⟩
  rw [H1.out]
  subst hw
  go_wp2_with fail
  refine (trimOne _).mono ?_
  rintro e w' ⟨rfl, hw⟩
  subst hw
  by_cases h : s.length = 1
  · have hq : (((s.length : Nat) : Int) != 1) = false := by simp [h]
    have HH := Lib.hid h; clear h
    go_wp2_with fail
    refine (cmpOne s _).mono ?_
    rintro e w' ⟨rfl, hw⟩
    rw [HC.out HH.out]
    subst hw
    go_wp2_with fail
    go_ret
    exact ⟨rfl, rfl⟩
  · have hq : (((s.length : Nat) : Int) != 1) = true := by simp; omega
    have hq2 : ¬ (((s.length : Nat) : Int) < 1) := by omega
    go_wp2_with fail
    go_ret
    exact ⟨rfl, rfl⟩
set_option maxHeartbeats 1000000 in
theorem iquick_walk (l : List UInt8) (n : Int) (w : World) (hl : l.length ≤ 18) (ha : Lib.atoi l = some n) :
    Calls Tryz.prog 109 #[.string ⟨l.toArray⟩, .int .i64 18] w fun e w' => e = .returned (.tuple #[.int .i64 n, .bool true]) ∧ Kp w w' := by
  have HA := Lib.hid ha; clear ha
  go_enter Tryz.func109, Tryz.ntmps109
  go_wp2_with fail
  refine (Tryz.strconv_Atoi ⟨l.toArray⟩ n (by rw [size_mk]; exact hl) HA.out _).mono ?_
  rintro e w' ⟨rfl, t, hw⟩
  have HK : Hid (Kp w w') := Lib.hid (by rw [hw]; exact Lib.bytesWorld_below w 5 t)
  clear hw
  go_wp2_with fail
  go_region
  go_wp2_with fail
  go_ret2
  exact ⟨rfl, HK.out.then (Kp.drew _)⟩
set_option maxHeartbeats 400000 in
theorem of_any (n : Int) (w : World) (h0 : -9223372036854775808 ≤ n) (h1 : n ≤ 9223372036854775807) (ht : PTab w) : Calls Tryz.prog 110 #[.int .i64 n] w fun e w' => e = .returned (strV (Lib.itoa n)) ∧ Kp w w' := by
  have HT := Lib.hid ht; clear ht
  go_enter Tryz.func110, Tryz.ntmps110
  go_wp2_with fail
  refine (itoa_any n _ h0 h1 HT.out).mono ?_
  rintro e w' ⟨rfl, hk⟩
  have HK := Lib.hid hk; clear hk
  go_wp2_with fail
  go_ret
  exact ⟨rfl, HK.out⟩
set_option maxHeartbeats 1000000 in
theorem gcd_walk (la lb : List UInt8) (n d g : Int) (w : World)
    (qa : ∀ w, Calls Tryz.prog 109 #[.string ⟨la.toArray⟩, .int .i64 18] w fun e w' => e = .returned (.tuple #[.int .i64 n, .bool true]) ∧ Kp w w')
    (qb : ∀ w, Calls Tryz.prog 109 #[.string ⟨lb.toArray⟩, .int .i64 18] w fun e w' => e = .returned (.tuple #[.int .i64 d, .bool true]) ∧ Kp w w')
    (hn : -9223372036854775807 ≤ n) (hn' : n ≤ 9223372036854775807) (hd : -9223372036854775807 ≤ d) (hd' : d ≤ 9223372036854775807) (hgcd : (Int.gcd n d : Int) = g) (ht : PTab w) :
    Calls Tryz.prog 63 #[.string ⟨la.toArray⟩, .string ⟨lb.toArray⟩] w fun e w' => e = .returned (strV (Lib.itoa g)) ∧ Kp w w' := by
  have HA := Lib.hid qa; clear qa
  have HB := Lib.hid qb; clear qb
  have HT := Lib.hid ht; clear ht
  have HGC := Lib.hid hgcd; clear hgcd
  go_enter Tryz.func63, Tryz.ntmps63
  go_wp2_with fail
  refine (HA.out _).mono ?_
  rintro e w1 ⟨rfl, hk1⟩
  have HK1 := Lib.hid hk1; clear hk1
  go_wp2_with fail
  refine (HB.out _).mono ?_
  rintro e w2 ⟨rfl, hk2⟩
  have HK2 : Hid (Kp w w2) := Lib.hid (HK1.out.then hk2); clear hk2
  go_wp2_with fail
  go_loopw [5, 7] (fun a b wr => ∃ x y : Int, a = .int .i64 x ∧ b = .int .i64 y ∧ (Int.gcd x y : Int) = g ∧ -9223372036854775807 ≤ x ∧ x ≤ 9223372036854775807 ∧ -9223372036854775807 ≤ y ∧ y ≤ 9223372036854775807 ∧ Kp w wr) (fun _ b _ => (intOf b).natAbs)
  case atStart => exact ⟨n, d, rfl, rfl, HGC.out, by omega, by omega, by omega, by omega, HK2.out⟩
  case round =>
    obtain ⟨x, y, rfl, rfl, hg, hx1, hx2, hy1, hy2, hk⟩ := hrel
    have HG := Lib.hid hg; clear hg
    have HK := Lib.hid hk; clear hk
    by_cases hy : y = 0
    · subst hy
      have hg0 : (0 : Int) ≤ g := by have := HG.out; omega
      have hxg : x = g ∨ x = -g := by have := HG.out; rw [Int.gcd_zero_right] at this; omega
      clear HG
      rcases hxg with rfl | rfl
      · have HM : Hid (max x (-x) = x) := Lib.hid (by omega)
        go_wp2_with fail
        refine (of_any (max x (-x)) _ (by omega) (by omega) (HT.out.kp HK.out)).mono ?_
        rintro e w' ⟨rfl, hk⟩
        rw [HM.out]
        have HK3 := Lib.hid (HK.out.then hk); clear hk
        go_wp2_with fail
        go_ret
        exact ⟨rfl, HK3.out⟩
      · have HM : Hid (max (-g) g = g) := Lib.hid (by omega)
        go_wp2_with fail
        refine (of_any (max (-g) g) _ (by omega) (by omega) (HT.out.kp HK.out)).mono ?_
        rintro e w' ⟨rfl, hk⟩
        rw [HM.out]
        have HK3 := Lib.hid (HK.out.then hk); clear hk
        go_wp2_with fail
        go_ret
        exact ⟨rfl, HK3.out⟩
    · have hy0 : (y != 0) = true := by simpa using hy
      have hyf : (y == 0) = false := by simpa using hy
      go_wp2_with fail
      go_region
      go_wp2_with fail
      go_roundw
      case rel => exact ⟨y, x.tmod y, rfl, rfl, (gcd_step x y).trans HG.out, hy1, hy2, (tmod_bd x y hx1 hx2).1, (tmod_bd x y hx1 hx2).2, HK.out.then (Kp.drew _)⟩
      case measure => simp only [intOf]; exact tmod_lt x y hy
end Go.Proofs.YtjcfejncjdhplaaGreatDoor
namespace Go.Proofs.YtjcfejncjdhplaaGreatDoor
open Go.RowKit Go Klp
set_option maxHeartbeats 400000 in
theorem rOfInt (n : Int) (w : World) (h0 : -9223372036854775808 ≤ n) (h1 : n ≤ 9223372036854775807) (ht : PTab w) : Calls Tryz.prog 116 #[.int .i64 n] w fun e w' => e = .returned (strV (Lib.itoa n)) ∧ Kp w w' := by
  have HT := Lib.hid ht; clear ht
  go_enter Tryz.func116, Tryz.ntmps116
  go_wp2_with fail
  refine (itoa_any n _ h0 h1 HT.out).mono ?_
  rintro e w' ⟨rfl, hk⟩
  have HK := Lib.hid hk; clear hk
  go_wp2_with fail
  go_ret
  exact ⟨rfl, HK.out⟩
end Go.Proofs.YtjcfejncjdhplaaGreatDoor
namespace Go.Proofs.YtjcfejncjdhplaaGreatDoor
open Go.RowKit Go Klp
theorem Sm.neg {a : Rat} (h : Sm a) : Sm (-a) := by
  obtain ⟨h1, h2, h3⟩ := h
  refine ⟨?_, ?_, h3⟩
  · show -1000000000 < -a.num; omega
  · show -a.num < 1000000000; omega
end Go.Proofs.YtjcfejncjdhplaaGreatDoor
namespace Go.Proofs.YtjcfejncjdhplaaGreatDoor
open Go.RowKit Go Klp
end Go.Proofs.YtjcfejncjdhplaaGreatDoor
