/-
  klippe/integer, and the cutting of numbers: what is wanted of the texts of small integers.
-/
import Derived.Test.YtobknfkobcbnoaaGreatDoorWkRat
import Derived.Lib.AtoiErrMem
set_option linter.unusedSectionVars false
set_option linter.unusedVariables false
set_option linter.unusedSimpArgs false
namespace Go.Proofs.YtobknfkobcbnoaaGreatDoor
open Go.RowKit Go Klp

theorem indexOne (l : List UInt8) (w : World) : Calls Tryz.prog 176 #[.string ⟨l.toArray⟩, .string ⟨#[47]⟩] w fun e w' => e = .returned (.int .i64 (Lib.indexByte l 47)) ∧ w' = w :=
  Tryz.stringslite_Index_one ⟨l.toArray⟩ 47 w
set_option maxHeartbeats 400000 in
theorem cutIn_none (l : List UInt8) (w : World) (h : Lib.indexByte l 47 = -1) : Calls Tryz.prog 128 #[.string ⟨l.toArray⟩, .string ⟨#[47]⟩] w fun e w' => e = .returned (.tuple #[.string ⟨l.toArray⟩, .string ⟨#[]⟩, .bool false]) ∧ Kp w w' := by
  have H := Lib.hid h; clear h
  go_enter Tryz.func128, Tryz.ntmps128
  go_wp2_with fail
  refine (indexOne l _).mono ?_
  rintro e w' ⟨rfl, hw⟩
  rw [H.out]
  subst hw
  go_wp2_with fail
  go_ret3
  exact ⟨rfl, Kp.refl _⟩
set_option maxHeartbeats 400000 in
theorem cutIn_at (l : List UInt8) (k : Nat) (w : World) (h : Lib.indexByte l 47 = (k : Int)) (hk : k < l.length) (hl : l.length ≤ 1000) : Calls Tryz.prog 128 #[.string ⟨l.toArray⟩, .string ⟨#[47]⟩] w fun e w' => e = .returned (.tuple #[.string ⟨(l.take k).toArray⟩, .string ⟨(l.drop (k + 1)).toArray⟩, .bool true]) ∧ Kp w w' := by
  have H := Lib.hid h; clear h
  go_enter Tryz.func128, Tryz.ntmps128
  go_wp2_with fail
  refine (indexOne l _).mono ?_
  rintro e w' ⟨rfl, hw⟩
  rw [H.out]
  subst hw
  go_wp2_with fail
  go_region
  go_wp2_with fail
  go_ret3
  refine ⟨?_, Kp.drew _⟩
  show Ending.returned (.tuple #[.string ((⟨l.toArray⟩ : ByteArray).extract 0 k), .string ((⟨l.toArray⟩ : ByteArray).extract (k + 1) l.length), .bool true]) = _
  have e1 : (⟨l.toArray⟩ : ByteArray).extract 0 k = ⟨(l.take k).toArray⟩ := by apply ByteArray.ext; simp [ByteArray.data_extract]
  have e2 : (⟨l.toArray⟩ : ByteArray).extract (k + 1) l.length = ⟨(l.drop (k + 1)).toArray⟩ := by apply ByteArray.ext; simp [ByteArray.data_extract]; exact List.take_of_length_le (by simp)
  rw [e1, e2]
set_option maxHeartbeats 400000 in
theorem sign_walk (l : List UInt8) (w : World) (b : Bool) (h : Lib.hasPrefix l [45] = b) (hz : (l == [48]) = false) : Calls Tryz.prog 49 #[.string ⟨l.toArray⟩] w fun e w' => e = .returned (.int .i64 (if b then -1 else 1)) ∧ w' = w := by
  have H := Lib.hid h; clear h
  go_enter Tryz.func49, Tryz.ntmps49
  go_wp2_with fail
  refine (Tryz.strings_HasPrefix ⟨l.toArray⟩ ⟨#[45]⟩ _).mono ?_
  rintro e w' ⟨rfl, hw⟩
  rw [H.out]
  subst hw
  cases b
  all_goals
    go_wp2_with fail
    go_ret
    exact ⟨rfl, rfl⟩
set_option maxHeartbeats 400000 in
theorem cut_none (l : List UInt8) (w : World) (h : Lib.indexByte l 47 = -1) : Calls Tryz.prog 77 #[.string ⟨l.toArray⟩, .string ⟨#[47]⟩] w fun e w' => e = .returned (.tuple #[.string ⟨l.toArray⟩, .string ⟨#[]⟩, .bool false]) ∧ Kp w w' := by
  have H := Lib.hid h; clear h
  go_enter Tryz.func77, Tryz.ntmps77
  go_wp2_with fail
  refine (cutIn_none l _ H.out).mono ?_
  rintro e w' ⟨rfl, hk⟩
  have HK := Lib.hid hk; clear hk
  go_wp2_with fail
  go_ret3
  exact ⟨rfl, HK.out⟩
set_option maxHeartbeats 400000 in
theorem cut_at (p q : List UInt8) (w : World) (h : Lib.indexByte (p ++ 47 :: q) 47 = (p.length : Int)) (hl : p.length + q.length < 1000) : Calls Tryz.prog 77 #[.string ⟨(p ++ 47 :: q).toArray⟩, .string ⟨#[47]⟩] w fun e w' => e = .returned (.tuple #[.string ⟨p.toArray⟩, .string ⟨q.toArray⟩, .bool true]) ∧ Kp w w' := by
  have H := Lib.hid h; clear h
  obtain ⟨l, hl'⟩ : ∃ l, l = p ++ 47 :: q := ⟨_, rfl⟩
  have HL := Lib.hid hl'
  rw [← hl']
  clear hl'
  go_enter Tryz.func77, Tryz.ntmps77
  go_wp2_with fail
  refine (cutIn_at l p.length _ (by rw [HL.out]; exact H.out) (by rw [HL.out]; simp) (by rw [HL.out]; simp; omega)).mono ?_
  rintro e w' ⟨rfl, hk⟩
  have e1 : l.take p.length = p := by rw [HL.out]; simp
  have e2 : l.drop (p.length + 1) = q := by rw [HL.out]; simp
  rw [e1, e2]
  clear e1 e2
  have HK := Lib.hid hk; clear hk
  go_wp2_with fail
  go_ret3
  exact ⟨rfl, HK.out⟩
set_option maxHeartbeats 400000 in
theorem sign_zero (w : World) : Calls Tryz.prog 49 #[.string ⟨([48] : List UInt8).toArray⟩] w fun e w' => e = .returned (.int .i64 0) ∧ w' = w := by
  go_enter Tryz.func49, Tryz.ntmps49
  go_wp2_with fail
  go_ret
  exact ⟨rfl, rfl⟩
theorem pre_itoa (n : Int) : Lib.hasPrefix (Lib.itoa n) [45] = decide (n < 0) := by
  by_cases h : n < 0
  · rw [itoa_neg' h, decide_eq_true h]; rfl
  · rw [itoa_pos' h, decide_eq_false h]
    cases hl : Lib.decDigits n.natAbs with
    | nil => rfl
    | cons c r =>
      have hc := dec_dig n.natAbs c (by rw [hl]; exact List.mem_cons_self ..)
      unfold isDig at hc
      have : ((45 : UInt8) == c) = false := by rw [beq_eq_false_iff_ne]; rintro rfl; exact absurd hc.1 (by decide)
      simp [Lib.hasPrefix, List.isPrefixOf, this]
theorem itoa_is_zero (n : Int) : (Lib.itoa n == [48]) = decide (n = 0) := by
  by_cases h : n = 0
  · subst h; rw [itoa_zero]; rfl
  · rw [decide_eq_false h, beq_eq_false_iff_ne]; intro e; rw [← itoa_zero] at e; exact h (itoa_inj e)
theorem itoa_is_one (n : Int) : (Lib.itoa n == [49]) = decide (n = 1) := by
  by_cases h : n = 1
  · subst h; rw [itoa_one]; rfl
  · rw [decide_eq_false h, beq_eq_false_iff_ne]; intro e; rw [← itoa_one] at e; exact h (itoa_inj e)
theorem sign_itoa (n : Int) (w : World) : Calls Tryz.prog 49 #[.string ⟨(Lib.itoa n).toArray⟩] w fun e w' => e = .returned (.int .i64 (if n = 0 then 0 else if n < 0 then -1 else 1)) ∧ w' = w := by
  by_cases h : n = 0
  · subst h; rw [itoa_zero]; exact sign_zero w
  · refine (sign_walk (Lib.itoa n) w (decide (n < 0)) (pre_itoa n) (by rw [itoa_is_zero, decide_eq_false h])).mono fun e w' ⟨h1, h2⟩ => ⟨?_, h2⟩
    rw [h1, if_neg h]
    by_cases hn : n < 0 <;> simp [hn]
set_option maxHeartbeats 400000 in
/-- integer.Neg -/
theorem ineg_zero (l : List UInt8) (w : World) (hs : ∀ w, Calls Tryz.prog 49 #[.string ⟨l.toArray⟩] w fun e w' => e = .returned (.int .i64 0) ∧ w' = w) :
    Calls Tryz.prog 57 #[.string ⟨l.toArray⟩] w fun e w' => e = .returned (strV l) ∧ w' = w := by
  have HS := Lib.hid hs; clear hs
  go_enter Tryz.func57, Tryz.ntmps57
  go_wp2_with fail
  refine (HS.out _).mono ?_
  rintro e w' ⟨rfl, hw⟩
  subst hw
  go_wp2_with fail
  go_ret
  exact ⟨rfl, rfl⟩
set_option maxHeartbeats 400000 in
theorem ineg_plus (l : List UInt8) (w : World) (hl : l.length ≤ 1000) (hs : ∀ w, Calls Tryz.prog 49 #[.string ⟨l.toArray⟩] w fun e w' => e = .returned (.int .i64 1) ∧ w' = w) :
    Calls Tryz.prog 57 #[.string ⟨l.toArray⟩] w fun e w' => e = .returned (strV (45 :: l)) ∧ w' = w := by
  have HS := Lib.hid hs; clear hs
  have a1 := fun w => run_string_add_sum (P := Tryz.prog) (w := w) ⟨#[45]⟩ ⟨l.toArray⟩ (by simp [ByteArray.size]; omega)
  go_enter Tryz.func57, Tryz.ntmps57
  go_wp2_with fail
  refine (HS.out _).mono ?_
  rintro e w' ⟨rfl, hw⟩
  subst hw
  go_wp2_with fail
  go_ret
  refine ⟨?_, rfl⟩
  show Ending.returned (.string (⟨#[45]⟩ ++ ⟨l.toArray⟩)) = _
  congr 2
set_option maxHeartbeats 400000 in
theorem ineg_minus (l r : List UInt8) (w : World) (hlr : l = 45 :: r) (hl : l.length ≤ 1000) (hs : ∀ w, Calls Tryz.prog 49 #[.string ⟨l.toArray⟩] w fun e w' => e = .returned (.int .i64 (-1)) ∧ w' = w) :
    Calls Tryz.prog 57 #[.string ⟨l.toArray⟩] w fun e w' => e = .returned (strV r) ∧ w' = w := by
  have HS := Lib.hid hs; clear hs
  have h2 : 0 < l.length := by rw [hlr]; simp
  have HL := Lib.hid hlr; clear hlr
  go_enter Tryz.func57, Tryz.ntmps57
  go_wp2_with fail
  refine (HS.out _).mono ?_
  rintro e w' ⟨rfl, hw⟩
  subst hw
  go_wp2_with fail
  go_ret
  refine ⟨?_, rfl⟩
  show Ending.returned (.string ((⟨l.toArray⟩ : ByteArray).extract 1 l.length)) = _
  rw [HL.out]
  congr 2
  apply ByteArray.ext
  simp [ByteArray.data_extract]
theorem itoa_short {n : Int} (h1 : -9223372036854775808 ≤ n) (h2 : n ≤ 9223372036854775807) : (Lib.itoa n).length ≤ 21 := Lib.itoa_length_le n h1 h2
theorem ineg_itoa (n : Int) (w : World) (h1 : -9223372036854775807 ≤ n) (h2 : n ≤ 9223372036854775807) : Calls Tryz.prog 57 #[strV (Lib.itoa n)] w fun e w' => e = .returned (strV (Lib.itoa (-n))) ∧ w' = w := by
  have hs := itoa_short (n := n) (by omega) h2
  by_cases h : n = 0
  · subst h
    exact ineg_zero _ w fun w => sign_itoa 0 w
  · by_cases hn : n < 0
    · have e : Lib.itoa n = 45 :: Lib.itoa (-n) := by rw [itoa_neg' hn, itoa_pos' (by omega)]; congr 2; omega
      refine ineg_minus _ _ w e (by omega) fun w => (sign_itoa n w).mono fun e w' ⟨a, b⟩ => ⟨?_, b⟩
      rw [a, if_neg h, if_pos hn]
    · have e : Lib.itoa (-n) = 45 :: Lib.itoa n := by rw [itoa_neg' (by omega), itoa_pos' hn]; congr 2; omega
      rw [e]
      refine ineg_plus _ w (by omega) fun w => (sign_itoa n w).mono fun e w' ⟨a, b⟩ => ⟨?_, b⟩
      rw [a, if_neg h, if_neg hn]
end Go.Proofs.YtobknfkobcbnoaaGreatDoor
