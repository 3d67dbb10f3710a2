/-
  klippe/klipperef01 and klipperef02.Right, Sign, Sub, Compare at the texts of small numbers.
-/
import Derived.Test.YtjcfejncjdhplaaGreatDoorWkNum
set_option linter.unusedSectionVars false
set_option linter.unusedVariables false
set_option linter.unusedSimpArgs false
namespace Go.Proofs.YtjcfejncjdhplaaGreatDoor
open Go.RowKit Go Klp
end Go.Proofs.YtjcfejncjdhplaaGreatDoor
namespace Go.Proofs.YtjcfejncjdhplaaGreatDoor
open Go.RowKit Go Klp
set_option maxHeartbeats 400000 in
theorem split_minus (l r : List UInt8) (w : World) (hlr : l = 45 :: r) (hl : l.length ≤ 1000) : Calls Tryz.prog 95 #[.string ⟨l.toArray⟩] w fun e w' => e = .returned (.tuple #[.bool true, .string ⟨r.toArray⟩]) ∧ Kp w w' := by
  have h2 : 0 < l.length := by rw [hlr]; simp
  have h0 : 0 < (⟨l.toArray⟩ : ByteArray).size := by rw [size_mk]; exact h2
  have h45 : ((((⟨l.toArray⟩ : ByteArray)[0]).toNat : Int) == 45) = true := by
    rw [get_mk l 0 h0 h2]
    simp [hlr]
  have hlen : (0 : Int) < (l.length : Int) := by omega
  have HL := Lib.hid hlr; clear hlr
  go_enter Tryz.func95, Tryz.ntmps95
  go_wp2_with fail
  go_region
  go_wp2_with fail
  go_ret2
  refine ⟨?_, Kp.drew _⟩
  show Ending.returned (.tuple #[.bool true, .string ((⟨l.toArray⟩ : ByteArray).extract 1 l.length)]) = _
  have : (⟨l.toArray⟩ : ByteArray).extract 1 l.length = ⟨r.toArray⟩ := by
    rw [HL.out]
    apply ByteArray.ext
    simp [ByteArray.data_extract]
  rw [this]
set_option maxHeartbeats 400000 in
theorem split_plus (l : List UInt8) (w : World) (hl : l.length ≤ 1000) (hp : 0 < l.length) (h45 : ((((⟨l.toArray⟩ : ByteArray)[0]'(by rw [size_mk]; exact hp)).toNat : Int) == 45) = false) :
    Calls Tryz.prog 95 #[.string ⟨l.toArray⟩] w fun e w' => e = .returned (.tuple #[.bool false, .string ⟨l.toArray⟩]) ∧ w' = w := by
  have h0 : 0 < (⟨l.toArray⟩ : ByteArray).size := by rw [size_mk]; exact hp
  have hlen : (0 : Int) < (l.length : Int) := by omega
  go_enter Tryz.func95, Tryz.ntmps95
  go_wp2_with fail
  go_ret2
  exact ⟨rfl, rfl⟩
theorem dec_not45 (u : Nat) : ((((⟨(Lib.decDigits u).toArray⟩ : ByteArray)[0]'(by rw [size_mk]; exact dec_pos u)).toNat : Int) == 45) = false := by
  have hz0 : 0 < (⟨(Lib.decDigits u).toArray⟩ : ByteArray).size := by rw [size_mk]; exact dec_pos _
  have h := dec_dig u ((Lib.decDigits u)[0]'(dec_pos u)) (List.getElem_mem _)
  unfold isDig at h
  rw [beq_eq_false_iff_ne]
  intro e
  have hx : (⟨(Lib.decDigits u).toArray⟩ : ByteArray)[0]'hz0 = (Lib.decDigits u)[0]'(dec_pos u) := get_mk _ 0 hz0 (dec_pos _)
  rw [hx] at e
  omega
theorem Kp.of_eq' {w w' : World} (h : w' = w) : Kp w w' := h ▸ Kp.refl _
theorem dval_dec (u : Nat) : dval (Lib.decDigits u) = u := dec_val u
set_option maxHeartbeats 400000 in
theorem neg01_one (w : World) : Calls Tryz.prog 164 #[.string ⟨#[49]⟩] w fun e w' => e = .returned (.string ⟨(Lib.itoa (-1)).toArray⟩) ∧ w' = w := by
  have a1 := fun w => run_string_add_sum (P := Tryz.prog) (w := w) ⟨#[45]⟩ ⟨#[49]⟩ (by decide)
  go_enter Tryz.func164, Tryz.ntmps164
  go_wp2_with fail
  refine (split_plus [49] _ (by decide) (by decide) (by decide)).mono ?_
  rintro e w' ⟨rfl, hw⟩
  subst hw
  go_wp2_with fail
  go_ret
  refine ⟨?_, rfl⟩
  have : Lib.itoa (-1) = [45, 49] := by rw [itoa_neg' (by omega)]; show 45 :: Lib.decDigits 1 = _; rw [dec_small (by omega)]; rfl
  rw [this]
  rfl
theorem idxB (l : List UInt8) (w : World) : Calls Tryz.prog 54 #[.string ⟨l.toArray⟩, .int .u8 47] w fun e w' => e = .returned (.int .i64 (Lib.indexByte l 47)) ∧ w' = w := Tryz.strings_IndexByte ⟨l.toArray⟩ 47 w
set_option maxHeartbeats 400000 in
theorem parts02_none (l : List UInt8) (w : World) (h : Lib.indexByte l 47 = -1) : Calls Tryz.prog 52 #[.string ⟨l.toArray⟩] w fun e w' => e = .returned (.tuple #[.string ⟨l.toArray⟩, .string ⟨#[49]⟩]) ∧ Kp w w' := by
  have H := Lib.hid h; clear h
  go_enter Tryz.func52, Tryz.ntmps52
  go_wp2_with fail
  refine (idxB l _).mono ?_
  rintro e w' ⟨rfl, hw⟩
  rw [H.out]
  subst hw
  go_wp2_with fail
  go_ret2
  exact ⟨rfl, Kp.refl _⟩
set_option maxHeartbeats 400000 in
theorem parts02_at (l : List UInt8) (k : Nat) (w : World) (h : Lib.indexByte l 47 = (k : Int)) (hk : k < l.length) (hl : l.length ≤ 1000) : Calls Tryz.prog 52 #[.string ⟨l.toArray⟩] w fun e w' => e = .returned (.tuple #[.string ⟨(l.take k).toArray⟩, .string ⟨(l.drop (k + 1)).toArray⟩]) ∧ Kp w w' := by
  have H := Lib.hid h; clear h
  go_enter Tryz.func52, Tryz.ntmps52
  go_wp2_with fail
  refine (idxB l _).mono ?_
  rintro e w' ⟨rfl, hw⟩
  rw [H.out]
  subst hw
  go_wp2_with fail
  go_region
  go_wp2_with fail
  go_ret2
  refine ⟨?_, Kp.drew _⟩
  show Ending.returned (.tuple #[.string ((⟨l.toArray⟩ : ByteArray).extract 0 k), .string ((⟨l.toArray⟩ : ByteArray).extract (k + 1) l.length)]) = _
  have e1 : (⟨l.toArray⟩ : ByteArray).extract 0 k = ⟨(l.take k).toArray⟩ := by apply ByteArray.ext; simp [ByteArray.data_extract]
  have e2 : (⟨l.toArray⟩ : ByteArray).extract (k + 1) l.length = ⟨(l.drop (k + 1)).toArray⟩ := by apply ByteArray.ext; simp [ByteArray.data_extract]; exact List.take_of_length_le (by simp)
  rw [e1, e2]
end Go.Proofs.YtjcfejncjdhplaaGreatDoor
