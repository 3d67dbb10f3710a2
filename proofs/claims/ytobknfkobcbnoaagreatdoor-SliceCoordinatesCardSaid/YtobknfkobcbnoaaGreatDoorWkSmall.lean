/-
  klippe/rational.small: the number of two ints, in lowest terms, as a text.
-/
import Derived.Test.YtobknfkobcbnoaaGreatDoorProg
import Derived.WalkKit
import Derived.WalkSpells
import Derived.WalkLawsBesides
import Derived.RegionTactic
import Derived.Deep.QuietTactic
import Derived.BigQuiet
import Derived.Lib.Hide
import Derived.Lib.LaidTab
import Derived.Lib.AppendIntMem
import Derived.Lib.ItoaLen
import Derived.Test.YtobknfkobcbnoaaGreatDoorShelf
set_option linter.unusedSectionVars false
set_option linter.unusedVariables false
set_option linter.unusedSimpArgs false
namespace Go.Proofs.YtobknfkobcbnoaaGreatDoor
open Go.RowKit Go
/-- nothing but new blocks and draws -/
abbrev Kp (w w' : World) : Prop := Below w.heap.size w w'
theorem Kp.refl (w : World) : Kp w w := Below.refl _ _
theorem Kp.then {a b c : World} (h : Kp a b) (h' : Kp b c) : Kp a c := h.trans (h'.mono h.size)
theorem Kp.drewN (w : World) (n : Nat) : Kp w (w.drewN n) := ⟨rfl, rfl, rfl, Nat.le_refl _, fun _ _ => rfl⟩
theorem Kp.drew (w : World) : Kp w w.drew := ⟨rfl, rfl, rfl, Nat.le_refl _, fun _ _ => rfl⟩
theorem Kp.grow (w : World) (os : Array Obj) : Kp w (Go.Sort.grow w os) := by
  refine ⟨rfl, rfl, rfl, ?_, ?_⟩
  · simp [Go.Sort.grow]
  · intro b hb; simp [Go.Sort.grow, Array.getElem?_append, hb]
def PTab (w : World) : Prop := Lib.TabIs Tryz.prog w "internal/strconv.uint64pow10" .u64 Lib.pow10Tab
theorem PTab.kp {w w' : World} (h : PTab w) (hk : Kp w w') : PTab w' := Lib.tabBelow_of_tabIs h w' hk
theorem itoa_any (n : Int) (w : World) (h0 : -9223372036854775808 ≤ n) (h1 : n ≤ 9223372036854775807) (ht : PTab w) :
    Calls Tryz.prog 51 #[.int .i64 n] w fun e w' => e = .returned (.string ⟨(Lib.itoa n).toArray⟩) ∧ Kp w w' :=
  (Tryz.strconv_Itoa n h0 h1 w ht).mono fun e w' ⟨h, k, os, hw⟩ => ⟨h, by rw [hw]; exact (Kp.drewN w k).then (Kp.grow _ os)⟩
theorem itoa_size (n : Int) (h0 : -9223372036854775808 ≤ n) (h1 : n ≤ 9223372036854775807) : (⟨(Lib.itoa n).toArray⟩ : ByteArray).size ≤ 21 := by
  have := Lib.itoa_length_le n h0 h1
  simpa [ByteArray.size] using this
/-- the text of a numerator and a denominator -/
def ratS (n d : Int) : ByteArray := if d = 1 then ⟨(Lib.itoa n).toArray⟩ else ⟨(Lib.itoa n).toArray⟩ ++ ⟨#[47]⟩ ++ ⟨(Lib.itoa d).toArray⟩
theorem gcd_step (x y : Int) : (Int.gcd y (x.tmod y) : Int) = Int.gcd x y := by
  unfold Int.gcd
  rw [Int.natAbs_tmod, Nat.gcd_comm x.natAbs, Nat.gcd_rec y.natAbs x.natAbs, Nat.gcd_comm (x.natAbs % y.natAbs)]
theorem tmod_lt (x y : Int) (hy : ¬ y = 0) : (x.tmod y).natAbs < y.natAbs := by
  rw [Int.natAbs_tmod]
  exact Nat.mod_lt _ (by omega)
theorem tmod_bd (x y : Int) (h1 : -9223372036854775807 ≤ x) (h2 : x ≤ 9223372036854775807) : -9223372036854775807 ≤ x.tmod y ∧ x.tmod y ≤ 9223372036854775807 := by
  have h : (x.tmod y).natAbs ≤ x.natAbs := by rw [Int.natAbs_tmod]; exact Nat.mod_le _ _
  omega
set_option maxHeartbeats 400000 in
theorem small_any (n d g n' d' : Int) (w : World) (hn : -9223372036854775807 ≤ n) (hn' : n ≤ 9223372036854775807) (hd : 1 ≤ d) (hd' : d ≤ 9223372036854775807)
    (hg1 : 1 ≤ g) (hg2 : g ≤ d) (hgcd : (Int.gcd n d : Int) = g) (hq1 : n.tdiv g = n') (hq2 : d / g = d') (hb1 : -9223372036854775807 ≤ n') (hb2 : n' ≤ 9223372036854775807) (hb3 : 1 ≤ d') (hb4 : d' ≤ 9223372036854775807) (ht : PTab w) :
    Calls Tryz.prog 60 #[.int .i64 n, .int .i64 d] w fun e w' => e = .returned (.string (ratS n' d')) ∧ Kp w w' := by
  have HT := Lib.hid ht; clear ht
  have HGC := Lib.hid hgcd; clear hgcd
  have HQ1 := Lib.hid hq1; clear hq1
  have HQ2 := Lib.hid hq2; clear hq2
  go_enter Tryz.func60, Tryz.ntmps60
  go_wp2
  go_loopw [5, 6] (fun a b wr => ∃ x y : Int, a = .int .i64 x ∧ b = .int .i64 y ∧ (Int.gcd x y : Int) = g ∧ -9223372036854775807 ≤ x ∧ x ≤ 9223372036854775807 ∧ -9223372036854775807 ≤ y ∧ y ≤ 9223372036854775807 ∧ Kp w wr) (fun _ b _ => (intOf b).natAbs)
  case atStart => exact ⟨n, d, rfl, rfl, HGC.out, by omega, by omega, by omega, by omega, Kp.refl w⟩
  case round =>
    obtain ⟨x, y, rfl, rfl, hg, hx1, hx2, hy1, hy2, hk⟩ := hrel
    have HG := Lib.hid hg; clear hg
    have HK := Lib.hid hk; clear hk
    by_cases hy : y = 0
    · subst hy
      have hxg : x = g ∨ x = -g := by have := HG.out; rw [Int.gcd_zero_right] at this; omega
      have hq1 := HQ1.out
      have hq2 := HQ2.out
      clear HG
      have hgz : (g == 0) = false := by simp; omega
      rcases hxg with rfl | rfl
      · go_wp2
        go_region
        by_cases h1 : d' = 1
        · have H1 := Lib.hid h1; clear h1
          have h1' : (d' == 1) = true := by simp [H1.out]
          go_wp2_with fail
          refine (itoa_any n' _ (by omega) (by omega) (HT.out.kp (HK.out.then (Kp.drew _)))).mono ?_
          rintro e w1 ⟨rfl, hk1⟩
          have HK1 := Lib.hid hk1; clear hk1
          go_wp2_with fail
          go_ret
          exact ⟨by rw [ratS, if_pos H1.out]; rfl, HK.out.then ((Kp.drew _).then HK1.out)⟩
        · have H1 := Lib.hid h1; clear h1
          have h1' : (d' == 1) = false := by simp [H1.out]
          have z1 := Lib.itoa_length_le n' (by omega) (by omega)
          have z2 := Lib.itoa_length_le d' (by omega) (by omega)
          have a1 := fun w => run_string_add_sum (P := Tryz.prog) (w := w) ⟨(Lib.itoa n').toArray⟩ ⟨#[47]⟩ (by simp [ByteArray.size]; omega)
          have a2 := fun w => run_string_add_sum (P := Tryz.prog) (w := w) (⟨(Lib.itoa n').toArray⟩ ++ ⟨#[47]⟩) ⟨(Lib.itoa d').toArray⟩ (by simp [ByteArray.size]; omega)
          go_wp2_with fail
          refine (itoa_any n' _ (by omega) (by omega) (HT.out.kp (HK.out.then (Kp.drew _)))).mono ?_
          rintro e w1 ⟨rfl, hk1⟩
          have HK1 := Lib.hid hk1; clear hk1
          go_wp2_with fail
          refine (itoa_any d' _ (by omega) (by omega) (HT.out.kp (HK.out.then ((Kp.drew _).then HK1.out)))).mono ?_
          rintro e w2 ⟨rfl, hk2⟩
          have HK2 := Lib.hid hk2; clear hk2
          go_wp2_with fail
          go_ret
          exact ⟨by rw [ratS, if_neg H1.out]; rfl, (HK.out.then ((Kp.drew _).then HK1.out)).then HK2.out⟩
      · go_wp2
        go_region
        by_cases h1 : d' = 1
        · have H1 := Lib.hid h1; clear h1
          have h1' : (d' == 1) = true := by simp [H1.out]
          go_wp2_with fail
          refine (itoa_any n' _ (by omega) (by omega) (HT.out.kp (HK.out.then (Kp.drew _)))).mono ?_
          rintro e w1 ⟨rfl, hk1⟩
          have HK1 := Lib.hid hk1; clear hk1
          go_wp2_with fail
          go_ret
          exact ⟨by rw [ratS, if_pos H1.out]; rfl, HK.out.then ((Kp.drew _).then HK1.out)⟩
        · have H1 := Lib.hid h1; clear h1
          have h1' : (d' == 1) = false := by simp [H1.out]
          have z1 := Lib.itoa_length_le n' (by omega) (by omega)
          have z2 := Lib.itoa_length_le d' (by omega) (by omega)
          have a1 := fun w => run_string_add_sum (P := Tryz.prog) (w := w) ⟨(Lib.itoa n').toArray⟩ ⟨#[47]⟩ (by simp [ByteArray.size]; omega)
          have a2 := fun w => run_string_add_sum (P := Tryz.prog) (w := w) (⟨(Lib.itoa n').toArray⟩ ++ ⟨#[47]⟩) ⟨(Lib.itoa d').toArray⟩ (by simp [ByteArray.size]; omega)
          go_wp2_with fail
          refine (itoa_any n' _ (by omega) (by omega) (HT.out.kp (HK.out.then (Kp.drew _)))).mono ?_
          rintro e w1 ⟨rfl, hk1⟩
          have HK1 := Lib.hid hk1; clear hk1
          go_wp2_with fail
          refine (itoa_any d' _ (by omega) (by omega) (HT.out.kp (HK.out.then ((Kp.drew _).then HK1.out)))).mono ?_
          rintro e w2 ⟨rfl, hk2⟩
          have HK2 := Lib.hid hk2; clear hk2
          go_wp2_with fail
          go_ret
          exact ⟨by rw [ratS, if_neg H1.out]; rfl, (HK.out.then ((Kp.drew _).then HK1.out)).then HK2.out⟩
    · have hy0 : (y != 0) = true := by simpa using hy
      have hyf : (y == 0) = false := by simpa using hy
      go_wp2
      go_region
      go_wp2
      go_roundw
      case rel => exact ⟨y, x.tmod y, rfl, rfl, (gcd_step x y).trans HG.out, hy1, hy2, (tmod_bd x y hx1 hx2).1, (tmod_bd x y hx1 hx2).2, HK.out.then (Kp.drew _)⟩
      case measure => simp only [intOf]; exact tmod_lt x y hy
end Go.Proofs.YtobknfkobcbnoaaGreatDoor
