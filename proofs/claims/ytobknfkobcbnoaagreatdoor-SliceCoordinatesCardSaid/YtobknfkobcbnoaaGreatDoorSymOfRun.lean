/-
  klippe/rational.Of at any int of eight bits and 2.
-/
import Derived.Test.YtobknfkobcbnoaaGreatDoorSymOfA
import Derived.Test.YtobknfkobcbnoaaGreatDoorSymOfB
import Derived.Test.YtobknfkobcbnoaaGreatDoorSymOfC
import Derived.Test.YtobknfkobcbnoaaGreatDoorSymOfD
import Derived.Test.YtobknfkobcbnoaaGreatDoorSymOfE
set_option linter.unusedSectionVars false
set_option linter.unusedVariables false
set_option linter.unusedSimpArgs false
namespace Go.Proofs.YtobknfkobcbnoaaGreatDoor
open Go Ev Klp
theorem of_two {w0 : Base} (hF : FnOk tb0 Tryz.prog w0) : OfOk w0 := by
  intro n h1 h2
  have : n % 2 = 1 ∨ n % 2 = 0 := by omega
  rcases this with h | h
  · have : (-128 ≤ n ∧ n < -96) ∨ (-96 ≤ n ∧ n < -64) ∨ (-64 ≤ n ∧ n < -32) ∨ (-32 ≤ n ∧ n < 0) ∨ (0 ≤ n ∧ n < 32) ∨ (32 ≤ n ∧ n < 64) ∨ (64 ≤ n ∧ n < 96) ∨ (96 ≤ n ∧ n < 128) := by omega
    rcases this with hc | hc | hc | hc | hc | hc | hc | hc
    · exact ofRows_two hF of_chk_m127 (by omega) (by omega) (by omega)
    · exact ofRows_two hF of_chk_m95 (by omega) (by omega) (by omega)
    · exact ofRows_two hF of_chk_m63 (by omega) (by omega) (by omega)
    · exact ofRows_two hF of_chk_m31 (by omega) (by omega) (by omega)
    · exact ofRows_two hF of_chk_1 (by omega) (by omega) (by omega)
    · exact ofRows_two hF of_chk_33 (by omega) (by omega) (by omega)
    · exact ofRows_two hF of_chk_65 (by omega) (by omega) (by omega)
    · exact ofRows_two hF of_chk_97 (by omega) (by omega) (by omega)
  · have : (-128 ≤ n ∧ n < -112) ∨ (-112 ≤ n ∧ n < -96) ∨ (-96 ≤ n ∧ n < -80) ∨ (-80 ≤ n ∧ n < -64) ∨ (-64 ≤ n ∧ n < -48) ∨ (-48 ≤ n ∧ n < -32) ∨ (-32 ≤ n ∧ n < -16) ∨ (-16 ≤ n ∧ n < 0) ∨ (0 ≤ n ∧ n < 16) ∨ (16 ≤ n ∧ n < 32) ∨ (32 ≤ n ∧ n < 48) ∨ (48 ≤ n ∧ n < 64) ∨ (64 ≤ n ∧ n < 80) ∨ (80 ≤ n ∧ n < 96) ∨ (96 ≤ n ∧ n < 112) ∨ (112 ≤ n ∧ n < 128) := by omega
    rcases this with hc | hc | hc | hc | hc | hc | hc | hc | hc | hc | hc | hc | hc | hc | hc | hc
    · exact ofRows_even hF of_chk_m128 (by omega) (by omega) (by omega)
    · exact ofRows_even hF of_chk_m112 (by omega) (by omega) (by omega)
    · exact ofRows_even hF of_chk_m96 (by omega) (by omega) (by omega)
    · exact ofRows_even hF of_chk_m80 (by omega) (by omega) (by omega)
    · exact ofRows_even hF of_chk_m64 (by omega) (by omega) (by omega)
    · exact ofRows_even hF of_chk_m48 (by omega) (by omega) (by omega)
    · exact ofRows_even hF of_chk_m32 (by omega) (by omega) (by omega)
    · exact ofRows_even hF of_chk_m16 (by omega) (by omega) (by omega)
    · exact ofRows_even hF of_chk_0 (by omega) (by omega) (by omega)
    · exact ofRows_even hF of_chk_16 (by omega) (by omega) (by omega)
    · exact ofRows_even hF of_chk_32 (by omega) (by omega) (by omega)
    · exact ofRows_even hF of_chk_48 (by omega) (by omega) (by omega)
    · exact ofRows_even hF of_chk_64 (by omega) (by omega) (by omega)
    · exact ofRows_even hF of_chk_80 (by omega) (by omega) (by omega)
    · exact ofRows_even hF of_chk_96 (by omega) (by omega) (by omega)
    · exact ofRows_even hF of_chk_112 (by omega) (by omega) (by omega)
end Go.Proofs.YtobknfkobcbnoaaGreatDoor
