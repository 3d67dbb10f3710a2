/-
  klippe/rational.Of at even ints from -128 to -66 and 2, by the evaluator at each of them.
-/
import Derived.Test.YtobknfkobcbnoaaGreatDoorSymOfS
set_option linter.unusedSectionVars false
set_option linter.unusedVariables false
set_option linter.unusedSimpArgs false
namespace Go.Proofs.YtobknfkobcbnoaaGreatDoor
open Go Ev Klp
theorem of_chk_m128 : chkF tbO 10000 60 6 (ofRows 8 (-128)) = true := by kernel_rfl
theorem of_chk_m112 : chkF tbO 10000 60 6 (ofRows 8 (-112)) = true := by kernel_rfl
theorem of_chk_m96 : chkF tbO 10000 60 6 (ofRows 8 (-96)) = true := by kernel_rfl
theorem of_chk_m80 : chkF tbO 10000 60 6 (ofRows 8 (-80)) = true := by kernel_rfl
end Go.Proofs.YtobknfkobcbnoaaGreatDoor
