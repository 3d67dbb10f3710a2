/-
  klippe/rational.Of at even ints from -64 to -2 and 2, by the evaluator at each of them.
-/
import Derived.Test.YtobknfkobcbnoaaGreatDoorSymOfS
set_option linter.unusedSectionVars false
set_option linter.unusedVariables false
set_option linter.unusedSimpArgs false
namespace Go.Proofs.YtobknfkobcbnoaaGreatDoor
open Go Ev Klp
theorem of_chk_m64 : chkF tbO 10000 60 6 (ofRows 8 (-64)) = true := by kernel_rfl
theorem of_chk_m48 : chkF tbO 10000 60 6 (ofRows 8 (-48)) = true := by kernel_rfl
theorem of_chk_m32 : chkF tbO 10000 60 6 (ofRows 8 (-32)) = true := by kernel_rfl
theorem of_chk_m16 : chkF tbO 10000 60 6 (ofRows 8 (-16)) = true := by kernel_rfl
end Go.Proofs.YtobknfkobcbnoaaGreatDoor
