/-
  klippe/rational.Of at even ints from 0 to 62 and 2, by the evaluator at each of them.
-/
import Derived.Test.YtobknfkobcbnoaaGreatDoorSymOfS
set_option linter.unusedSectionVars false
set_option linter.unusedVariables false
set_option linter.unusedSimpArgs false
namespace Go.Proofs.YtobknfkobcbnoaaGreatDoor
open Go Ev Klp
theorem of_chk_0 : chkF tbO 10000 60 6 (ofRows 8 (0)) = true := by kernel_rfl
theorem of_chk_16 : chkF tbO 10000 60 6 (ofRows 8 (16)) = true := by kernel_rfl
theorem of_chk_32 : chkF tbO 10000 60 6 (ofRows 8 (32)) = true := by kernel_rfl
theorem of_chk_48 : chkF tbO 10000 60 6 (ofRows 8 (48)) = true := by kernel_rfl
end Go.Proofs.YtobknfkobcbnoaaGreatDoor
