/-
  klippe/rational.Of at even ints from 64 to 126 and 2, by the evaluator at each of them.
-/
import Derived.Test.YtobknfkobcbnoaaGreatDoorSymOfS
set_option linter.unusedSectionVars false
set_option linter.unusedVariables false
set_option linter.unusedSimpArgs false
namespace Go.Proofs.YtobknfkobcbnoaaGreatDoor
open Go Ev Klp
theorem of_chk_64 : chkF tbO 10000 60 6 (ofRows 8 (64)) = true := by kernel_rfl
theorem of_chk_80 : chkF tbO 10000 60 6 (ofRows 8 (80)) = true := by kernel_rfl
theorem of_chk_96 : chkF tbO 10000 60 6 (ofRows 8 (96)) = true := by kernel_rfl
theorem of_chk_112 : chkF tbO 10000 60 6 (ofRows 8 (112)) = true := by kernel_rfl
end Go.Proofs.YtobknfkobcbnoaaGreatDoor
