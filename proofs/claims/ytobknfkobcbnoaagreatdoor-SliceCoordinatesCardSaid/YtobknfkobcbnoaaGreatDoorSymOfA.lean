/-
  klippe/rational.Of at odd ints of eight bits and 2, by the evaluator at each of them.
-/
import Derived.Test.YtobknfkobcbnoaaGreatDoorSymOf
set_option linter.unusedSectionVars false
set_option linter.unusedVariables false
set_option linter.unusedSimpArgs false
namespace Go.Proofs.YtobknfkobcbnoaaGreatDoor
open Go Ev Klp
theorem of_chk_m127 : chkF tb0 10000 60 6 (ofRows 16 (-127)) = true := by kernel_rfl
theorem of_chk_m95 : chkF tb0 10000 60 6 (ofRows 16 (-95)) = true := by kernel_rfl
theorem of_chk_m63 : chkF tb0 10000 60 6 (ofRows 16 (-63)) = true := by kernel_rfl
theorem of_chk_m31 : chkF tb0 10000 60 6 (ofRows 16 (-31)) = true := by kernel_rfl
theorem of_chk_1 : chkF tb0 10000 60 6 (ofRows 16 (1)) = true := by kernel_rfl
theorem of_chk_33 : chkF tb0 10000 60 6 (ofRows 16 (33)) = true := by kernel_rfl
theorem of_chk_65 : chkF tb0 10000 60 6 (ofRows 16 (65)) = true := by kernel_rfl
theorem of_chk_97 : chkF tb0 10000 60 6 (ofRows 16 (97)) = true := by kernel_rfl
end Go.Proofs.YtobknfkobcbnoaaGreatDoor
