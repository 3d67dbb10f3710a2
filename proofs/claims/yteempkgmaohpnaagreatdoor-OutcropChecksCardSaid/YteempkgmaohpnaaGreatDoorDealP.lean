/-
  event.Check on changed events: the tables of the shapes, run by the kernel.
-/
import Derived.Test.YteempkgmaohpnaaGreatDoorChgX
import Derived.Test.YteempkgmaohpnaaGreatDoorDealC
set_option linter.unusedSectionVars false
set_option linter.unusedVariables false
set_option linter.unusedSimpArgs false
namespace Go.Proofs.YteempkgmaohpnaaGreatDoor
open Go Ev Klp Ab
set_option maxRecDepth 100000
theorem okX1_0_3_0 : (dl1_0_3 0).okX = true := by kernel_rfl
theorem okX1_0_3_1 : (dl1_0_3 1).okX = true := by kernel_rfl
theorem okX1_1_3_0 : (dl1_1_3 0).okX = true := by kernel_rfl
theorem okX1_1_3_1 : (dl1_1_3 1).okX = true := by kernel_rfl
theorem okX1_2_3_0 : (dl1_2_3 0).okX = true := by kernel_rfl
theorem okX1_2_3_1 : (dl1_2_3 1).okX = true := by kernel_rfl
theorem okX1_0_4_0 : (dl1_0_4 0).okX = true := by kernel_rfl
theorem okX1_0_4_1 : (dl1_0_4 1).okX = true := by kernel_rfl
theorem okX1_1_4_0 : (dl1_1_4 0).okX = true := by kernel_rfl
theorem okX1_1_4_1 : (dl1_1_4 1).okX = true := by kernel_rfl
theorem okX1_2_4_0 : (dl1_2_4 0).okX = true := by kernel_rfl
theorem okX1_2_4_1 : (dl1_2_4 1).okX = true := by kernel_rfl
theorem okX1_0_5_0 : (dl1_0_5 0).okX = true := by kernel_rfl
theorem okX1_0_5_1 : (dl1_0_5 1).okX = true := by kernel_rfl
theorem okX1_1_5_0 : (dl1_1_5 0).okX = true := by kernel_rfl
theorem okX1_1_5_1 : (dl1_1_5 1).okX = true := by kernel_rfl
theorem okX1_2_5_0 : (dl1_2_5 0).okX = true := by kernel_rfl
theorem okX1_2_5_1 : (dl1_2_5 1).okX = true := by kernel_rfl
theorem okX1_0_6_0 : (dl1_0_6 0).okX = true := by kernel_rfl
theorem okX1_0_6_1 : (dl1_0_6 1).okX = true := by kernel_rfl
theorem okX1_1_6_0 : (dl1_1_6 0).okX = true := by kernel_rfl
theorem okX1_1_6_1 : (dl1_1_6 1).okX = true := by kernel_rfl
theorem okX1_2_6_0 : (dl1_2_6 0).okX = true := by kernel_rfl
theorem okX1_2_6_1 : (dl1_2_6 1).okX = true := by kernel_rfl
end Go.Proofs.YteempkgmaohpnaaGreatDoor
