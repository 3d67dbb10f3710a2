/-
  event.Check on changed events: the tables of the shapes, run by the kernel.
-/
import Derived.Test.YteempkgmaohpnaaGreatDoorChgX
import Derived.Test.YteempkgmaohpnaaGreatDoorDealC
set_option linter.unusedSectionVars false
set_option linter.unusedVariables false
set_option linter.unusedSimpArgs false
namespace Go.Proofs.YteempkgmaohpnaaGreatDoor
open Go Ev Klp Ab
set_option maxRecDepth 100000
theorem okX2_0_0 (np : Nat) : (dl2_0 0 np).okX = true := by kernel_rfl
theorem okX2_0_1 (np : Nat) : (dl2_0 1 np).okX = true := by kernel_rfl
theorem okX4_0_0 (np : Nat) : (dl4_0 0 np).okX = true := by kernel_rfl
theorem okX4_0_1 (np : Nat) : (dl4_0 1 np).okX = true := by kernel_rfl
theorem okX5_0_0 (np : Nat) : (dl5_0 0 np).okX = true := by kernel_rfl
theorem okX5_0_1 (np : Nat) : (dl5_0 1 np).okX = true := by kernel_rfl
theorem okX5_1_0 (np : Nat) : (dl5_1 0 np).okX = true := by kernel_rfl
theorem okX5_1_1 (np : Nat) : (dl5_1 1 np).okX = true := by kernel_rfl
theorem okX5_2_0 (np : Nat) : (dl5_2 0 np).okX = true := by kernel_rfl
theorem okX5_2_1 (np : Nat) : (dl5_2 1 np).okX = true := by kernel_rfl
theorem okX5_3_0 (np : Nat) : (dl5_3 0 np).okX = true := by kernel_rfl
theorem okX5_3_1 (np : Nat) : (dl5_3 1 np).okX = true := by kernel_rfl
theorem okX5_4_0 (np : Nat) : (dl5_4 0 np).okX = true := by kernel_rfl
theorem okX5_4_1 (np : Nat) : (dl5_4 1 np).okX = true := by kernel_rfl
theorem okX5_5_0 (np : Nat) : (dl5_5 0 np).okX = true := by kernel_rfl
theorem okX5_5_1 (np : Nat) : (dl5_5 1 np).okX = true := by kernel_rfl
theorem okX3_0_0 (np : Nat) : (dl3_0 0 np).okX = true := by kernel_rfl
theorem okX3_0_1 (np : Nat) : (dl3_0 1 np).okX = true := by kernel_rfl
theorem okX3_1_0 (np : Nat) : (dl3_1 0 np).okX = true := by kernel_rfl
theorem okX3_1_1 (np : Nat) : (dl3_1 1 np).okX = true := by kernel_rfl
theorem okX3_2_0 (np : Nat) : (dl3_2 0 np).okX = true := by kernel_rfl
theorem okX3_2_1 (np : Nat) : (dl3_2 1 np).okX = true := by kernel_rfl
theorem okX3_3_0 (np : Nat) : (dl3_3 0 np).okX = true := by kernel_rfl
theorem okX3_3_1 (np : Nat) : (dl3_3 1 np).okX = true := by kernel_rfl
theorem okX3_4_0 (np : Nat) : (dl3_4 0 np).okX = true := by kernel_rfl
theorem okX3_4_1 (np : Nat) : (dl3_4 1 np).okX = true := by kernel_rfl
theorem okX3_5_0 (np : Nat) : (dl3_5 0 np).okX = true := by kernel_rfl
theorem okX3_5_1 (np : Nat) : (dl3_5 1 np).okX = true := by kernel_rfl
end Go.Proofs.YteempkgmaohpnaaGreatDoor
