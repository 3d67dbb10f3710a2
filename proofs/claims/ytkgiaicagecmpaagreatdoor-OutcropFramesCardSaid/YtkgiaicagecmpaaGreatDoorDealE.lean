/-
  klippelaw30.Deal and event.Check on symbols: the tables of some shapes, run by the kernel.
-/
import Derived.Test.YtkgiaicagecmpaaGreatDoorDealC
set_option linter.unusedSectionVars false
set_option linter.unusedVariables false
set_option linter.unusedSimpArgs false
namespace Go.Proofs.YtkgiaicagecmpaaGreatDoor
open Go Ev Klp Ab
set_option maxRecDepth 100000
theorem ok2_0_0 (np : Nat) : (dl2_0 0 np).ok = true := by kernel_rfl
theorem ok2_0_1 (np : Nat) : (dl2_0 1 np).ok = true := by kernel_rfl
theorem ok4_0_0 (np : Nat) : (dl4_0 0 np).ok = true := by kernel_rfl
theorem ok4_0_1 (np : Nat) : (dl4_0 1 np).ok = true := by kernel_rfl
theorem ok5_0_0 (np : Nat) : (dl5_0 0 np).ok = true := by kernel_rfl
theorem ok5_0_1 (np : Nat) : (dl5_0 1 np).ok = true := by kernel_rfl
theorem ok5_1_0 (np : Nat) : (dl5_1 0 np).ok = true := by kernel_rfl
theorem ok5_1_1 (np : Nat) : (dl5_1 1 np).ok = true := by kernel_rfl
theorem ok5_2_0 (np : Nat) : (dl5_2 0 np).ok = true := by kernel_rfl
theorem ok5_2_1 (np : Nat) : (dl5_2 1 np).ok = true := by kernel_rfl
theorem ok5_3_0 (np : Nat) : (dl5_3 0 np).ok = true := by kernel_rfl
theorem ok5_3_1 (np : Nat) : (dl5_3 1 np).ok = true := by kernel_rfl
theorem ok5_4_0 (np : Nat) : (dl5_4 0 np).ok = true := by kernel_rfl
theorem ok5_4_1 (np : Nat) : (dl5_4 1 np).ok = true := by kernel_rfl
theorem ok5_5_0 (np : Nat) : (dl5_5 0 np).ok = true := by kernel_rfl
theorem ok5_5_1 (np : Nat) : (dl5_5 1 np).ok = true := by kernel_rfl
end Go.Proofs.YtkgiaicagecmpaaGreatDoor
