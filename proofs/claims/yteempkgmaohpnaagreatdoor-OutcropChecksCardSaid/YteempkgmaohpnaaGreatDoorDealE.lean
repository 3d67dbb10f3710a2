/-
  klippelaw30.Deal and event.Check on symbols: the tables of deposits, run by the kernel.
-/
import Derived.Test.YteempkgmaohpnaaGreatDoorDealC
set_option linter.unusedSectionVars false
set_option linter.unusedVariables false
set_option linter.unusedSimpArgs false
namespace Go.Proofs.YteempkgmaohpnaaGreatDoor
open Go Ev Klp Ab
set_option maxRecDepth 100000
theorem ok2_0_0 (np : Nat) : (dl2_0 0 np).ok = true := by kernel_rfl
theorem ok2_0_1 (np : Nat) : (dl2_0 1 np).ok = true := by kernel_rfl
theorem ok4_0_0 (np : Nat) : (dl4_0 0 np).ok = true := by kernel_rfl
theorem ok4_0_1 (np : Nat) : (dl4_0 1 np).ok = true := by kernel_rfl
theorem ok5_0_0 (np : Nat) : (dl5_0 0 np).ok = true := by kernel_rfl
theorem ok5_0_1 (np : Nat) : (dl5_0 1 np).ok = true := by kernel_rfl
theorem ok5_1_0 (np : Nat) : (dl5_1 0 np).ok = true := by kernel_rfl
theorem ok5_1_1 (np : Nat) : (dl5_1 1 np).ok = true := by kernel_rfl
theorem ok5_2_0 (np : Nat) : (dl5_2 0 np).ok = true := by kernel_rfl
theorem ok5_2_1 (np : Nat) : (dl5_2 1 np).ok = true := by kernel_rfl
theorem ok5_3_0 (np : Nat) : (dl5_3 0 np).ok = true := by kernel_rfl
theorem ok5_3_1 (np : Nat) : (dl5_3 1 np).ok = true := by kernel_rfl
theorem ok5_4_0 (np : Nat) : (dl5_4 0 np).ok = true := by kernel_rfl
theorem ok5_4_1 (np : Nat) : (dl5_4 1 np).ok = true := by kernel_rfl
theorem ok5_5_0 (np : Nat) : (dl5_5 0 np).ok = true := by kernel_rfl
theorem ok5_5_1 (np : Nat) : (dl5_5 1 np).ok = true := by kernel_rfl
end Go.Proofs.YteempkgmaohpnaaGreatDoor
namespace Go.Proofs.YteempkgmaohpnaaGreatDoor
open Go Ev Klp Ab
set_option maxRecDepth 100000
theorem ok1_0_3_0 : (dl1_0_3 0).ok = true := by kernel_rfl
theorem ok1_0_3_1 : (dl1_0_3 1).ok = true := by kernel_rfl
theorem ok1_1_3_0 : (dl1_1_3 0).ok = true := by kernel_rfl
theorem ok1_1_3_1 : (dl1_1_3 1).ok = true := by kernel_rfl
theorem ok1_2_3_0 : (dl1_2_3 0).ok = true := by kernel_rfl
theorem ok1_2_3_1 : (dl1_2_3 1).ok = true := by kernel_rfl
theorem ok1_0_4_0 : (dl1_0_4 0).ok = true := by kernel_rfl
theorem ok1_0_4_1 : (dl1_0_4 1).ok = true := by kernel_rfl
theorem ok1_1_4_0 : (dl1_1_4 0).ok = true := by kernel_rfl
theorem ok1_1_4_1 : (dl1_1_4 1).ok = true := by kernel_rfl
theorem ok1_2_4_0 : (dl1_2_4 0).ok = true := by kernel_rfl
theorem ok1_2_4_1 : (dl1_2_4 1).ok = true := by kernel_rfl
theorem ok1_0_5_0 : (dl1_0_5 0).ok = true := by kernel_rfl
theorem ok1_0_5_1 : (dl1_0_5 1).ok = true := by kernel_rfl
theorem ok1_1_5_0 : (dl1_1_5 0).ok = true := by kernel_rfl
theorem ok1_1_5_1 : (dl1_1_5 1).ok = true := by kernel_rfl
theorem ok1_2_5_0 : (dl1_2_5 0).ok = true := by kernel_rfl
theorem ok1_2_5_1 : (dl1_2_5 1).ok = true := by kernel_rfl
theorem ok1_0_6_0 : (dl1_0_6 0).ok = true := by kernel_rfl
theorem ok1_0_6_1 : (dl1_0_6 1).ok = true := by kernel_rfl
theorem ok1_1_6_0 : (dl1_1_6 0).ok = true := by kernel_rfl
theorem ok1_1_6_1 : (dl1_1_6 1).ok = true := by kernel_rfl
theorem ok1_2_6_0 : (dl1_2_6 0).ok = true := by kernel_rfl
theorem ok1_2_6_1 : (dl1_2_6 1).ok = true := by kernel_rfl
end Go.Proofs.YteempkgmaohpnaaGreatDoor
