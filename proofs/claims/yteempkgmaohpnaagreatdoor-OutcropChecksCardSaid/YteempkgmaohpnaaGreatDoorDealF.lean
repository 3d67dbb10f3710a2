/-
  klippelaw30.Deal and event.Check on symbols: the tables of more shapes, run by the kernel.
-/
import Derived.Test.YteempkgmaohpnaaGreatDoorDealC
set_option linter.unusedSectionVars false
set_option linter.unusedVariables false
set_option linter.unusedSimpArgs false
namespace Go.Proofs.YteempkgmaohpnaaGreatDoor
open Go Ev Klp Ab
set_option maxRecDepth 100000
theorem ok3_0_0 (np : Nat) : (dl3_0 0 np).ok = true := by kernel_rfl
theorem ok3_0_1 (np : Nat) : (dl3_0 1 np).ok = true := by kernel_rfl
theorem ok3_1_0 (np : Nat) : (dl3_1 0 np).ok = true := by kernel_rfl
theorem ok3_1_1 (np : Nat) : (dl3_1 1 np).ok = true := by kernel_rfl
theorem ok3_2_0 (np : Nat) : (dl3_2 0 np).ok = true := by kernel_rfl
theorem ok3_2_1 (np : Nat) : (dl3_2 1 np).ok = true := by kernel_rfl
theorem ok3_3_0 (np : Nat) : (dl3_3 0 np).ok = true := by kernel_rfl
theorem ok3_3_1 (np : Nat) : (dl3_3 1 np).ok = true := by kernel_rfl
theorem ok3_4_0 (np : Nat) : (dl3_4 0 np).ok = true := by kernel_rfl
theorem ok3_4_1 (np : Nat) : (dl3_4 1 np).ok = true := by kernel_rfl
theorem ok3_5_0 (np : Nat) : (dl3_5 0 np).ok = true := by kernel_rfl
theorem ok3_5_1 (np : Nat) : (dl3_5 1 np).ok = true := by kernel_rfl
end Go.Proofs.YteempkgmaohpnaaGreatDoor
