/-
  klippe/history.Check on changed events: its runs.
-/
import Derived.Test.YteempkgmaohpnaaGreatDoorHistX
set_option linter.unusedSectionVars false
set_option linter.unusedVariables false
set_option linter.unusedSimpArgs false
namespace Go.Proofs.YteempkgmaohpnaaGreatDoor
open Go Ev Klp
set_option maxRecDepth 100000
theorem runC_plain' : ((List.range 8).all fun i => allL (fun l => runC b0 (itemsOf 0 l) 0) i) = true := by kernel_rfl
theorem runC_plain : ∀ i,i < 8 → allL (fun l => runC b0 (itemsOf 0 l) 0) i = true := fun i h => List.all_eq_true.1 runC_plain' i (List.mem_range.2 h)
theorem runC_A' : ((List.range 8).all fun i => allL (fun l => runC bA (itemsOf 0 l) (cond (Nat.blt (firstSh l) 3) 9 0)) i) = true := by kernel_rfl
theorem runC_A : ∀ i,i < 8 → allL (fun l => runC bA (itemsOf 0 l) (cond (Nat.blt (firstSh l) 3) 9 0)) i = true := fun i h => List.all_eq_true.1 runC_A' i (List.mem_range.2 h)
theorem runC_K' : ((List.range 8).all fun i => allL (fun l => runC bK (itemsOf 0 l) (cond (Nat.beq (firstSh l) 5) 9 0)) i) = true := by kernel_rfl
theorem runC_K : ∀ i,i < 8 → allL (fun l => runC bK (itemsOf 0 l) (cond (Nat.beq (firstSh l) 5) 9 0)) i = true := fun i h => List.all_eq_true.1 runC_K' i (List.mem_range.2 h)
theorem runC_d1 : ((List.range 7).all fun a => runC b0 [⟨0,a,some 0⟩,⟨0,a,some 0⟩] (dupSh a)) = true := by kernel_rfl
theorem runC_d20 : ((List.range 7).all fun a => (List.range 7).all fun b => runC b0 [⟨0,a,some 0⟩,⟨1,b,some 0⟩,⟨0,a,some 0⟩] (dupSh a)) = true := by kernel_rfl
theorem runC_d21 : ((List.range 7).all fun a => (List.range 7).all fun b => runC b0 [⟨0,a,some 0⟩,⟨1,b,some 0⟩,⟨1,b,some 0⟩] (dupSh b)) = true := by kernel_rfl
theorem runC_z1 : runC b0 [⟨0,7,some 0⟩] 0 = true := by kernel_rfl
theorem runC_z20 : ((List.range 7).all fun b => runC b0 [⟨0,7,some 0⟩,⟨1,b,some 0⟩] 0) = true := by kernel_rfl
theorem runC_z21 : ((List.range 7).all fun a => runC b0 [⟨0,a,some 0⟩,⟨1,7,some 0⟩] 0) = true := by kernel_rfl
theorem runC_b1 : (errsC.all fun z => runC b0 [badI z] z && runC b0 [badI z,anyI] z) = true := by kernel_rfl
theorem runC_b2 : (errsC.all fun z => (List.range 7).all fun a => runC b0 [⟨0,a,some 0⟩,badI z] z) = true := by kernel_rfl
theorem runQ_b : ([[],[49],[97,32,98]].all fun bs => runQ none 0 bs 8) = true := by kernel_rfl
theorem runQ_13 : runQ (some 13) 0 b0 4 = true := by kernel_rfl
theorem runQ_14 : runQ (some 14) 0 b0 4 = true := by kernel_rfl
theorem runQ_m : ((List.range 30).all fun z => runQ none (Int.ofNat (z + 1)) b0 (Int.ofNat (z + 1))) = true := by kernel_rfl
end Go.Proofs.YteempkgmaohpnaaGreatDoor
