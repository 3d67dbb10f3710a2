/-
  klippe/history.Check on events with tilts behind them, 11 in all: its runs.
-/
import Derived.Test.YtdkafeammgaknaaGreatDoorHistX
set_option linter.unusedSectionVars false
set_option linter.unusedVariables false
set_option linter.unusedSimpArgs false
namespace Go.Proofs.YtdkafeammgaknaaGreatDoor
open Go Ev Klp
set_option maxRecDepth 100000
noncomputable def unitC (l : List Nat) : Bool := (List.range l.length).all fun k => cond (Nat.beq (nthC l k) 5) (runC b0 ((itemsOf 0 l).set k ⟨k,7,some 0⟩) 0) true
noncomputable def badC (l : List Nat) : Bool := (List.range (3 - l.length)).all fun r => errsC.all fun u => runC b0 (itemsOf 0 l ++ badI u :: List.replicate r anyI) u
theorem unit_0 : unitC [] = true := by kernel_rfl
theorem unit_a : CL.all (partC unitC) = true := by kernel_rfl
theorem bad_0 : badC [] = true := by kernel_rfl
theorem bad_a : CL.all (partC badC) = true := by kernel_rfl
theorem runQ_b : ([[],[49],[97,32,98]].all fun bs => runQ none 0 bs 8) = true := by kernel_rfl
theorem runQ_13 : runQ (some 13) 0 b0 4 = true := by kernel_rfl
theorem runQ_14 : runQ (some 14) 0 b0 4 = true := by kernel_rfl
theorem runQ_m : ((List.range 30).all fun z => runQ none (Int.ofNat (z + 1)) b0 (Int.ofNat (z + 1))) = true := by kernel_rfl
end Go.Proofs.YtdkafeammgaknaaGreatDoor
namespace Go.Proofs.YtdkafeammgaknaaGreatDoor
open Go Ev Klp
set_option maxRecDepth 100000
noncomputable def t11C (l : List Nat) : Bool := runC b0 (itemsOf 0 l ++ List.replicate (11 - l.length) tiltI) 0
theorem t11_0 : t11C [] = true := by kernel_rfl
theorem t11_a0 : partC t11C 0 = true := by kernel_rfl
theorem t11_a1 : partC t11C 1 = true := by kernel_rfl
theorem t11_a2 : partC t11C 2 = true := by kernel_rfl
theorem t11_a5 : partC t11C 5 = true := by kernel_rfl
theorem t11_a9 : partC t11C 9 = true := by kernel_rfl
theorem t11_a : CL.all (partC t11C) = true := by
 simp only [CL,List.all_cons,List.all_nil,t11_a0,t11_a1,t11_a2,t11_a5,t11_a9,Bool.and_self]
end Go.Proofs.YtdkafeammgaknaaGreatDoor
