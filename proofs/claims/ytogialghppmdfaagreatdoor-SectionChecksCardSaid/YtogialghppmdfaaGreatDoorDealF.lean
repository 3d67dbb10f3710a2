/-
  klippelaw30.Deal and event.Check on symbols: the tables of more shapes, run by the kernel.
-/
import Derived.Test.YtogialghppmdfaaGreatDoorDealC
set_option linter.unusedSectionVars false
set_option linter.unusedVariables false
set_option linter.unusedSimpArgs false
namespace Go.Proofs.YtogialghppmdfaaGreatDoor
open Go Ev Klp Ab
set_option maxRecDepth 100000
theorem okA0 (np:Nat):(lA 0 np).all DealT.ok=true:=by kernel_rfl
theorem okA1 (np:Nat):(lA 1 np).all DealT.ok=true:=by kernel_rfl
theorem okA2 (np:Nat):(lA 2 np).all DealT.ok=true:=by kernel_rfl
set_option maxRecDepth 100000
theorem okC0_3:(lC 0 3).all DealT.ok=true:=by kernel_rfl
theorem okC1_3:(lC 1 3).all DealT.ok=true:=by kernel_rfl
theorem okC2_3:(lC 2 3).all DealT.ok=true:=by kernel_rfl
theorem okC0_4:(lC 0 4).all DealT.ok=true:=by kernel_rfl
theorem okC1_4:(lC 1 4).all DealT.ok=true:=by kernel_rfl
theorem okC2_4:(lC 2 4).all DealT.ok=true:=by kernel_rfl
theorem okC0_5:(lC 0 5).all DealT.ok=true:=by kernel_rfl
theorem okC1_5:(lC 1 5).all DealT.ok=true:=by kernel_rfl
theorem okC2_5:(lC 2 5).all DealT.ok=true:=by kernel_rfl
theorem okC0_6:(lC 0 6).all DealT.ok=true:=by kernel_rfl
theorem okC1_6:(lC 1 6).all DealT.ok=true:=by kernel_rfl
theorem okC2_6:(lC 2 6).all DealT.ok=true:=by kernel_rfl
set_option maxRecDepth 100000
theorem okB0 (np:Nat):(lB 0 np).all DealT.ok=true:=by kernel_rfl
theorem okB1 (np:Nat):(lB 1 np).all DealT.ok=true:=by kernel_rfl
theorem okB2 (np:Nat):(lB 2 np).all DealT.ok=true:=by kernel_rfl
end Go.Proofs.YtogialghppmdfaaGreatDoor
