/-
  event.Check on changed events: the tables of the shapes, run by the kernel.
-/
import Derived.Test.YtkjinnjopoehhaaGreatDoorDealC
import Derived.Test.YtkjinnjopoehhaaGreatDoorChgE
set_option linter.unusedSectionVars false
set_option linter.unusedVariables false
set_option linter.unusedSimpArgs false
namespace Go.Proofs.YtkjinnjopoehhaaGreatDoor
open Go Ev Klp Ab
set_option maxRecDepth 100000
theorem okA0 (np:Nat):(lA 0 np).all DealT.ok=true:=by kernel_rfl
theorem okA1 (np:Nat):(lA 1 np).all DealT.ok=true:=by kernel_rfl
theorem okA2 (np:Nat):(lA 2 np).all DealT.ok=true:=by kernel_rfl
set_option maxRecDepth 100000
theorem okC0_3:(lC 0 3).all DealT.ok=true:=by kernel_rfl
theorem okC1_3:(lC 1 3).all DealT.ok=true:=by kernel_rfl
theorem okC2_3:(lC 2 3).all DealT.ok=true:=by kernel_rfl
theorem okC0_4:(lC 0 4).all DealT.ok=true:=by kernel_rfl
theorem okC1_4:(lC 1 4).all DealT.ok=true:=by kernel_rfl
theorem okC2_4:(lC 2 4).all DealT.ok=true:=by kernel_rfl
theorem okC0_5:(lC 0 5).all DealT.ok=true:=by kernel_rfl
theorem okC1_5:(lC 1 5).all DealT.ok=true:=by kernel_rfl
theorem okC2_5:(lC 2 5).all DealT.ok=true:=by kernel_rfl
theorem okC0_6:(lC 0 6).all DealT.ok=true:=by kernel_rfl
theorem okC1_6:(lC 1 6).all DealT.ok=true:=by kernel_rfl
theorem okC2_6:(lC 2 6).all DealT.ok=true:=by kernel_rfl
set_option maxRecDepth 100000
theorem okB0 (np:Nat):(lB 0 np).all DealT.ok=true:=by kernel_rfl
theorem okB1 (np:Nat):(lB 1 np).all DealT.ok=true:=by kernel_rfl
theorem okB2 (np:Nat):(lB 2 np).all DealT.ok=true:=by kernel_rfl
set_option maxRecDepth 100000
theorem xA0 (np:Nat):(lA 0 np).all DealT.okX=true:=by kernel_rfl
theorem xA1 (np:Nat):(lA 1 np).all DealT.okX=true:=by kernel_rfl
theorem xA2 (np:Nat):(lA 2 np).all DealT.okX=true:=by kernel_rfl
theorem xB0 (np:Nat):(lB 0 np).all DealT.okX=true:=by kernel_rfl
theorem xB1 (np:Nat):(lB 1 np).all DealT.okX=true:=by kernel_rfl
theorem xB2 (np:Nat):(lB 2 np).all DealT.okX=true:=by kernel_rfl
set_option maxRecDepth 100000
theorem xC0_3:(lC 0 3).all DealT.okX=true:=by kernel_rfl
theorem xC1_3:(lC 1 3).all DealT.okX=true:=by kernel_rfl
theorem xC2_3:(lC 2 3).all DealT.okX=true:=by kernel_rfl
theorem xC0_4:(lC 0 4).all DealT.okX=true:=by kernel_rfl
theorem xC1_4:(lC 1 4).all DealT.okX=true:=by kernel_rfl
theorem xC2_4:(lC 2 4).all DealT.okX=true:=by kernel_rfl
theorem xC0_5:(lC 0 5).all DealT.okX=true:=by kernel_rfl
theorem xC1_5:(lC 1 5).all DealT.okX=true:=by kernel_rfl
theorem xC2_5:(lC 2 5).all DealT.okX=true:=by kernel_rfl
theorem xC0_6:(lC 0 6).all DealT.okX=true:=by kernel_rfl
theorem xC1_6:(lC 1 6).all DealT.okX=true:=by kernel_rfl
theorem xC2_6:(lC 2 6).all DealT.okX=true:=by kernel_rfl
end Go.Proofs.YtkjinnjopoehhaaGreatDoor
