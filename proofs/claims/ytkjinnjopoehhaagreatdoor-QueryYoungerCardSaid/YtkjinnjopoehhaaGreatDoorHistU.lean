/-
  klippe/history.Check on events with tilts behind them, 12 in all: its runs.
-/
import Derived.Test.YtkjinnjopoehhaaGreatDoorHistX
set_option linter.unusedSectionVars false
set_option linter.unusedVariables false
set_option linter.unusedSimpArgs false
namespace Go.Proofs.YtkjinnjopoehhaaGreatDoor
open Go Ev Klp
set_option maxRecDepth 100000
noncomputable def t12C (l:List Nat):Bool:=runC b0 (itemsOf 0 l++List.replicate (12-l.length) tiltI) 0
theorem t12_0:t12C []=true:=by kernel_rfl
theorem t12_a0:partC t12C 0=true:=by kernel_rfl
theorem t12_a1:partC t12C 1=true:=by kernel_rfl
theorem t12_a2:partC t12C 2=true:=by kernel_rfl
theorem t12_a5:partC t12C 5=true:=by kernel_rfl
theorem t12_a9:partC t12C 9=true:=by kernel_rfl
theorem t12_a:CL.all (partC t12C)=true:=by
 simp only [CL,List.all_cons,List.all_nil,t12_a0,t12_a1,t12_a2,t12_a5,t12_a9,Bool.and_self]
end Go.Proofs.YtkjinnjopoehhaaGreatDoor
