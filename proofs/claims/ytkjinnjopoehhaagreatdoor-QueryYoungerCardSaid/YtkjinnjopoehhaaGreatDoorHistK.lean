/-
  klippe/history.Check on events that are symbols: the basement has the name of a dike.
-/
import Derived.Test.YtkjinnjopoehhaaGreatDoorHistX
set_option linter.unusedSectionVars false
set_option linter.unusedVariables false
set_option linter.unusedSimpArgs false
namespace Go.Proofs.YtkjinnjopoehhaaGreatDoor
open Go Ev Klp
set_option maxRecDepth 100000
noncomputable def plainC (l:List Nat):Bool:=runC b0 (itemsOf 0 l) 0
theorem plain_0:plainC []=true:=by kernel_rfl
theorem plain_a0:partC plainC 0=true:=by kernel_rfl
theorem plain_a1:partC plainC 1=true:=by kernel_rfl
theorem plain_a2:partC plainC 2=true:=by kernel_rfl
theorem plain_a5:partC plainC 5=true:=by kernel_rfl
theorem plain_a9:partC plainC 9=true:=by kernel_rfl
theorem plain_a:CL.all (partC plainC)=true:=by
 simp only [CL,List.all_cons,List.all_nil,plain_a0,plain_a1,plain_a2,plain_a5,plain_a9,Bool.and_self]
set_option maxRecDepth 100000
noncomputable def baseAC (l:List Nat):Bool:=runC bA (itemsOf 0 l) (cond (Nat.blt (firstSh l) 3) 9 0)
theorem baseA_0:baseAC []=true:=by kernel_rfl
theorem baseA_a0:partC baseAC 0=true:=by kernel_rfl
theorem baseA_a1:partC baseAC 1=true:=by kernel_rfl
theorem baseA_a2:partC baseAC 2=true:=by kernel_rfl
theorem baseA_a5:partC baseAC 5=true:=by kernel_rfl
theorem baseA_a9:partC baseAC 9=true:=by kernel_rfl
theorem baseA_a:CL.all (partC baseAC)=true:=by
 simp only [CL,List.all_cons,List.all_nil,baseA_a0,baseA_a1,baseA_a2,baseA_a5,baseA_a9,Bool.and_self]
set_option maxRecDepth 100000
noncomputable def baseKC (l:List Nat):Bool:=runC bK (itemsOf 0 l) (cond (Nat.beq (firstSh l) 5) 9 0)
theorem baseK_0:baseKC []=true:=by kernel_rfl
theorem baseK_a0:partC baseKC 0=true:=by kernel_rfl
theorem baseK_a1:partC baseKC 1=true:=by kernel_rfl
theorem baseK_a2:partC baseKC 2=true:=by kernel_rfl
theorem baseK_a5:partC baseKC 5=true:=by kernel_rfl
theorem baseK_a9:partC baseKC 9=true:=by kernel_rfl
theorem baseK_a:CL.all (partC baseKC)=true:=by
 simp only [CL,List.all_cons,List.all_nil,baseK_a0,baseK_a1,baseK_a2,baseK_a5,baseK_a9,Bool.and_self]
end Go.Proofs.YtkjinnjopoehhaaGreatDoor
