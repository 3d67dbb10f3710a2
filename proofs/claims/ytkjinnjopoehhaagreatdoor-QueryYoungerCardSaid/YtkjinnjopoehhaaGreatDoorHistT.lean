/-
  klippe/history.Check on events with tilts behind them, 11 in all: its runs.
-/
import Derived.Test.YtkjinnjopoehhaaGreatDoorHistX
set_option linter.unusedSectionVars false
set_option linter.unusedVariables false
set_option linter.unusedSimpArgs false
namespace Go.Proofs.YtkjinnjopoehhaaGreatDoor
open Go Ev Klp
set_option maxRecDepth 100000
noncomputable def unitC (l:List Nat):Bool:=(List.range l.length).all fun k=>cond (Nat.beq (nthC l k) 5) (runC b0 ((itemsOf 0 l).set k ⟨k,7,some 0⟩) 0) true
noncomputable def badC (l:List Nat):Bool:=(List.range (3-l.length)).all fun r=>errsC.all fun u=>runC b0 (itemsOf 0 l++badI u::List.replicate r anyI) u
theorem unit_0:unitC []=true:=by kernel_rfl
theorem unit_a0:partC unitC 0=true:=by kernel_rfl
theorem unit_a1:partC unitC 1=true:=by kernel_rfl
theorem unit_a2:partC unitC 2=true:=by kernel_rfl
theorem unit_a5:partC unitC 5=true:=by kernel_rfl
theorem unit_a9:partC unitC 9=true:=by kernel_rfl
theorem unit_a:CL.all (partC unitC)=true:=by
 simp only [CL,List.all_cons,List.all_nil,unit_a0,unit_a1,unit_a2,unit_a5,unit_a9,Bool.and_self]
theorem bad_0:badC []=true:=by kernel_rfl
theorem bad_a0:partC badC 0=true:=by kernel_rfl
theorem bad_a1:partC badC 1=true:=by kernel_rfl
theorem bad_a2:partC badC 2=true:=by kernel_rfl
theorem bad_a5:partC badC 5=true:=by kernel_rfl
theorem bad_a9:partC badC 9=true:=by kernel_rfl
theorem bad_a:CL.all (partC badC)=true:=by
 simp only [CL,List.all_cons,List.all_nil,bad_a0,bad_a1,bad_a2,bad_a5,bad_a9,Bool.and_self]
theorem runQ_b:([[],[49],[97,32,98]].all fun bs=>runQ none 0 bs 8)=true:=by kernel_rfl
theorem runQ_13:runQ (some 13) 0 b0 4=true:=by kernel_rfl
theorem runQ_14:runQ (some 14) 0 b0 4=true:=by kernel_rfl
theorem runQ_m:((List.range 30).all fun z=>runQ none (Int.ofNat (z+1)) b0 (Int.ofNat (z+1)))=true:=by kernel_rfl
set_option maxRecDepth 100000
noncomputable def t11C (l:List Nat):Bool:=runC b0 (itemsOf 0 l++List.replicate (11-l.length) tiltI) 0
theorem t11_0:t11C []=true:=by kernel_rfl
theorem t11_a0:partC t11C 0=true:=by kernel_rfl
theorem t11_a1:partC t11C 1=true:=by kernel_rfl
theorem t11_a2:partC t11C 2=true:=by kernel_rfl
theorem t11_a5:partC t11C 5=true:=by kernel_rfl
theorem t11_a9:partC t11C 9=true:=by kernel_rfl
theorem t11_a:CL.all (partC t11C)=true:=by
 simp only [CL,List.all_cons,List.all_nil,t11_a0,t11_a1,t11_a2,t11_a5,t11_a9,Bool.and_self]
end Go.Proofs.YtkjinnjopoehhaaGreatDoor
