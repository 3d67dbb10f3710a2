/-
  history.Check on events that are symbols: a copy of an event behind them, the other classes.
-/
import Derived.Test.YtkjinnjopoehhaaGreatDoorHistX
set_option linter.unusedSectionVars false
set_option linter.unusedVariables false
set_option linter.unusedSimpArgs false
namespace Go.Proofs.YtkjinnjopoehhaaGreatDoor
open Go Ev Klp
set_option maxRecDepth 100000
noncomputable def copyC (l:List Nat):Bool:=(List.range l.length).all fun k=>runC b0 (itemsOf 0 l++[⟨k,nthC l k,some 0⟩]) (dupSh (nthC l k))
noncomputable def partD (f:List Nat→Bool) (a b:Nat):Bool:=f [a,b]&&CL.all fun c=>f [a,b,c]
theorem partC_of {f:List Nat→Bool} {a:Nat} (h:f [a]=true) (hb:CL.all (partD f a)=true):partC f a=true:=by
 unfold partC
 rw [h,Bool.true_and]
 exact hb
theorem copy_0:copyC []=true:=by kernel_rfl
theorem copy_b0:copyC [0]=true:=by kernel_rfl
theorem copy_b00:partD copyC 0 0=true:=by kernel_rfl
theorem copy_b01:partD copyC 0 1=true:=by kernel_rfl
theorem copy_b02:partD copyC 0 2=true:=by kernel_rfl
theorem copy_b05:partD copyC 0 5=true:=by kernel_rfl
theorem copy_b09:partD copyC 0 9=true:=by kernel_rfl
theorem copy_a0:partC copyC 0=true:=partC_of copy_b0 (by simp only [CL,List.all_cons,List.all_nil,copy_b00,copy_b01,copy_b02,copy_b05,copy_b09,Bool.and_self])
theorem copy_b1:copyC [1]=true:=by kernel_rfl
theorem copy_b10:partD copyC 1 0=true:=by kernel_rfl
theorem copy_b11:partD copyC 1 1=true:=by kernel_rfl
theorem copy_b12:partD copyC 1 2=true:=by kernel_rfl
theorem copy_b15:partD copyC 1 5=true:=by kernel_rfl
theorem copy_b19:partD copyC 1 9=true:=by kernel_rfl
theorem copy_a1:partC copyC 1=true:=partC_of copy_b1 (by simp only [CL,List.all_cons,List.all_nil,copy_b10,copy_b11,copy_b12,copy_b15,copy_b19,Bool.and_self])
theorem copy_b2:copyC [2]=true:=by kernel_rfl
theorem copy_b20:partD copyC 2 0=true:=by kernel_rfl
theorem copy_b21:partD copyC 2 1=true:=by kernel_rfl
theorem copy_b22:partD copyC 2 2=true:=by kernel_rfl
theorem copy_b25:partD copyC 2 5=true:=by kernel_rfl
theorem copy_b29:partD copyC 2 9=true:=by kernel_rfl
theorem copy_a2:partC copyC 2=true:=partC_of copy_b2 (by simp only [CL,List.all_cons,List.all_nil,copy_b20,copy_b21,copy_b22,copy_b25,copy_b29,Bool.and_self])
set_option maxRecDepth 100000
theorem copy_b5:copyC [5]=true:=by kernel_rfl
theorem copy_b50:partD copyC 5 0=true:=by kernel_rfl
theorem copy_b51:partD copyC 5 1=true:=by kernel_rfl
theorem copy_b52:partD copyC 5 2=true:=by kernel_rfl
theorem copy_b55:partD copyC 5 5=true:=by kernel_rfl
theorem copy_b59:partD copyC 5 9=true:=by kernel_rfl
theorem copy_a5:partC copyC 5=true:=partC_of copy_b5 (by simp only [CL,List.all_cons,List.all_nil,copy_b50,copy_b51,copy_b52,copy_b55,copy_b59,Bool.and_self])
theorem copy_b9:copyC [9]=true:=by kernel_rfl
theorem copy_b90:partD copyC 9 0=true:=by kernel_rfl
theorem copy_b91:partD copyC 9 1=true:=by kernel_rfl
theorem copy_b92:partD copyC 9 2=true:=by kernel_rfl
theorem copy_b95:partD copyC 9 5=true:=by kernel_rfl
theorem copy_b99:partD copyC 9 9=true:=by kernel_rfl
theorem copy_a9:partC copyC 9=true:=partC_of copy_b9 (by simp only [CL,List.all_cons,List.all_nil,copy_b90,copy_b91,copy_b92,copy_b95,copy_b99,Bool.and_self])
theorem copy_a:CL.all (partC copyC)=true:=by
 simp only [CL,List.all_cons,List.all_nil,copy_a0,copy_a1,copy_a2,copy_a5,copy_a9,Bool.and_self]
end Go.Proofs.YtkjinnjopoehhaaGreatDoor
