/-
  klippelaw30.Changed on events that are opaque: its runs.
-/
import Derived.Test.YtkjinnjopoehhaaGreatDoorChgE
set_option linter.unusedSectionVars false
set_option linter.unusedVariables false
set_option linter.unusedSimpArgs false
namespace Go.Proofs.YtkjinnjopoehhaaGreatDoor
open Go Ev Klp
set_option maxRecDepth 100000
theorem runG0:runsG 0=true:=by kernel_rfl
theorem runG1:runsG 1=true:=by kernel_rfl
theorem runG2:runsG 2=true:=by kernel_rfl
theorem runG4:runsG 4=true:=by kernel_rfl
theorem runG5:runsG 5=true:=by kernel_rfl
theorem runG6:runsG 6=true:=by kernel_rfl
theorem runG7:runsG 7=true:=by kernel_rfl
theorem runG3_0_0_0:runCh ⟨0,1,3,0,0,0⟩=true:=by kernel_rfl
theorem runG3_0_0_1:runCh ⟨0,1,3,0,1,0⟩=true:=by kernel_rfl
theorem runG3_0_0_2:runCh ⟨0,1,3,0,2,0⟩=true:=by kernel_rfl
theorem runG3_0_0_3:runCh ⟨0,1,3,0,3,0⟩=true:=by kernel_rfl
theorem runG3_1_0_0:runCh ⟨1,1,3,0,0,0⟩=true:=by kernel_rfl
theorem runG3_1_0_1:runCh ⟨1,1,3,0,1,0⟩=true:=by kernel_rfl
theorem runG3_1_0_2:runCh ⟨1,1,3,0,2,0⟩=true:=by kernel_rfl
theorem runG3_1_0_3:runCh ⟨1,1,3,0,3,0⟩=true:=by kernel_rfl
theorem runG3_2_0_0:runCh ⟨2,1,3,0,0,0⟩=true:=by kernel_rfl
theorem runG3_2_0_1:runCh ⟨2,1,3,0,1,0⟩=true:=by kernel_rfl
theorem runG3_2_0_2:runCh ⟨2,1,3,0,2,0⟩=true:=by kernel_rfl
theorem runG3_2_0_3:runCh ⟨2,1,3,0,3,0⟩=true:=by kernel_rfl
theorem runG3_2_1_0:runCh ⟨2,1,3,0,0,1⟩=true:=by kernel_rfl
theorem runG3_2_1_1:runCh ⟨2,1,3,0,1,1⟩=true:=by kernel_rfl
theorem runG3_2_1_2:runCh ⟨2,1,3,0,2,1⟩=true:=by kernel_rfl
theorem runG3_2_1_3:runCh ⟨2,1,3,0,3,1⟩=true:=by kernel_rfl
theorem runG3_3_0_0:runCh ⟨3,1,3,0,0,0⟩=true:=by kernel_rfl
theorem runG3_3_0_1:runCh ⟨3,1,3,0,1,0⟩=true:=by kernel_rfl
theorem runG3_3_0_2:runCh ⟨3,1,3,0,2,0⟩=true:=by kernel_rfl
theorem runG3_3_0_3:runCh ⟨3,1,3,0,3,0⟩=true:=by kernel_rfl
theorem runG3_3_1_0:runCh ⟨3,1,3,0,0,1⟩=true:=by kernel_rfl
theorem runG3_3_1_1:runCh ⟨3,1,3,0,1,1⟩=true:=by kernel_rfl
theorem runG3_3_1_2:runCh ⟨3,1,3,0,2,1⟩=true:=by kernel_rfl
theorem runG3_3_1_3:runCh ⟨3,1,3,0,3,1⟩=true:=by kernel_rfl
theorem runG3_3_2_0:runCh ⟨3,1,3,0,0,2⟩=true:=by kernel_rfl
theorem runG3_3_2_1:runCh ⟨3,1,3,0,1,2⟩=true:=by kernel_rfl
theorem runG3_3_2_2:runCh ⟨3,1,3,0,2,2⟩=true:=by kernel_rfl
theorem runG3_3_2_3:runCh ⟨3,1,3,0,3,2⟩=true:=by kernel_rfl
theorem runG3:runsG 3=true:=by
 refine List.all_eq_true.2 fun n hn=>List.all_eq_true.2 fun k hk=>List.all_eq_true.2 fun j5 h5=>List.all_eq_true.2 fun j4 h4=>List.all_eq_true.2 fun nt hnt => ?_
 have hn:=List.mem_range.1 hn
 have hk:=List.mem_range.1 hk
 have h5:j5<1:=List.mem_range.1 h5
 have h4:j4<4:=List.mem_range.1 h4
 have hnt:nt<1:=List.mem_range.1 hnt
 obtain rfl:j5=0:=by omega
 obtain rfl:nt=0:=by omega
 match n,k,j4,hn,hk,h4 with
 | 0,0,0,_,_,_=>exact runG3_0_0_0
 | 0,0,1,_,_,_=>exact runG3_0_0_1
 | 0,0,2,_,_,_=>exact runG3_0_0_2
 | 0,0,3,_,_,_=>exact runG3_0_0_3
 | 1,0,0,_,_,_=>exact runG3_1_0_0
 | 1,0,1,_,_,_=>exact runG3_1_0_1
 | 1,0,2,_,_,_=>exact runG3_1_0_2
 | 1,0,3,_,_,_=>exact runG3_1_0_3
 | 2,0,0,_,_,_=>exact runG3_2_0_0
 | 2,0,1,_,_,_=>exact runG3_2_0_1
 | 2,0,2,_,_,_=>exact runG3_2_0_2
 | 2,0,3,_,_,_=>exact runG3_2_0_3
 | 2,1,0,_,_,_=>exact runG3_2_1_0
 | 2,1,1,_,_,_=>exact runG3_2_1_1
 | 2,1,2,_,_,_=>exact runG3_2_1_2
 | 2,1,3,_,_,_=>exact runG3_2_1_3
 | 3,0,0,_,_,_=>exact runG3_3_0_0
 | 3,0,1,_,_,_=>exact runG3_3_0_1
 | 3,0,2,_,_,_=>exact runG3_3_0_2
 | 3,0,3,_,_,_=>exact runG3_3_0_3
 | 3,1,0,_,_,_=>exact runG3_3_1_0
 | 3,1,1,_,_,_=>exact runG3_3_1_1
 | 3,1,2,_,_,_=>exact runG3_3_1_2
 | 3,1,3,_,_,_=>exact runG3_3_1_3
 | 3,2,0,_,_,_=>exact runG3_3_2_0
 | 3,2,1,_,_,_=>exact runG3_3_2_1
 | 3,2,2,_,_,_=>exact runG3_3_2_2
 | 3,2,3,_,_,_=>exact runG3_3_2_3
 | 0,k+1,_,_,h,_=>exact absurd (show k+1<1 from h) (by omega)
 | 1,k+1,_,_,h,_=>exact absurd (show k+1<1 from h) (by omega)
 | 2,k+2,_,_,h,_=>exact absurd (show k+2<2 from h) (by omega)
 | 3,k+3,_,_,h,_=>exact absurd (show k+3<3 from h) (by omega)
 | n+4,_,_,h,_,_=>exact absurd h (by omega)
 | _,_,j+4,_,_,h=>exact absurd h (by omega)
theorem runsG_all:∀ j,j<8→runsG j=true
 | 0,_=>runG0 | 1,_=>runG1 | 2,_=>runG2 | 3,_=>runG3 | 4,_=>runG4 | 5,_=>runG5 | 6,_=>runG6 | 7,_=>runG7
 | n+8,h=>absurd h (by omega)
theorem runCh_all {n k j j5 j4 nt:Nat} (hn:n<4) (hk:k<max1 n) (hj:j<8) (h5:j5<cond (Nat.beq j 1) 5 1) (h4:j4<cond (j36 j) 4 1) (hnt:nt<cond (Nat.beq j 2) 12 1):runCh ⟨n,nt+1,j,j5,j4,k⟩=true:=
 List.all_eq_true.1 (List.all_eq_true.1 (List.all_eq_true.1 (List.all_eq_true.1 (List.all_eq_true.1 (runsG_all j hj) n (List.mem_range.2 hn)) k (List.mem_range.2 hk)) j5 (List.mem_range.2 h5)) j4 (List.mem_range.2 h4)) nt (List.mem_range.2 hnt)
end Go.Proofs.YtkjinnjopoehhaaGreatDoor
