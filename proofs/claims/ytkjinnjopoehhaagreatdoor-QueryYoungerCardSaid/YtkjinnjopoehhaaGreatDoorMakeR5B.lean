/-
  klippelaw30.Make behind its mesh, at shapes of at most three deeds over 5 points: the runs.
-/
import Derived.Test.YtkjinnjopoehhaaGreatDoorSimA
namespace Go.Proofs.YtkjinnjopoehhaaGreatDoor
open Go Ev Klp
set_option maxRecDepth 100000
theorem q5_7:runM [dl5_2 0 5]=true:=by kernel_rfl
theorem p5_7_0:partB 5 (dl5_2 0 5) 0=true:=by kernel_rfl
theorem p5_7_3:partB 5 (dl5_2 0 5) 3=true:=by kernel_rfl
theorem p5_7_6:partB 5 (dl5_2 0 5) 6=true:=by kernel_rfl
theorem p5_7_9:partB 5 (dl5_2 0 5) 9=true:=by kernel_rfl
theorem p5_7_12:partE 5 (dl5_2 0 5)=true:=by kernel_rfl
theorem part5_7:partM 5 (dl5_2 0 5)=true:=partM_of q5_7 p5_7_0 p5_7_3 p5_7_6 p5_7_9 p5_7_12
theorem q5_8:runM [dl5_3 0 5]=true:=by kernel_rfl
theorem p5_8_0:partB 5 (dl5_3 0 5) 0=true:=by kernel_rfl
theorem p5_8_3:partB 5 (dl5_3 0 5) 3=true:=by kernel_rfl
theorem p5_8_6:partB 5 (dl5_3 0 5) 6=true:=by kernel_rfl
theorem p5_8_9:partB 5 (dl5_3 0 5) 9=true:=by kernel_rfl
theorem p5_8_12:partE 5 (dl5_3 0 5)=true:=by kernel_rfl
theorem part5_8:partM 5 (dl5_3 0 5)=true:=partM_of q5_8 p5_8_0 p5_8_3 p5_8_6 p5_8_9 p5_8_12
theorem q5_9:runM [dl5_4 0 5]=true:=by kernel_rfl
theorem p5_9_0:partB 5 (dl5_4 0 5) 0=true:=by kernel_rfl
theorem p5_9_3:partB 5 (dl5_4 0 5) 3=true:=by kernel_rfl
theorem p5_9_6:partB 5 (dl5_4 0 5) 6=true:=by kernel_rfl
theorem p5_9_9:partB 5 (dl5_4 0 5) 9=true:=by kernel_rfl
theorem p5_9_12:partE 5 (dl5_4 0 5)=true:=by kernel_rfl
theorem part5_9:partM 5 (dl5_4 0 5)=true:=partM_of q5_9 p5_9_0 p5_9_3 p5_9_6 p5_9_9 p5_9_12
theorem q5_10:runM [dl5_5 0 5]=true:=by kernel_rfl
theorem p5_10_0:partB 5 (dl5_5 0 5) 0=true:=by kernel_rfl
theorem p5_10_3:partB 5 (dl5_5 0 5) 3=true:=by kernel_rfl
theorem p5_10_6:partB 5 (dl5_5 0 5) 6=true:=by kernel_rfl
theorem p5_10_9:partB 5 (dl5_5 0 5) 9=true:=by kernel_rfl
theorem p5_10_12:partE 5 (dl5_5 0 5)=true:=by kernel_rfl
theorem part5_10:partM 5 (dl5_5 0 5)=true:=partM_of q5_10 p5_10_0 p5_10_3 p5_10_6 p5_10_9 p5_10_12
theorem q5_11:runM [dl1_0_5 0]=true:=by kernel_rfl
theorem p5_11_0:partB 5 (dl1_0_5 0) 0=true:=by kernel_rfl
theorem p5_11_3:partB 5 (dl1_0_5 0) 3=true:=by kernel_rfl
theorem p5_11_6:partB 5 (dl1_0_5 0) 6=true:=by kernel_rfl
theorem p5_11_9:partB 5 (dl1_0_5 0) 9=true:=by kernel_rfl
theorem p5_11_12:partE 5 (dl1_0_5 0)=true:=by kernel_rfl
theorem part5_11:partM 5 (dl1_0_5 0)=true:=partM_of q5_11 p5_11_0 p5_11_3 p5_11_6 p5_11_9 p5_11_12
theorem q5_12:runM [dl1_1_5 0]=true:=by kernel_rfl
theorem p5_12_0:partB 5 (dl1_1_5 0) 0=true:=by kernel_rfl
theorem p5_12_3:partB 5 (dl1_1_5 0) 3=true:=by kernel_rfl
theorem p5_12_6:partB 5 (dl1_1_5 0) 6=true:=by kernel_rfl
theorem p5_12_9:partB 5 (dl1_1_5 0) 9=true:=by kernel_rfl
theorem p5_12_12:partE 5 (dl1_1_5 0)=true:=by kernel_rfl
theorem part5_12:partM 5 (dl1_1_5 0)=true:=partM_of q5_12 p5_12_0 p5_12_3 p5_12_6 p5_12_9 p5_12_12
theorem q5_13:runM [dl1_2_5 0]=true:=by kernel_rfl
theorem p5_13_0:partB 5 (dl1_2_5 0) 0=true:=by kernel_rfl
theorem p5_13_3:partB 5 (dl1_2_5 0) 3=true:=by kernel_rfl
theorem p5_13_6:partB 5 (dl1_2_5 0) 6=true:=by kernel_rfl
theorem p5_13_9:partB 5 (dl1_2_5 0) 9=true:=by kernel_rfl
theorem p5_13_12:partE 5 (dl1_2_5 0)=true:=by kernel_rfl
theorem part5_13:partM 5 (dl1_2_5 0)=true:=partM_of q5_13 p5_13_0 p5_13_3 p5_13_6 p5_13_9 p5_13_12
end Go.Proofs.YtkjinnjopoehhaaGreatDoor
