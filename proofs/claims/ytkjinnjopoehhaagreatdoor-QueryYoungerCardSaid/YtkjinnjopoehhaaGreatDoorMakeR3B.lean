/-
  klippelaw30.Make behind its mesh, at shapes of at most three deeds over 3 points: the runs.
-/
import Derived.Test.YtkjinnjopoehhaaGreatDoorSimA
namespace Go.Proofs.YtkjinnjopoehhaaGreatDoor
open Go Ev Klp
set_option maxRecDepth 100000
theorem q3_7:runM [dl5_2 0 3]=true:=by kernel_rfl
theorem p3_7_0:partB 3 (dl5_2 0 3) 0=true:=by kernel_rfl
theorem p3_7_3:partB 3 (dl5_2 0 3) 3=true:=by kernel_rfl
theorem p3_7_6:partB 3 (dl5_2 0 3) 6=true:=by kernel_rfl
theorem p3_7_9:partB 3 (dl5_2 0 3) 9=true:=by kernel_rfl
theorem p3_7_12:partE 3 (dl5_2 0 3)=true:=by kernel_rfl
theorem part3_7:partM 3 (dl5_2 0 3)=true:=partM_of q3_7 p3_7_0 p3_7_3 p3_7_6 p3_7_9 p3_7_12
theorem q3_8:runM [dl5_3 0 3]=true:=by kernel_rfl
theorem p3_8_0:partB 3 (dl5_3 0 3) 0=true:=by kernel_rfl
theorem p3_8_3:partB 3 (dl5_3 0 3) 3=true:=by kernel_rfl
theorem p3_8_6:partB 3 (dl5_3 0 3) 6=true:=by kernel_rfl
theorem p3_8_9:partB 3 (dl5_3 0 3) 9=true:=by kernel_rfl
theorem p3_8_12:partE 3 (dl5_3 0 3)=true:=by kernel_rfl
theorem part3_8:partM 3 (dl5_3 0 3)=true:=partM_of q3_8 p3_8_0 p3_8_3 p3_8_6 p3_8_9 p3_8_12
theorem q3_9:runM [dl5_4 0 3]=true:=by kernel_rfl
theorem p3_9_0:partB 3 (dl5_4 0 3) 0=true:=by kernel_rfl
theorem p3_9_3:partB 3 (dl5_4 0 3) 3=true:=by kernel_rfl
theorem p3_9_6:partB 3 (dl5_4 0 3) 6=true:=by kernel_rfl
theorem p3_9_9:partB 3 (dl5_4 0 3) 9=true:=by kernel_rfl
theorem p3_9_12:partE 3 (dl5_4 0 3)=true:=by kernel_rfl
theorem part3_9:partM 3 (dl5_4 0 3)=true:=partM_of q3_9 p3_9_0 p3_9_3 p3_9_6 p3_9_9 p3_9_12
theorem q3_10:runM [dl5_5 0 3]=true:=by kernel_rfl
theorem p3_10_0:partB 3 (dl5_5 0 3) 0=true:=by kernel_rfl
theorem p3_10_3:partB 3 (dl5_5 0 3) 3=true:=by kernel_rfl
theorem p3_10_6:partB 3 (dl5_5 0 3) 6=true:=by kernel_rfl
theorem p3_10_9:partB 3 (dl5_5 0 3) 9=true:=by kernel_rfl
theorem p3_10_12:partE 3 (dl5_5 0 3)=true:=by kernel_rfl
theorem part3_10:partM 3 (dl5_5 0 3)=true:=partM_of q3_10 p3_10_0 p3_10_3 p3_10_6 p3_10_9 p3_10_12
theorem q3_11:runM [dl1_0_3 0]=true:=by kernel_rfl
theorem p3_11_0:partB 3 (dl1_0_3 0) 0=true:=by kernel_rfl
theorem p3_11_3:partB 3 (dl1_0_3 0) 3=true:=by kernel_rfl
theorem p3_11_6:partB 3 (dl1_0_3 0) 6=true:=by kernel_rfl
theorem p3_11_9:partB 3 (dl1_0_3 0) 9=true:=by kernel_rfl
theorem p3_11_12:partE 3 (dl1_0_3 0)=true:=by kernel_rfl
theorem part3_11:partM 3 (dl1_0_3 0)=true:=partM_of q3_11 p3_11_0 p3_11_3 p3_11_6 p3_11_9 p3_11_12
theorem q3_12:runM [dl1_1_3 0]=true:=by kernel_rfl
theorem p3_12_0:partB 3 (dl1_1_3 0) 0=true:=by kernel_rfl
theorem p3_12_3:partB 3 (dl1_1_3 0) 3=true:=by kernel_rfl
theorem p3_12_6:partB 3 (dl1_1_3 0) 6=true:=by kernel_rfl
theorem p3_12_9:partB 3 (dl1_1_3 0) 9=true:=by kernel_rfl
theorem p3_12_12:partE 3 (dl1_1_3 0)=true:=by kernel_rfl
theorem part3_12:partM 3 (dl1_1_3 0)=true:=partM_of q3_12 p3_12_0 p3_12_3 p3_12_6 p3_12_9 p3_12_12
theorem q3_13:runM [dl1_2_3 0]=true:=by kernel_rfl
theorem p3_13_0:partB 3 (dl1_2_3 0) 0=true:=by kernel_rfl
theorem p3_13_3:partB 3 (dl1_2_3 0) 3=true:=by kernel_rfl
theorem p3_13_6:partB 3 (dl1_2_3 0) 6=true:=by kernel_rfl
theorem p3_13_9:partB 3 (dl1_2_3 0) 9=true:=by kernel_rfl
theorem p3_13_12:partE 3 (dl1_2_3 0)=true:=by kernel_rfl
theorem part3_13:partM 3 (dl1_2_3 0)=true:=partM_of q3_13 p3_13_0 p3_13_3 p3_13_6 p3_13_9 p3_13_12
end Go.Proofs.YtkjinnjopoehhaaGreatDoor
