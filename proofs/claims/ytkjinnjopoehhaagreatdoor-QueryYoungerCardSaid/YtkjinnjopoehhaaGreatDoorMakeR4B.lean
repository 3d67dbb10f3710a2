/-
  klippelaw30.Make behind its mesh, at shapes of at most three deeds over 4 points: the runs.
-/
import Derived.Test.YtkjinnjopoehhaaGreatDoorSimA
namespace Go.Proofs.YtkjinnjopoehhaaGreatDoor
open Go Ev Klp
set_option maxRecDepth 100000
theorem q4_7:runM [dl5_2 0 4]=true:=by kernel_rfl
theorem p4_7_0:partB 4 (dl5_2 0 4) 0=true:=by kernel_rfl
theorem p4_7_3:partB 4 (dl5_2 0 4) 3=true:=by kernel_rfl
theorem p4_7_6:partB 4 (dl5_2 0 4) 6=true:=by kernel_rfl
theorem p4_7_9:partB 4 (dl5_2 0 4) 9=true:=by kernel_rfl
theorem p4_7_12:partE 4 (dl5_2 0 4)=true:=by kernel_rfl
theorem part4_7:partM 4 (dl5_2 0 4)=true:=partM_of q4_7 p4_7_0 p4_7_3 p4_7_6 p4_7_9 p4_7_12
theorem q4_8:runM [dl5_3 0 4]=true:=by kernel_rfl
theorem p4_8_0:partB 4 (dl5_3 0 4) 0=true:=by kernel_rfl
theorem p4_8_3:partB 4 (dl5_3 0 4) 3=true:=by kernel_rfl
theorem p4_8_6:partB 4 (dl5_3 0 4) 6=true:=by kernel_rfl
theorem p4_8_9:partB 4 (dl5_3 0 4) 9=true:=by kernel_rfl
theorem p4_8_12:partE 4 (dl5_3 0 4)=true:=by kernel_rfl
theorem part4_8:partM 4 (dl5_3 0 4)=true:=partM_of q4_8 p4_8_0 p4_8_3 p4_8_6 p4_8_9 p4_8_12
theorem q4_9:runM [dl5_4 0 4]=true:=by kernel_rfl
theorem p4_9_0:partB 4 (dl5_4 0 4) 0=true:=by kernel_rfl
theorem p4_9_3:partB 4 (dl5_4 0 4) 3=true:=by kernel_rfl
theorem p4_9_6:partB 4 (dl5_4 0 4) 6=true:=by kernel_rfl
theorem p4_9_9:partB 4 (dl5_4 0 4) 9=true:=by kernel_rfl
theorem p4_9_12:partE 4 (dl5_4 0 4)=true:=by kernel_rfl
theorem part4_9:partM 4 (dl5_4 0 4)=true:=partM_of q4_9 p4_9_0 p4_9_3 p4_9_6 p4_9_9 p4_9_12
theorem q4_10:runM [dl5_5 0 4]=true:=by kernel_rfl
theorem p4_10_0:partB 4 (dl5_5 0 4) 0=true:=by kernel_rfl
theorem p4_10_3:partB 4 (dl5_5 0 4) 3=true:=by kernel_rfl
theorem p4_10_6:partB 4 (dl5_5 0 4) 6=true:=by kernel_rfl
theorem p4_10_9:partB 4 (dl5_5 0 4) 9=true:=by kernel_rfl
theorem p4_10_12:partE 4 (dl5_5 0 4)=true:=by kernel_rfl
theorem part4_10:partM 4 (dl5_5 0 4)=true:=partM_of q4_10 p4_10_0 p4_10_3 p4_10_6 p4_10_9 p4_10_12
theorem q4_11:runM [dl1_0_4 0]=true:=by kernel_rfl
theorem p4_11_0:partB 4 (dl1_0_4 0) 0=true:=by kernel_rfl
theorem p4_11_3:partB 4 (dl1_0_4 0) 3=true:=by kernel_rfl
theorem p4_11_6:partB 4 (dl1_0_4 0) 6=true:=by kernel_rfl
theorem p4_11_9:partB 4 (dl1_0_4 0) 9=true:=by kernel_rfl
theorem p4_11_12:partE 4 (dl1_0_4 0)=true:=by kernel_rfl
theorem part4_11:partM 4 (dl1_0_4 0)=true:=partM_of q4_11 p4_11_0 p4_11_3 p4_11_6 p4_11_9 p4_11_12
theorem q4_12:runM [dl1_1_4 0]=true:=by kernel_rfl
theorem p4_12_0:partB 4 (dl1_1_4 0) 0=true:=by kernel_rfl
theorem p4_12_3:partB 4 (dl1_1_4 0) 3=true:=by kernel_rfl
theorem p4_12_6:partB 4 (dl1_1_4 0) 6=true:=by kernel_rfl
theorem p4_12_9:partB 4 (dl1_1_4 0) 9=true:=by kernel_rfl
theorem p4_12_12:partE 4 (dl1_1_4 0)=true:=by kernel_rfl
theorem part4_12:partM 4 (dl1_1_4 0)=true:=partM_of q4_12 p4_12_0 p4_12_3 p4_12_6 p4_12_9 p4_12_12
theorem q4_13:runM [dl1_2_4 0]=true:=by kernel_rfl
theorem p4_13_0:partB 4 (dl1_2_4 0) 0=true:=by kernel_rfl
theorem p4_13_3:partB 4 (dl1_2_4 0) 3=true:=by kernel_rfl
theorem p4_13_6:partB 4 (dl1_2_4 0) 6=true:=by kernel_rfl
theorem p4_13_9:partB 4 (dl1_2_4 0) 9=true:=by kernel_rfl
theorem p4_13_12:partE 4 (dl1_2_4 0)=true:=by kernel_rfl
theorem part4_13:partM 4 (dl1_2_4 0)=true:=partM_of q4_13 p4_13_0 p4_13_3 p4_13_6 p4_13_9 p4_13_12
end Go.Proofs.YtkjinnjopoehhaaGreatDoor
