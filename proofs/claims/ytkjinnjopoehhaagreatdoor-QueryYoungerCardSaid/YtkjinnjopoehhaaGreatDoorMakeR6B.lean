/-
  klippelaw30.Make behind its mesh, at shapes of at most three deeds over 6 points: the runs.
-/
import Derived.Test.YtkjinnjopoehhaaGreatDoorSimA
namespace Go.Proofs.YtkjinnjopoehhaaGreatDoor
open Go Ev Klp
set_option maxRecDepth 100000
theorem q6_7:runM [dl5_2 0 6]=true:=by kernel_rfl
theorem p6_7_0:partB 6 (dl5_2 0 6) 0=true:=by kernel_rfl
theorem p6_7_3:partB 6 (dl5_2 0 6) 3=true:=by kernel_rfl
theorem p6_7_6:partB 6 (dl5_2 0 6) 6=true:=by kernel_rfl
theorem p6_7_9:partB 6 (dl5_2 0 6) 9=true:=by kernel_rfl
theorem p6_7_12:partE 6 (dl5_2 0 6)=true:=by kernel_rfl
theorem part6_7:partM 6 (dl5_2 0 6)=true:=partM_of q6_7 p6_7_0 p6_7_3 p6_7_6 p6_7_9 p6_7_12
theorem q6_8:runM [dl5_3 0 6]=true:=by kernel_rfl
theorem p6_8_0:partB 6 (dl5_3 0 6) 0=true:=by kernel_rfl
theorem p6_8_3:partB 6 (dl5_3 0 6) 3=true:=by kernel_rfl
theorem p6_8_6:partB 6 (dl5_3 0 6) 6=true:=by kernel_rfl
theorem p6_8_9:partB 6 (dl5_3 0 6) 9=true:=by kernel_rfl
theorem p6_8_12:partE 6 (dl5_3 0 6)=true:=by kernel_rfl
theorem part6_8:partM 6 (dl5_3 0 6)=true:=partM_of q6_8 p6_8_0 p6_8_3 p6_8_6 p6_8_9 p6_8_12
theorem q6_9:runM [dl5_4 0 6]=true:=by kernel_rfl
theorem p6_9_0:partB 6 (dl5_4 0 6) 0=true:=by kernel_rfl
theorem p6_9_3:partB 6 (dl5_4 0 6) 3=true:=by kernel_rfl
theorem p6_9_6:partB 6 (dl5_4 0 6) 6=true:=by kernel_rfl
theorem p6_9_9:partB 6 (dl5_4 0 6) 9=true:=by kernel_rfl
theorem p6_9_12:partE 6 (dl5_4 0 6)=true:=by kernel_rfl
theorem part6_9:partM 6 (dl5_4 0 6)=true:=partM_of q6_9 p6_9_0 p6_9_3 p6_9_6 p6_9_9 p6_9_12
theorem q6_10:runM [dl5_5 0 6]=true:=by kernel_rfl
theorem p6_10_0:partB 6 (dl5_5 0 6) 0=true:=by kernel_rfl
theorem p6_10_3:partB 6 (dl5_5 0 6) 3=true:=by kernel_rfl
theorem p6_10_6:partB 6 (dl5_5 0 6) 6=true:=by kernel_rfl
theorem p6_10_9:partB 6 (dl5_5 0 6) 9=true:=by kernel_rfl
theorem p6_10_12:partE 6 (dl5_5 0 6)=true:=by kernel_rfl
theorem part6_10:partM 6 (dl5_5 0 6)=true:=partM_of q6_10 p6_10_0 p6_10_3 p6_10_6 p6_10_9 p6_10_12
theorem q6_11:runM [dl1_0_6 0]=true:=by kernel_rfl
theorem p6_11_0:partB 6 (dl1_0_6 0) 0=true:=by kernel_rfl
theorem p6_11_3:partB 6 (dl1_0_6 0) 3=true:=by kernel_rfl
theorem p6_11_6:partB 6 (dl1_0_6 0) 6=true:=by kernel_rfl
theorem p6_11_9:partB 6 (dl1_0_6 0) 9=true:=by kernel_rfl
theorem p6_11_12:partE 6 (dl1_0_6 0)=true:=by kernel_rfl
theorem part6_11:partM 6 (dl1_0_6 0)=true:=partM_of q6_11 p6_11_0 p6_11_3 p6_11_6 p6_11_9 p6_11_12
theorem q6_12:runM [dl1_1_6 0]=true:=by kernel_rfl
theorem p6_12_0:partB 6 (dl1_1_6 0) 0=true:=by kernel_rfl
theorem p6_12_3:partB 6 (dl1_1_6 0) 3=true:=by kernel_rfl
theorem p6_12_6:partB 6 (dl1_1_6 0) 6=true:=by kernel_rfl
theorem p6_12_9:partB 6 (dl1_1_6 0) 9=true:=by kernel_rfl
theorem p6_12_12:partE 6 (dl1_1_6 0)=true:=by kernel_rfl
theorem part6_12:partM 6 (dl1_1_6 0)=true:=partM_of q6_12 p6_12_0 p6_12_3 p6_12_6 p6_12_9 p6_12_12
theorem q6_13:runM [dl1_2_6 0]=true:=by kernel_rfl
theorem p6_13_0:partB 6 (dl1_2_6 0) 0=true:=by kernel_rfl
theorem p6_13_3:partB 6 (dl1_2_6 0) 3=true:=by kernel_rfl
theorem p6_13_6:partB 6 (dl1_2_6 0) 6=true:=by kernel_rfl
theorem p6_13_9:partB 6 (dl1_2_6 0) 9=true:=by kernel_rfl
theorem p6_13_12:partE 6 (dl1_2_6 0)=true:=by kernel_rfl
theorem part6_13:partM 6 (dl1_2_6 0)=true:=partM_of q6_13 p6_13_0 p6_13_3 p6_13_6 p6_13_9 p6_13_12
end Go.Proofs.YtkjinnjopoehhaaGreatDoor
