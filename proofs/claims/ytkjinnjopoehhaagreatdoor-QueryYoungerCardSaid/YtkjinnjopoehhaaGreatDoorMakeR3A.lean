/-
  klippelaw30.Make behind its mesh, at shapes of at most three deeds over 3 points: the runs.
-/
import Derived.Test.YtkjinnjopoehhaaGreatDoorSimA
namespace Go.Proofs.YtkjinnjopoehhaaGreatDoor
open Go Ev Klp
set_option maxRecDepth 100000
theorem runs0:runM []=true:=by kernel_rfl
theorem q3_0:runM [dl2_0 0 3]=true:=by kernel_rfl
theorem p3_0_0:partB 3 (dl2_0 0 3) 0=true:=by kernel_rfl
theorem p3_0_3:partB 3 (dl2_0 0 3) 3=true:=by kernel_rfl
theorem p3_0_6:partB 3 (dl2_0 0 3) 6=true:=by kernel_rfl
theorem p3_0_9:partB 3 (dl2_0 0 3) 9=true:=by kernel_rfl
theorem p3_0_12:partE 3 (dl2_0 0 3)=true:=by kernel_rfl
theorem part3_0:partM 3 (dl2_0 0 3)=true:=partM_of q3_0 p3_0_0 p3_0_3 p3_0_6 p3_0_9 p3_0_12
theorem q3_1:runM [dl4_0 0 3]=true:=by kernel_rfl
theorem p3_1_0:partB 3 (dl4_0 0 3) 0=true:=by kernel_rfl
theorem p3_1_3:partB 3 (dl4_0 0 3) 3=true:=by kernel_rfl
theorem p3_1_6:partB 3 (dl4_0 0 3) 6=true:=by kernel_rfl
theorem p3_1_9:partB 3 (dl4_0 0 3) 9=true:=by kernel_rfl
theorem p3_1_12:partE 3 (dl4_0 0 3)=true:=by kernel_rfl
theorem part3_1:partM 3 (dl4_0 0 3)=true:=partM_of q3_1 p3_1_0 p3_1_3 p3_1_6 p3_1_9 p3_1_12
theorem q3_2:runM [dl3_0 0 3]=true:=by kernel_rfl
theorem p3_2_0:partB 3 (dl3_0 0 3) 0=true:=by kernel_rfl
theorem p3_2_3:partB 3 (dl3_0 0 3) 3=true:=by kernel_rfl
theorem p3_2_6:partB 3 (dl3_0 0 3) 6=true:=by kernel_rfl
theorem p3_2_9:partB 3 (dl3_0 0 3) 9=true:=by kernel_rfl
theorem p3_2_12:partE 3 (dl3_0 0 3)=true:=by kernel_rfl
theorem part3_2:partM 3 (dl3_0 0 3)=true:=partM_of q3_2 p3_2_0 p3_2_3 p3_2_6 p3_2_9 p3_2_12
theorem q3_3:runM [dl3_2 0 3]=true:=by kernel_rfl
theorem p3_3_0:partB 3 (dl3_2 0 3) 0=true:=by kernel_rfl
theorem p3_3_3:partB 3 (dl3_2 0 3) 3=true:=by kernel_rfl
theorem p3_3_6:partB 3 (dl3_2 0 3) 6=true:=by kernel_rfl
theorem p3_3_9:partB 3 (dl3_2 0 3) 9=true:=by kernel_rfl
theorem p3_3_12:partE 3 (dl3_2 0 3)=true:=by kernel_rfl
theorem part3_3:partM 3 (dl3_2 0 3)=true:=partM_of q3_3 p3_3_0 p3_3_3 p3_3_6 p3_3_9 p3_3_12
theorem q3_4:runM [dl3_4 0 3]=true:=by kernel_rfl
theorem p3_4_0:partB 3 (dl3_4 0 3) 0=true:=by kernel_rfl
theorem p3_4_3:partB 3 (dl3_4 0 3) 3=true:=by kernel_rfl
theorem p3_4_6:partB 3 (dl3_4 0 3) 6=true:=by kernel_rfl
theorem p3_4_9:partB 3 (dl3_4 0 3) 9=true:=by kernel_rfl
theorem p3_4_12:partE 3 (dl3_4 0 3)=true:=by kernel_rfl
theorem part3_4:partM 3 (dl3_4 0 3)=true:=partM_of q3_4 p3_4_0 p3_4_3 p3_4_6 p3_4_9 p3_4_12
theorem q3_5:runM [dl5_0 0 3]=true:=by kernel_rfl
theorem p3_5_0:partB 3 (dl5_0 0 3) 0=true:=by kernel_rfl
theorem p3_5_3:partB 3 (dl5_0 0 3) 3=true:=by kernel_rfl
theorem p3_5_6:partB 3 (dl5_0 0 3) 6=true:=by kernel_rfl
theorem p3_5_9:partB 3 (dl5_0 0 3) 9=true:=by kernel_rfl
theorem p3_5_12:partE 3 (dl5_0 0 3)=true:=by kernel_rfl
theorem part3_5:partM 3 (dl5_0 0 3)=true:=partM_of q3_5 p3_5_0 p3_5_3 p3_5_6 p3_5_9 p3_5_12
theorem q3_6:runM [dl5_1 0 3]=true:=by kernel_rfl
theorem p3_6_0:partB 3 (dl5_1 0 3) 0=true:=by kernel_rfl
theorem p3_6_3:partB 3 (dl5_1 0 3) 3=true:=by kernel_rfl
theorem p3_6_6:partB 3 (dl5_1 0 3) 6=true:=by kernel_rfl
theorem p3_6_9:partB 3 (dl5_1 0 3) 9=true:=by kernel_rfl
theorem p3_6_12:partE 3 (dl5_1 0 3)=true:=by kernel_rfl
theorem part3_6:partM 3 (dl5_1 0 3)=true:=partM_of q3_6 p3_6_0 p3_6_3 p3_6_6 p3_6_9 p3_6_12
end Go.Proofs.YtkjinnjopoehhaaGreatDoor
