/-
  klippelaw30.Make behind its mesh, at shapes of at most three deeds over 6 points: the runs.
-/
import Derived.Test.YtkjinnjopoehhaaGreatDoorSimA
namespace Go.Proofs.YtkjinnjopoehhaaGreatDoor
open Go Ev Klp
set_option maxRecDepth 100000
theorem q6_0:runM [dl2_0 0 6]=true:=by kernel_rfl
theorem p6_0_0:partB 6 (dl2_0 0 6) 0=true:=by kernel_rfl
theorem p6_0_3:partB 6 (dl2_0 0 6) 3=true:=by kernel_rfl
theorem p6_0_6:partB 6 (dl2_0 0 6) 6=true:=by kernel_rfl
theorem p6_0_9:partB 6 (dl2_0 0 6) 9=true:=by kernel_rfl
theorem p6_0_12:partE 6 (dl2_0 0 6)=true:=by kernel_rfl
theorem part6_0:partM 6 (dl2_0 0 6)=true:=partM_of q6_0 p6_0_0 p6_0_3 p6_0_6 p6_0_9 p6_0_12
theorem q6_1:runM [dl4_0 0 6]=true:=by kernel_rfl
theorem p6_1_0:partB 6 (dl4_0 0 6) 0=true:=by kernel_rfl
theorem p6_1_3:partB 6 (dl4_0 0 6) 3=true:=by kernel_rfl
theorem p6_1_6:partB 6 (dl4_0 0 6) 6=true:=by kernel_rfl
theorem p6_1_9:partB 6 (dl4_0 0 6) 9=true:=by kernel_rfl
theorem p6_1_12:partE 6 (dl4_0 0 6)=true:=by kernel_rfl
theorem part6_1:partM 6 (dl4_0 0 6)=true:=partM_of q6_1 p6_1_0 p6_1_3 p6_1_6 p6_1_9 p6_1_12
theorem q6_2:runM [dl3_0 0 6]=true:=by kernel_rfl
theorem p6_2_0:partB 6 (dl3_0 0 6) 0=true:=by kernel_rfl
theorem p6_2_3:partB 6 (dl3_0 0 6) 3=true:=by kernel_rfl
theorem p6_2_6:partB 6 (dl3_0 0 6) 6=true:=by kernel_rfl
theorem p6_2_9:partB 6 (dl3_0 0 6) 9=true:=by kernel_rfl
theorem p6_2_12:partE 6 (dl3_0 0 6)=true:=by kernel_rfl
theorem part6_2:partM 6 (dl3_0 0 6)=true:=partM_of q6_2 p6_2_0 p6_2_3 p6_2_6 p6_2_9 p6_2_12
theorem q6_3:runM [dl3_2 0 6]=true:=by kernel_rfl
theorem p6_3_0:partB 6 (dl3_2 0 6) 0=true:=by kernel_rfl
theorem p6_3_3:partB 6 (dl3_2 0 6) 3=true:=by kernel_rfl
theorem p6_3_6:partB 6 (dl3_2 0 6) 6=true:=by kernel_rfl
theorem p6_3_9:partB 6 (dl3_2 0 6) 9=true:=by kernel_rfl
theorem p6_3_12:partE 6 (dl3_2 0 6)=true:=by kernel_rfl
theorem part6_3:partM 6 (dl3_2 0 6)=true:=partM_of q6_3 p6_3_0 p6_3_3 p6_3_6 p6_3_9 p6_3_12
theorem q6_4:runM [dl3_4 0 6]=true:=by kernel_rfl
theorem p6_4_0:partB 6 (dl3_4 0 6) 0=true:=by kernel_rfl
theorem p6_4_3:partB 6 (dl3_4 0 6) 3=true:=by kernel_rfl
theorem p6_4_6:partB 6 (dl3_4 0 6) 6=true:=by kernel_rfl
theorem p6_4_9:partB 6 (dl3_4 0 6) 9=true:=by kernel_rfl
theorem p6_4_12:partE 6 (dl3_4 0 6)=true:=by kernel_rfl
theorem part6_4:partM 6 (dl3_4 0 6)=true:=partM_of q6_4 p6_4_0 p6_4_3 p6_4_6 p6_4_9 p6_4_12
theorem q6_5:runM [dl5_0 0 6]=true:=by kernel_rfl
theorem p6_5_0:partB 6 (dl5_0 0 6) 0=true:=by kernel_rfl
theorem p6_5_3:partB 6 (dl5_0 0 6) 3=true:=by kernel_rfl
theorem p6_5_6:partB 6 (dl5_0 0 6) 6=true:=by kernel_rfl
theorem p6_5_9:partB 6 (dl5_0 0 6) 9=true:=by kernel_rfl
theorem p6_5_12:partE 6 (dl5_0 0 6)=true:=by kernel_rfl
theorem part6_5:partM 6 (dl5_0 0 6)=true:=partM_of q6_5 p6_5_0 p6_5_3 p6_5_6 p6_5_9 p6_5_12
theorem q6_6:runM [dl5_1 0 6]=true:=by kernel_rfl
theorem p6_6_0:partB 6 (dl5_1 0 6) 0=true:=by kernel_rfl
theorem p6_6_3:partB 6 (dl5_1 0 6) 3=true:=by kernel_rfl
theorem p6_6_6:partB 6 (dl5_1 0 6) 6=true:=by kernel_rfl
theorem p6_6_9:partB 6 (dl5_1 0 6) 9=true:=by kernel_rfl
theorem p6_6_12:partE 6 (dl5_1 0 6)=true:=by kernel_rfl
theorem part6_6:partM 6 (dl5_1 0 6)=true:=partM_of q6_6 p6_6_0 p6_6_3 p6_6_6 p6_6_9 p6_6_12
end Go.Proofs.YtkjinnjopoehhaaGreatDoor
