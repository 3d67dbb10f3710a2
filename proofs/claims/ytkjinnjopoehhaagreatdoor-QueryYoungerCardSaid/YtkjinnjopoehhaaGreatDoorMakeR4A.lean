/-
  klippelaw30.Make behind its mesh, at shapes of at most three deeds over 4 points: the runs.
-/
import Derived.Test.YtkjinnjopoehhaaGreatDoorSimA
namespace Go.Proofs.YtkjinnjopoehhaaGreatDoor
open Go Ev Klp
set_option maxRecDepth 100000
theorem q4_0:runM [dl2_0 0 4]=true:=by kernel_rfl
theorem p4_0_0:partB 4 (dl2_0 0 4) 0=true:=by kernel_rfl
theorem p4_0_3:partB 4 (dl2_0 0 4) 3=true:=by kernel_rfl
theorem p4_0_6:partB 4 (dl2_0 0 4) 6=true:=by kernel_rfl
theorem p4_0_9:partB 4 (dl2_0 0 4) 9=true:=by kernel_rfl
theorem p4_0_12:partE 4 (dl2_0 0 4)=true:=by kernel_rfl
theorem part4_0:partM 4 (dl2_0 0 4)=true:=partM_of q4_0 p4_0_0 p4_0_3 p4_0_6 p4_0_9 p4_0_12
theorem q4_1:runM [dl4_0 0 4]=true:=by kernel_rfl
theorem p4_1_0:partB 4 (dl4_0 0 4) 0=true:=by kernel_rfl
theorem p4_1_3:partB 4 (dl4_0 0 4) 3=true:=by kernel_rfl
theorem p4_1_6:partB 4 (dl4_0 0 4) 6=true:=by kernel_rfl
theorem p4_1_9:partB 4 (dl4_0 0 4) 9=true:=by kernel_rfl
theorem p4_1_12:partE 4 (dl4_0 0 4)=true:=by kernel_rfl
theorem part4_1:partM 4 (dl4_0 0 4)=true:=partM_of q4_1 p4_1_0 p4_1_3 p4_1_6 p4_1_9 p4_1_12
theorem q4_2:runM [dl3_0 0 4]=true:=by kernel_rfl
theorem p4_2_0:partB 4 (dl3_0 0 4) 0=true:=by kernel_rfl
theorem p4_2_3:partB 4 (dl3_0 0 4) 3=true:=by kernel_rfl
theorem p4_2_6:partB 4 (dl3_0 0 4) 6=true:=by kernel_rfl
theorem p4_2_9:partB 4 (dl3_0 0 4) 9=true:=by kernel_rfl
theorem p4_2_12:partE 4 (dl3_0 0 4)=true:=by kernel_rfl
theorem part4_2:partM 4 (dl3_0 0 4)=true:=partM_of q4_2 p4_2_0 p4_2_3 p4_2_6 p4_2_9 p4_2_12
theorem q4_3:runM [dl3_2 0 4]=true:=by kernel_rfl
theorem p4_3_0:partB 4 (dl3_2 0 4) 0=true:=by kernel_rfl
theorem p4_3_3:partB 4 (dl3_2 0 4) 3=true:=by kernel_rfl
theorem p4_3_6:partB 4 (dl3_2 0 4) 6=true:=by kernel_rfl
theorem p4_3_9:partB 4 (dl3_2 0 4) 9=true:=by kernel_rfl
theorem p4_3_12:partE 4 (dl3_2 0 4)=true:=by kernel_rfl
theorem part4_3:partM 4 (dl3_2 0 4)=true:=partM_of q4_3 p4_3_0 p4_3_3 p4_3_6 p4_3_9 p4_3_12
theorem q4_4:runM [dl3_4 0 4]=true:=by kernel_rfl
theorem p4_4_0:partB 4 (dl3_4 0 4) 0=true:=by kernel_rfl
theorem p4_4_3:partB 4 (dl3_4 0 4) 3=true:=by kernel_rfl
theorem p4_4_6:partB 4 (dl3_4 0 4) 6=true:=by kernel_rfl
theorem p4_4_9:partB 4 (dl3_4 0 4) 9=true:=by kernel_rfl
theorem p4_4_12:partE 4 (dl3_4 0 4)=true:=by kernel_rfl
theorem part4_4:partM 4 (dl3_4 0 4)=true:=partM_of q4_4 p4_4_0 p4_4_3 p4_4_6 p4_4_9 p4_4_12
theorem q4_5:runM [dl5_0 0 4]=true:=by kernel_rfl
theorem p4_5_0:partB 4 (dl5_0 0 4) 0=true:=by kernel_rfl
theorem p4_5_3:partB 4 (dl5_0 0 4) 3=true:=by kernel_rfl
theorem p4_5_6:partB 4 (dl5_0 0 4) 6=true:=by kernel_rfl
theorem p4_5_9:partB 4 (dl5_0 0 4) 9=true:=by kernel_rfl
theorem p4_5_12:partE 4 (dl5_0 0 4)=true:=by kernel_rfl
theorem part4_5:partM 4 (dl5_0 0 4)=true:=partM_of q4_5 p4_5_0 p4_5_3 p4_5_6 p4_5_9 p4_5_12
theorem q4_6:runM [dl5_1 0 4]=true:=by kernel_rfl
theorem p4_6_0:partB 4 (dl5_1 0 4) 0=true:=by kernel_rfl
theorem p4_6_3:partB 4 (dl5_1 0 4) 3=true:=by kernel_rfl
theorem p4_6_6:partB 4 (dl5_1 0 4) 6=true:=by kernel_rfl
theorem p4_6_9:partB 4 (dl5_1 0 4) 9=true:=by kernel_rfl
theorem p4_6_12:partE 4 (dl5_1 0 4)=true:=by kernel_rfl
theorem part4_6:partM 4 (dl5_1 0 4)=true:=partM_of q4_6 p4_6_0 p4_6_3 p4_6_6 p4_6_9 p4_6_12
end Go.Proofs.YtkjinnjopoehhaaGreatDoor
