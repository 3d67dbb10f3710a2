/-
  klippelaw30.Make behind its mesh, at shapes of at most three deeds over 5 points: the runs.
-/
import Derived.Test.YtkjinnjopoehhaaGreatDoorSimA
namespace Go.Proofs.YtkjinnjopoehhaaGreatDoor
open Go Ev Klp
set_option maxRecDepth 100000
theorem q5_0:runM [dl2_0 0 5]=true:=by kernel_rfl
theorem p5_0_0:partB 5 (dl2_0 0 5) 0=true:=by kernel_rfl
theorem p5_0_3:partB 5 (dl2_0 0 5) 3=true:=by kernel_rfl
theorem p5_0_6:partB 5 (dl2_0 0 5) 6=true:=by kernel_rfl
theorem p5_0_9:partB 5 (dl2_0 0 5) 9=true:=by kernel_rfl
theorem p5_0_12:partE 5 (dl2_0 0 5)=true:=by kernel_rfl
theorem part5_0:partM 5 (dl2_0 0 5)=true:=partM_of q5_0 p5_0_0 p5_0_3 p5_0_6 p5_0_9 p5_0_12
theorem q5_1:runM [dl4_0 0 5]=true:=by kernel_rfl
theorem p5_1_0:partB 5 (dl4_0 0 5) 0=true:=by kernel_rfl
theorem p5_1_3:partB 5 (dl4_0 0 5) 3=true:=by kernel_rfl
theorem p5_1_6:partB 5 (dl4_0 0 5) 6=true:=by kernel_rfl
theorem p5_1_9:partB 5 (dl4_0 0 5) 9=true:=by kernel_rfl
theorem p5_1_12:partE 5 (dl4_0 0 5)=true:=by kernel_rfl
theorem part5_1:partM 5 (dl4_0 0 5)=true:=partM_of q5_1 p5_1_0 p5_1_3 p5_1_6 p5_1_9 p5_1_12
theorem q5_2:runM [dl3_0 0 5]=true:=by kernel_rfl
theorem p5_2_0:partB 5 (dl3_0 0 5) 0=true:=by kernel_rfl
theorem p5_2_3:partB 5 (dl3_0 0 5) 3=true:=by kernel_rfl
theorem p5_2_6:partB 5 (dl3_0 0 5) 6=true:=by kernel_rfl
theorem p5_2_9:partB 5 (dl3_0 0 5) 9=true:=by kernel_rfl
theorem p5_2_12:partE 5 (dl3_0 0 5)=true:=by kernel_rfl
theorem part5_2:partM 5 (dl3_0 0 5)=true:=partM_of q5_2 p5_2_0 p5_2_3 p5_2_6 p5_2_9 p5_2_12
theorem q5_3:runM [dl3_2 0 5]=true:=by kernel_rfl
theorem p5_3_0:partB 5 (dl3_2 0 5) 0=true:=by kernel_rfl
theorem p5_3_3:partB 5 (dl3_2 0 5) 3=true:=by kernel_rfl
theorem p5_3_6:partB 5 (dl3_2 0 5) 6=true:=by kernel_rfl
theorem p5_3_9:partB 5 (dl3_2 0 5) 9=true:=by kernel_rfl
theorem p5_3_12:partE 5 (dl3_2 0 5)=true:=by kernel_rfl
theorem part5_3:partM 5 (dl3_2 0 5)=true:=partM_of q5_3 p5_3_0 p5_3_3 p5_3_6 p5_3_9 p5_3_12
theorem q5_4:runM [dl3_4 0 5]=true:=by kernel_rfl
theorem p5_4_0:partB 5 (dl3_4 0 5) 0=true:=by kernel_rfl
theorem p5_4_3:partB 5 (dl3_4 0 5) 3=true:=by kernel_rfl
theorem p5_4_6:partB 5 (dl3_4 0 5) 6=true:=by kernel_rfl
theorem p5_4_9:partB 5 (dl3_4 0 5) 9=true:=by kernel_rfl
theorem p5_4_12:partE 5 (dl3_4 0 5)=true:=by kernel_rfl
theorem part5_4:partM 5 (dl3_4 0 5)=true:=partM_of q5_4 p5_4_0 p5_4_3 p5_4_6 p5_4_9 p5_4_12
theorem q5_5:runM [dl5_0 0 5]=true:=by kernel_rfl
theorem p5_5_0:partB 5 (dl5_0 0 5) 0=true:=by kernel_rfl
theorem p5_5_3:partB 5 (dl5_0 0 5) 3=true:=by kernel_rfl
theorem p5_5_6:partB 5 (dl5_0 0 5) 6=true:=by kernel_rfl
theorem p5_5_9:partB 5 (dl5_0 0 5) 9=true:=by kernel_rfl
theorem p5_5_12:partE 5 (dl5_0 0 5)=true:=by kernel_rfl
theorem part5_5:partM 5 (dl5_0 0 5)=true:=partM_of q5_5 p5_5_0 p5_5_3 p5_5_6 p5_5_9 p5_5_12
theorem q5_6:runM [dl5_1 0 5]=true:=by kernel_rfl
theorem p5_6_0:partB 5 (dl5_1 0 5) 0=true:=by kernel_rfl
theorem p5_6_3:partB 5 (dl5_1 0 5) 3=true:=by kernel_rfl
theorem p5_6_6:partB 5 (dl5_1 0 5) 6=true:=by kernel_rfl
theorem p5_6_9:partB 5 (dl5_1 0 5) 9=true:=by kernel_rfl
theorem p5_6_12:partE 5 (dl5_1 0 5)=true:=by kernel_rfl
theorem part5_6:partM 5 (dl5_1 0 5)=true:=partM_of q5_6 p5_6_0 p5_6_3 p5_6_6 p5_6_9 p5_6_12
end Go.Proofs.YtkjinnjopoehhaaGreatDoor
