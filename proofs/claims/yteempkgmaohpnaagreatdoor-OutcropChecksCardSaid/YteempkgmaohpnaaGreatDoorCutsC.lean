/-
  Meshes without their first triangles, checked on symbols.
-/
import Derived.Test.YteempkgmaohpnaaGreatDoorCutOB
import Derived.Test.YteempkgmaohpnaaGreatDoorCutsA
import Derived.Test.YteempkgmaohpnaaGreatDoorSymX
set_option linter.unusedSectionVars false
set_option linter.unusedVariables false
set_option linter.unusedSimpArgs false
namespace Go.Proofs.YteempkgmaohpnaaGreatDoor
open Go Ev Klp
set_option maxRecDepth 100000
theorem cuo_end : lastP (code cxOu kO.b) sU0 (goneP tb0 Tryz.f105 rmU [64] h0U) (topP tb0 Tryz.f105 rmU) 9995 lU5 = true := by kernel_rfl
theorem cuo_rm {w0 : Base} (hp : Pow w0) : RmOk Tryz.prog w0 105 rmU :=
 rm_ok (tb := tb0) tabOk (fnOk hp) (rounds := 10000) (n := 60) (rm_cutP (k := kO) (s := sU0) (fn := Tryz.f105) (by kernel_rfl) outer_body cuo_pre cuo_ns cuo_fin (cutP_ok (k := 9996) cuo_4 (cutP_ok (k := 9995) cuo_5 cuo_end)))
end Go.Proofs.YteempkgmaohpnaaGreatDoor
namespace Go.Proofs.YteempkgmaohpnaaGreatDoor
open Go Ev Klp Ab
set_option maxRecDepth 100000
noncomputable def cu40 : CutT := ⟨1,[(0,0),(2,0),(4,0),(0,2),(2,2),(4,2)],[0,1,4,0,4,3,1,2,5,1,5,4],4,
 (c (b (l (.num ⟨[([],4),([3],1)],1⟩)) (n 4)) (n 3) (b (l (.num ⟨[([],2),([4],1)],1⟩)) (.num ⟨[([],2),([3],1)],1⟩))),
 [.sym 0,.sym 1,.sym 2,.sym 1,.sym 3,.sym 1,.sym 0,.sym 4,.sym 2,.sym 4,.sym 3,.sym 4],
 ⟨[],[],(m (m (q (m (q (l (l [([.sym 2,.sym 0],d 50),([.sym 4,.sym 1],d 50),([.sym 0,.sym 0],d 48),([d 52,d 48],d 52),([.sym 3,.sym 2],d 50),([.sym 1,.sym 1],d 48),([.sym 2,.sym 2],d 48),([d 48,d 52],.str [45,52]),([.sym 3,.sym 0],d 52),([d 48,d 56],.str [45,56]),([d 52,d 56],.str [45,52]),([d 52,d 52],d 48),([.sym 0,.sym 2],.str [45,50]),([.sym 4,.sym 4],d 48),([d 48,d 48],d 48),([.sym 1,.sym 4],.str [45,50]),([d 48,.str [45,52]],d 52),([.sym 3,.sym 3],d 48),([.sym 2,.sym 3],.str [45,50])]))) (p (p (l (l [([d 50,d 50],d 52),([d 50,d 48],d 48),([d 48,d 50],d 48),([d 50,d 52],d 56),([.str [45,50],d 48],d 48),([d 48,d 48],d 48),([.str [45,50],d 50],.str [45,52]),([d 50,.str [45,50]],.str [45,52]),([.str [45,50],.str [45,50]],d 52)])))))) (q (p (p (p (l (l [z 0 0,z 0 1,z 0 2,z 0 3,z 0 4]))))))) (q (q (p (p (q (l (l [([d 52],g 1),([.str [45,52]],g (-1)),([.str [45,56]],g (-1)),([d 48],g 0)]))))))))⟩,24,
 [(61,⟨[.agg [.sym 0,.sym 1],.agg [.sym 2,.sym 4],.agg [.sym 0,.sym 4]],[],g 1,[],6⟩),(61,⟨[.agg [.sym 2,.sym 1],.agg [.sym 3,.sym 1],.agg [.sym 3,.sym 4]],[],g 1,[],6⟩),(61,⟨[.agg [.sym 2,.sym 1],.agg [.sym 3,.sym 4],.agg [.sym 2,.sym 4]],[],g 1,[],6⟩)],
 [(104,⟨[.agg [.slice 32 0 6 13,.slice 33 3 3 6]],[],.tup [.map 67,.bool true],[(67,.map [(.agg [g 0,g 4],g 0),(.agg [g 1,g 2],g 1),(.agg [g 1,g 5],g 2),(.agg [g 2,g 5],g 1),(.agg [g 3,g 0],g 0),(.agg [g 4,g 1],g 2),(.agg [g 4,g 3],g 0),(.agg [g 5,g 1],g 1),(.agg [g 5,g 4],g 2)] none)],29⟩),
 (63,⟨[.agg [.slice 32 0 6 13,.slice 33 3 3 6],g 1,g 0],[],.bool false,[],50⟩),
 (63,⟨[.agg [.slice 32 0 6 13,.slice 33 3 3 6],g 2,g 0],[],.bool false,[],77⟩),
 (63,⟨[.agg [.slice 32 0 6 13,.slice 33 3 3 6],g 2,g 1],[],.bool false,[],124⟩)],
 [(62,⟨[.agg [.slice 32 0 6 13,.slice 33 3 3 6]],[],.bool false,[],46⟩)]⟩
theorem cu40_own : ((kitK cu40.cx cu40.r.bins cu40.r.convs cu40.r.rows []).chk && numsEq cu40.cx (ptsN cu40.d cu40.pts) cu40.cp && Nat.blt cu40.z 30) = true := by kernel_rfl
theorem cu40_1 : cu40.keeps [(105,rmU)] cu40.k1 = true := by kernel_rfl
theorem cu40_2 : cu40.keeps (cu40.k1 ++ [(105,rmU)]) cu40.k2 = true := by kernel_rfl
theorem cu40_3 : cu40.keeps (cu40.k2 ++ (cu40.k1 ++ [(105,rmU)])) cu40.k3 = true := by kernel_rfl
theorem cu40_run : memoOk (cu40.kit (cu40.k3 ++ (cu40.k2 ++ (cu40.k1 ++ [(105,rmU)])))).tab 10000 60 29 cu40.arg (.int .i64 (Int.ofNat (cu40.z + 1))) = true := by kernel_rfl
theorem cu40_ok : CutT.Ok cu40 [(105,rmU)] := ⟨cu40_own,fun _ h => AllK.cons (cuo_rm h) AllK.nil,cu40_1,cu40_2,cu40_3,cu40_run⟩
noncomputable def cu41 : CutT := ⟨2,[(0,0),(2,0),(4,0),(0,2),(2,2),(4,2)],[0,1,4,0,4,3,1,2,5,1,5,4],4,
 (c (b (l (.num ⟨[([],4),([3],1)],2⟩)) (k [(4,1)] 2)) (k [(3,1)] 2) (b (l (.num ⟨[([],2),([4],1)],2⟩)) (.num ⟨[([],2),([3],1)],2⟩))),
 [.sym 0,.sym 1,.sym 2,.sym 1,.sym 3,.sym 1,.sym 0,.sym 4,.sym 2,.sym 4,.sym 3,.sym 4],
 ⟨[],[],(m (m (q (m (q (l (l [([.sym 2,.sym 0],d 49),([.sym 4,.sym 1],d 49),([.sym 0,.sym 0],d 48),([d 49,d 48],d 49),([.sym 3,.sym 2],d 49),([.sym 1,.sym 1],d 48),([.sym 2,.sym 2],d 48),([d 48,d 49],.str [45,49]),([.sym 3,.sym 0],d 50),([d 48,d 50],.str [45,50]),([d 49,d 50],.str [45,49]),([d 49,d 49],d 48),([.sym 0,.sym 2],.str [45,49]),([.sym 4,.sym 4],d 48),([d 48,d 48],d 48),([.sym 1,.sym 4],.str [45,49]),([d 48,.str [45,49]],d 49),([.sym 3,.sym 3],d 48),([.sym 2,.sym 3],.str [45,49])]))) (p (p (l (l [([d 49,d 49],d 49),([d 49,d 48],d 48),([d 48,d 49],d 48),([d 49,d 50],d 50),([.str [45,49],d 48],d 48),([d 48,d 48],d 48),([.str [45,49],d 49],.str [45,49]),([d 49,.str [45,49]],.str [45,49]),([.str [45,49],.str [45,49]],d 49)])))))) (q (p (p (p (l (l [z 0 0,z 0 1,z 0 2,z 0 3,z 0 4]))))))) (q (q (p (p (q (l (l [([d 49],g 1),([.str [45,49]],g (-1)),([.str [45,50]],g (-1)),([d 48],g 0)]))))))))⟩,24,
 [(61,⟨[.agg [.sym 0,.sym 1],.agg [.sym 2,.sym 4],.agg [.sym 0,.sym 4]],[],g 1,[],6⟩),(61,⟨[.agg [.sym 2,.sym 1],.agg [.sym 3,.sym 1],.agg [.sym 3,.sym 4]],[],g 1,[],6⟩),(61,⟨[.agg [.sym 2,.sym 1],.agg [.sym 3,.sym 4],.agg [.sym 2,.sym 4]],[],g 1,[],6⟩)],
 [(104,⟨[.agg [.slice 32 0 6 13,.slice 33 3 3 6]],[],.tup [.map 67,.bool true],[(67,.map [(.agg [g 0,g 4],g 0),(.agg [g 1,g 2],g 1),(.agg [g 1,g 5],g 2),(.agg [g 2,g 5],g 1),(.agg [g 3,g 0],g 0),(.agg [g 4,g 1],g 2),(.agg [g 4,g 3],g 0),(.agg [g 5,g 1],g 1),(.agg [g 5,g 4],g 2)] none)],29⟩),
 (63,⟨[.agg [.slice 32 0 6 13,.slice 33 3 3 6],g 1,g 0],[],.bool false,[],50⟩),
 (63,⟨[.agg [.slice 32 0 6 13,.slice 33 3 3 6],g 2,g 0],[],.bool false,[],77⟩),
 (63,⟨[.agg [.slice 32 0 6 13,.slice 33 3 3 6],g 2,g 1],[],.bool false,[],124⟩)],
 [(62,⟨[.agg [.slice 32 0 6 13,.slice 33 3 3 6]],[],.bool false,[],46⟩)]⟩
theorem cu41_own : ((kitK cu41.cx cu41.r.bins cu41.r.convs cu41.r.rows []).chk && numsEq cu41.cx (ptsN cu41.d cu41.pts) cu41.cp && Nat.blt cu41.z 30) = true := by kernel_rfl
theorem cu41_1 : cu41.keeps [(105,rmU)] cu41.k1 = true := by kernel_rfl
theorem cu41_2 : cu41.keeps (cu41.k1 ++ [(105,rmU)]) cu41.k2 = true := by kernel_rfl
theorem cu41_3 : cu41.keeps (cu41.k2 ++ (cu41.k1 ++ [(105,rmU)])) cu41.k3 = true := by kernel_rfl
theorem cu41_run : memoOk (cu41.kit (cu41.k3 ++ (cu41.k2 ++ (cu41.k1 ++ [(105,rmU)])))).tab 10000 60 29 cu41.arg (.int .i64 (Int.ofNat (cu41.z + 1))) = true := by kernel_rfl
theorem cu41_ok : CutT.Ok cu41 [(105,rmU)] := ⟨cu41_own,fun _ h => AllK.cons (cuo_rm h) AllK.nil,cu41_1,cu41_2,cu41_3,cu41_run⟩
end Go.Proofs.YteempkgmaohpnaaGreatDoor
