/-
  Meshes without their first triangles, checked on symbols.
-/
import Derived.Test.YtkjinnjopoehhaaGreatDoorCutsA
import Derived.Test.YtkjinnjopoehhaaGreatDoorSymX
import Derived.Test.YtkjinnjopoehhaaGreatDoorCutOC
set_option linter.unusedSectionVars false
set_option linter.unusedVariables false
set_option linter.unusedSimpArgs false
namespace Go.Proofs.YtkjinnjopoehhaaGreatDoor
open Go Ev Klp Ab
set_option maxRecDepth 100000
noncomputable def cu20:CutT:=⟨1,[(0,0),(4,0),(4,4),(0,4),(2,1)],[0,1,4,1,2,4,2,3,4,3,0,4],4,
 (c (c (l (.num ⟨[([],4),([4],1)],1⟩)) (n 4) (l (.num ⟨[([],1),([4],1)],1⟩))) (n 3) (b (l (.num ⟨[([],2),([3],1)],1⟩)) (.num ⟨[([],4),([3],1)],1⟩))),
 [.sym 0,.sym 1,.sym 2,.sym 1,.sym 2,.sym 3,.sym 0,.sym 3,.sym 4,.sym 5],
 ⟨[],[],(m (p (m (p (p (l (l [z 0 0,z 0 1,z 0 2,z 0 3,z 0 4,z 0 5])))) (q (p (q (p (l (l [([d 56],g 1),([.str [49,50]],g 1),([.str [45,52]],g (-1)),([d 48],g 0),([.str [49,54]],g 1),([.str [45,49,50]],g (-1)),([.str [45,56]],g (-1))])))))))) (p (m (p (p (q (p (l (l [([.sym 2,.sym 2],d 48),([.sym 5,.sym 1],d 49),([.sym 3,.sym 1],d 52),([.sym 4,.sym 2],.str [45,50]),([d 48,.str [45,56]],d 56),([.sym 0,.sym 2],.str [45,52]),([.sym 5,.sym 3],.str [45,51]),([.sym 3,.sym 3],d 48),([.str [49,50],d 48],.str [49,50]),([.sym 0,.sym 0],d 48),([.sym 1,.sym 3],.str [45,52]),([.sym 4,.sym 0],d 50),([.sym 1,.sym 1],d 48),([.sym 2,.sym 0],d 52),([d 48,d 52],.str [45,52]),([d 48,d 48],d 48),([d 48,.str [45,49,54]],.str [49,54]),([d 48,.str [49,50]],.str [45,49,50]),([d 54,d 54],d 48),([.sym 2,.sym 4],d 50),([.sym 3,.sym 5],d 51),([.sym 1,.sym 5],.str [45,49]),([d 54,.str [45,50]],d 56),([.sym 5,.sym 5],d 48),([.sym 4,.sym 4],d 48),([d 56,.str [49,50]],.str [45,52]),([.str [49,54],d 48],.str [49,54]),([.str [45,56],d 48],.str [45,56]),([.str [45,54],.str [45,54]],d 48),([.sym 0,.sym 4],.str [45,50]),([d 54,.str [45,54]],.str [49,50])])))))) (q (p (p (q (l (l [([d 48,d 49],d 48),([d 52,.str [45,50]],.str [45,56]),([.str [45,52],.str [45,51]],.str [49,50]),([d 48,.str [45,50]],d 48),([d 48,.str [45,51]],d 48),([.str [45,52],d 50],.str [45,56]),([d 50,d 48],d 48),([d 49,d 52],d 52),([d 48,d 52],d 48),([d 52,d 48],d 48),([d 52,.str [45,52]],.str [45,49,54]),([.str [45,50],d 48],d 48),([.str [45,51],d 48],d 48),([.str [45,51],.str [45,52]],.str [49,50]),([.str [45,50],.str [45,51]],d 54),([.str [45,51],.str [45,50]],d 54),([d 50,d 51],d 54),([.str [45,49],d 50],.str [45,50]),([.str [45,49],d 48],d 48),([d 48,d 48],d 48),([.str [45,50],.str [45,52]],d 56),([.str [45,52],d 48],d 48),([d 48,.str [45,52]],d 48),([.str [45,52],.str [45,52]],.str [49,54]),([d 50,.str [45,52]],.str [45,56]),([d 50,.str [45,51]],.str [45,54]),([.str [45,51],d 50],.str [45,54]),([d 51,.str [45,50]],.str [45,54]),([d 51,d 48],d 48)])))))))))⟩,24,
 [(107,⟨[.agg [.sym 2,.sym 1],.agg [.sym 2,.sym 3],.agg [.sym 4,.sym 5]],[],g 1,[],6⟩),(107,⟨[.agg [.sym 2,.sym 3],.agg [.sym 0,.sym 3],.agg [.sym 4,.sym 5]],[],g 1,[],6⟩),(107,⟨[.agg [.sym 0,.sym 3],.agg [.sym 0,.sym 1],.agg [.sym 4,.sym 5]],[],g 1,[],6⟩),(107,⟨[.agg [.sym 0,.sym 1],.agg [.sym 4,.sym 5],.agg [.sym 2,.sym 1]],[],g (-1),[],6⟩)],
 [(173,⟨[.agg [.slice 32 0 5 11,.slice 33 3 3 6]],[],.tup [.map 67,.bool true],[(67,.map [(.agg [g 0,g 4],g 2),(.agg [g 1,g 2],g 0),(.agg [g 2,g 3],g 1),(.agg [g 2,g 4],g 0),(.agg [g 3,g 0],g 2),(.agg [g 3,g 4],g 1),(.agg [g 4,g 1],g 0),(.agg [g 4,g 2],g 1),(.agg [g 4,g 3],g 2)] none)],29⟩),
 (174,⟨[.agg [.slice 32 0 5 11,.slice 33 3 3 6],.map 64],[.map [(.agg [g 0,g 4],g 2),(.agg [g 1,g 2],g 0),(.agg [g 2,g 3],g 1),(.agg [g 2,g 4],g 0),(.agg [g 3,g 0],g 2),(.agg [g 3,g 4],g 1),(.agg [g 4,g 1],g 0),(.agg [g 4,g 2],g 1),(.agg [g 4,g 3],g 2)] none],.tup [.slice 86 0 5 11,.bool true],[(86,.cells [g 0,g 4,g 1,g 2,g 3] 3 1 false)],22⟩),
 (175,⟨[.agg [.slice 32 0 5 11,.slice 33 3 3 6],.slice 64 0 5 11],[.cells [g 0,g 4,g 1,g 2,g 3] 3 1 false],.bool false,[(64,.cells [g 0,g 4,g 1,g 2,g 3] 3 1 false)],13⟩),
 (109,⟨[.agg [.slice 32 0 5 11,.slice 33 3 3 6],g 1,g 0],[],.bool false,[],114⟩),
 (109,⟨[.agg [.slice 32 0 5 11,.slice 33 3 3 6],g 2,g 0],[],.bool false,[],97⟩),
 (109,⟨[.agg [.slice 32 0 5 11,.slice 33 3 3 6],g 2,g 1],[],.bool false,[],114⟩)],
 [(108,⟨[.agg [.slice 32 0 5 11,.slice 33 3 3 6]],[],.bool false,[],69⟩)]⟩
theorem cu20_own:((kitK cu20.cx cu20.r.bins cu20.r.convs cu20.r.rows []).chk&&numsEq cu20.cx (ptsN cu20.d cu20.pts) cu20.cp&&Nat.blt cu20.z 30)=true:=by kernel_rfl
theorem cu20_1:cu20.keeps [] cu20.k1=true:=by kernel_rfl
theorem cu20_2:cu20.keeps (cu20.k1++[]) cu20.k2=true:=by kernel_rfl
theorem cu20_3:cu20.keeps (cu20.k2++(cu20.k1++[])) cu20.k3=true:=by kernel_rfl
theorem cu20_run:memoOk (cu20.kit (cu20.k3++(cu20.k2++(cu20.k1++[])))).tab 10000 60 52 cu20.arg (.int .i64 (Int.ofNat (cu20.z+1)))=true:=by kernel_rfl
theorem cu20_ok:CutT.Ok cu20 []:=⟨cu20_own,fun _ h=>AllK.nil,cu20_1,cu20_2,cu20_3,cu20_run⟩
noncomputable def cu21:CutT:=⟨2,[(0,0),(4,0),(4,4),(0,4),(2,1)],[0,1,4,1,2,4,2,3,4,3,0,4],4,
 (c (c (l (.num ⟨[([],4),([4],1)],2⟩)) (k [(4,1)] 2) (l (.num ⟨[([],1),([4],1)],2⟩))) (k [(3,1)] 2) (b (l (.num ⟨[([],2),([3],1)],2⟩)) (.num ⟨[([],4),([3],1)],2⟩))),
 [.sym 0,.sym 1,.sym 2,.sym 1,.sym 2,.sym 3,.sym 0,.sym 3,.sym 4,.sym 5],
 ⟨[],[],(m (p (m (p (p (l (l [z 0 0,z 0 1,z 0 2,z 0 3,z 0 4,z 0 5])))) (q (p (q (p (l (l [([d 50],g 1),([d 51],g 1),([.str [45,49]],g (-1)),([d 48],g 0),([d 52],g 1),([.str [45,51]],g (-1)),([.str [45,50]],g (-1))])))))))) (p (m (p (p (q (p (l (l [([.sym 2,.sym 2],d 48),([.sym 5,.sym 1],.str [49,47,50]),([.sym 3,.sym 1],d 50),([.sym 4,.sym 2],.str [45,49]),([d 48,.str [45,50]],d 50),([.sym 0,.sym 2],.str [45,50]),([.sym 5,.sym 3],.str [45,51,47,50]),([.sym 3,.sym 3],d 48),([d 51,d 48],d 51),([.sym 0,.sym 0],d 48),([.sym 1,.sym 3],.str [45,50]),([.sym 4,.sym 0],d 49),([.sym 1,.sym 1],d 48),([.sym 2,.sym 0],d 50),([d 48,d 49],.str [45,49]),([d 48,d 48],d 48),([d 48,.str [45,52]],d 52),([d 48,d 51],.str [45,51]),([.str [51,47,50],.str [51,47,50]],d 48),([.sym 2,.sym 4],d 49),([.sym 3,.sym 5],.str [51,47,50]),([.sym 1,.sym 5],.str [45,49,47,50]),([.str [51,47,50],.str [45,49,47,50]],d 50),([.sym 5,.sym 5],d 48),([.sym 4,.sym 4],d 48),([d 50,d 51],.str [45,49]),([d 52,d 48],d 52),([.str [45,50],d 48],.str [45,50]),([.str [45,51,47,50],.str [45,51,47,50]],d 48),([.sym 0,.sym 4],.str [45,49]),([.str [51,47,50],.str [45,51,47,50]],d 51)])))))) (q (p (p (q (l (l [([d 48,.str [49,47,50]],d 48),([d 50,.str [45,49]],.str [45,50]),([.str [45,50],.str [45,51,47,50]],d 51),([d 48,.str [45,49]],d 48),([d 48,.str [45,51,47,50]],d 48),([.str [45,50],d 49],.str [45,50]),([d 49,d 48],d 48),([.str [49,47,50],d 50],d 49),([d 48,d 50],d 48),([d 50,d 48],d 48),([d 50,.str [45,50]],.str [45,52]),([.str [45,49],d 48],d 48),([.str [45,51,47,50],d 48],d 48),([.str [45,51,47,50],.str [45,50]],d 51),([.str [45,49],.str [45,51,47,50]],.str [51,47,50]),([.str [45,51,47,50],.str [45,49]],.str [51,47,50]),([d 49,.str [51,47,50]],.str [51,47,50]),([.str [45,49,47,50],d 49],.str [45,49,47,50]),([.str [45,49,47,50],d 48],d 48),([d 48,d 48],d 48),([.str [45,49],.str [45,50]],d 50),([.str [45,50],d 48],d 48),([d 48,.str [45,50]],d 48),([.str [45,50],.str [45,50]],d 52),([d 49,.str [45,50]],.str [45,50]),([d 49,.str [45,51,47,50]],.str [45,51,47,50]),([.str [45,51,47,50],d 49],.str [45,51,47,50]),([.str [51,47,50],.str [45,49]],.str [45,51,47,50]),([.str [51,47,50],d 48],d 48)])))))))))⟩,24,
 [(107,⟨[.agg [.sym 2,.sym 1],.agg [.sym 2,.sym 3],.agg [.sym 4,.sym 5]],[],g 1,[],6⟩),(107,⟨[.agg [.sym 2,.sym 3],.agg [.sym 0,.sym 3],.agg [.sym 4,.sym 5]],[],g 1,[],6⟩),(107,⟨[.agg [.sym 0,.sym 3],.agg [.sym 0,.sym 1],.agg [.sym 4,.sym 5]],[],g 1,[],6⟩),(107,⟨[.agg [.sym 0,.sym 1],.agg [.sym 4,.sym 5],.agg [.sym 2,.sym 1]],[],g (-1),[],6⟩)],
 [(173,⟨[.agg [.slice 32 0 5 11,.slice 33 3 3 6]],[],.tup [.map 67,.bool true],[(67,.map [(.agg [g 0,g 4],g 2),(.agg [g 1,g 2],g 0),(.agg [g 2,g 3],g 1),(.agg [g 2,g 4],g 0),(.agg [g 3,g 0],g 2),(.agg [g 3,g 4],g 1),(.agg [g 4,g 1],g 0),(.agg [g 4,g 2],g 1),(.agg [g 4,g 3],g 2)] none)],29⟩),
 (174,⟨[.agg [.slice 32 0 5 11,.slice 33 3 3 6],.map 64],[.map [(.agg [g 0,g 4],g 2),(.agg [g 1,g 2],g 0),(.agg [g 2,g 3],g 1),(.agg [g 2,g 4],g 0),(.agg [g 3,g 0],g 2),(.agg [g 3,g 4],g 1),(.agg [g 4,g 1],g 0),(.agg [g 4,g 2],g 1),(.agg [g 4,g 3],g 2)] none],.tup [.slice 86 0 5 11,.bool true],[(86,.cells [g 0,g 4,g 1,g 2,g 3] 3 1 false)],22⟩),
 (175,⟨[.agg [.slice 32 0 5 11,.slice 33 3 3 6],.slice 64 0 5 11],[.cells [g 0,g 4,g 1,g 2,g 3] 3 1 false],.bool false,[(64,.cells [g 0,g 4,g 1,g 2,g 3] 3 1 false)],13⟩),
 (109,⟨[.agg [.slice 32 0 5 11,.slice 33 3 3 6],g 1,g 0],[],.bool false,[],114⟩),
 (109,⟨[.agg [.slice 32 0 5 11,.slice 33 3 3 6],g 2,g 0],[],.bool false,[],97⟩),
 (109,⟨[.agg [.slice 32 0 5 11,.slice 33 3 3 6],g 2,g 1],[],.bool false,[],114⟩)],
 [(108,⟨[.agg [.slice 32 0 5 11,.slice 33 3 3 6]],[],.bool false,[],69⟩)]⟩
theorem cu21_own:((kitK cu21.cx cu21.r.bins cu21.r.convs cu21.r.rows []).chk&&numsEq cu21.cx (ptsN cu21.d cu21.pts) cu21.cp&&Nat.blt cu21.z 30)=true:=by kernel_rfl
theorem cu21_1:cu21.keeps [] cu21.k1=true:=by kernel_rfl
theorem cu21_2:cu21.keeps (cu21.k1++[]) cu21.k2=true:=by kernel_rfl
theorem cu21_3:cu21.keeps (cu21.k2++(cu21.k1++[])) cu21.k3=true:=by kernel_rfl
theorem cu21_run:memoOk (cu21.kit (cu21.k3++(cu21.k2++(cu21.k1++[])))).tab 10000 60 52 cu21.arg (.int .i64 (Int.ofNat (cu21.z+1)))=true:=by kernel_rfl
theorem cu21_ok:CutT.Ok cu21 []:=⟨cu21_own,fun _ h=>AllK.nil,cu21_1,cu21_2,cu21_3,cu21_run⟩
noncomputable def cu70:CutT:=⟨1,[(0,0),(6,0),(0,6),(2,2)],[0,1,3,1,2,3,2,0,3],3,
 (c (c (l (.num ⟨[([],6),([4],1)],1⟩)) (n 4) (l (.num ⟨[([],2),([4],1)],1⟩))) (n 3) (b (l (.num ⟨[([],2),([3],1)],1⟩)) (.num ⟨[([],6),([3],1)],1⟩))),
 [.sym 0,.sym 1,.sym 2,.sym 1,.sym 0,.sym 3,.sym 4,.sym 5],
 ⟨[],[],(m (p (m (p (p (l (l [z 0 0,z 0 1,z 0 2,z 0 3,z 0 4,z 0 5])))) (q (p (q (p (l (l [([.str [49,50]],g 1),([.str [45,49,50]],g (-1)),([d 48],g 0),([.str [51,54]],g 1)])))))))) (p (m (p (p (q (p (l (l [([.sym 0,.sym 2],.str [45,54]),([.sym 5,.sym 1],d 50),([.sym 3,.sym 1],d 54),([.sym 4,.sym 2],.str [45,52]),([.str [45,49,50],.str [45,50,52]],.str [49,50]),([.sym 0,.sym 0],d 48),([.sym 5,.sym 3],.str [45,52]),([.sym 1,.sym 3],.str [45,54]),([.sym 4,.sym 0],d 50),([d 48,.str [45,49,50]],.str [49,50]),([.sym 1,.sym 1],d 48),([.sym 2,.sym 0],d 54),([d 48,.str [49,50]],.str [45,49,50]),([.str [45,51,54],.str [45,51,54]],d 48),([d 48,.str [45,51,54]],.str [51,54]),([.sym 3,.sym 3],d 48),([d 48,d 48],d 48),([.str [45,49,50],d 48],.str [45,49,50]),([.str [45,56],.str [45,56]],d 48),([.sym 2,.sym 4],d 52),([.sym 3,.sym 5],d 52),([.sym 1,.sym 5],.str [45,50]),([.sym 0,.sym 4],.str [45,50]),([.str [49,54],d 52],.str [49,50]),([.sym 5,.sym 5],d 48),([.sym 4,.sym 4],d 48)])))))) (q (p (p (q (l (l [([.str [45,54],d 50],.str [45,49,50]),([d 54,.str [45,52]],.str [45,50,52]),([d 48,.str [45,52]],d 48),([d 50,d 48],d 48),([d 50,d 54],.str [49,50]),([.str [45,54],d 54],.str [45,51,54]),([d 54,.str [45,54]],.str [45,51,54]),([.str [45,54],d 48],d 48),([.str [45,52],d 48],d 48),([d 50,.str [45,54]],.str [45,49,50]),([d 50,.str [45,52]],.str [45,56]),([.str [45,52],d 50],.str [45,56]),([d 52,d 52],.str [49,54]),([.str [45,50],.str [45,50]],d 52),([d 52,d 48],d 48),([.str [45,50],d 48],d 48)])))))))))⟩,24,
 [(107,⟨[.agg [.sym 2,.sym 1],.agg [.sym 0,.sym 3],.agg [.sym 4,.sym 5]],[],g 1,[],6⟩),(107,⟨[.agg [.sym 0,.sym 3],.agg [.sym 0,.sym 1],.agg [.sym 4,.sym 5]],[],g 1,[],6⟩),(107,⟨[.agg [.sym 0,.sym 1],.agg [.sym 4,.sym 5],.agg [.sym 2,.sym 1]],[],g (-1),[],6⟩)],
 [(173,⟨[.agg [.slice 32 0 4 9,.slice 33 3 2 4]],[],.tup [.map 67,.bool true],[(67,.map [(.agg [g 0,g 3],g 1),(.agg [g 1,g 2],g 0),(.agg [g 2,g 0],g 1),(.agg [g 2,g 3],g 0),(.agg [g 3,g 1],g 0),(.agg [g 3,g 2],g 1)] none)],21⟩),
 (174,⟨[.agg [.slice 32 0 4 9,.slice 33 3 2 4],.map 64],[.map [(.agg [g 0,g 3],g 1),(.agg [g 1,g 2],g 0),(.agg [g 2,g 0],g 1),(.agg [g 2,g 3],g 0),(.agg [g 3,g 1],g 0),(.agg [g 3,g 2],g 1)] none],.tup [.slice 81 0 4 9,.bool true],[(81,.cells [g 0,g 3,g 1,g 2] 3 1 false)],17⟩),
 (175,⟨[.agg [.slice 32 0 4 9,.slice 33 3 2 4],.slice 64 0 4 9],[.cells [g 0,g 3,g 1,g 2] 3 1 false],.bool false,[(64,.cells [g 0,g 3,g 1,g 2] 3 1 false)],13⟩),
 (109,⟨[.agg [.slice 32 0 4 9,.slice 33 3 2 4],g 1,g 0],[],.bool false,[],114⟩)],
 [(108,⟨[.agg [.slice 32 0 4 9,.slice 33 3 2 4]],[],.bool false,[],55⟩)]⟩
theorem cu70_own:((kitK cu70.cx cu70.r.bins cu70.r.convs cu70.r.rows []).chk&&numsEq cu70.cx (ptsN cu70.d cu70.pts) cu70.cp&&Nat.blt cu70.z 30)=true:=by kernel_rfl
theorem cu70_1:cu70.keeps [] cu70.k1=true:=by kernel_rfl
theorem cu70_2:cu70.keeps (cu70.k1++[]) cu70.k2=true:=by kernel_rfl
theorem cu70_3:cu70.keeps (cu70.k2++(cu70.k1++[])) cu70.k3=true:=by kernel_rfl
theorem cu70_run:memoOk (cu70.kit (cu70.k3++(cu70.k2++(cu70.k1++[])))).tab 10000 60 52 cu70.arg (.int .i64 (Int.ofNat (cu70.z+1)))=true:=by kernel_rfl
theorem cu70_ok:CutT.Ok cu70 []:=⟨cu70_own,fun _ h=>AllK.nil,cu70_1,cu70_2,cu70_3,cu70_run⟩
noncomputable def cu71:CutT:=⟨2,[(0,0),(6,0),(0,6),(2,2)],[0,1,3,1,2,3,2,0,3],3,
 (c (c (l (.num ⟨[([],6),([4],1)],2⟩)) (k [(4,1)] 2) (l (.num ⟨[([],2),([4],1)],2⟩))) (k [(3,1)] 2) (b (l (.num ⟨[([],2),([3],1)],2⟩)) (.num ⟨[([],6),([3],1)],2⟩))),
 [.sym 0,.sym 1,.sym 2,.sym 1,.sym 0,.sym 3,.sym 4,.sym 5],
 ⟨[],[],(m (p (m (p (p (l (l [z 0 0,z 0 1,z 0 2,z 0 3,z 0 4,z 0 5])))) (q (p (q (p (l (l [([d 51],g 1),([.str [45,51]],g (-1)),([d 48],g 0),([d 57],g 1)])))))))) (p (m (p (p (q (p (l (l [([.sym 0,.sym 2],.str [45,51]),([.sym 5,.sym 1],d 49),([.sym 3,.sym 1],d 51),([.sym 4,.sym 2],.str [45,50]),([.str [45,51],.str [45,54]],d 51),([.sym 0,.sym 0],d 48),([.sym 5,.sym 3],.str [45,50]),([.sym 1,.sym 3],.str [45,51]),([.sym 4,.sym 0],d 49),([d 48,.str [45,51]],d 51),([.sym 1,.sym 1],d 48),([.sym 2,.sym 0],d 51),([d 48,d 51],.str [45,51]),([.str [45,57],.str [45,57]],d 48),([d 48,.str [45,57]],d 57),([.sym 3,.sym 3],d 48),([d 48,d 48],d 48),([.str [45,51],d 48],.str [45,51]),([.str [45,50],.str [45,50]],d 48),([.sym 2,.sym 4],d 50),([.sym 3,.sym 5],d 50),([.sym 1,.sym 5],.str [45,49]),([.sym 0,.sym 4],.str [45,49]),([d 52,d 49],d 51),([.sym 5,.sym 5],d 48),([.sym 4,.sym 4],d 48)])))))) (q (p (p (q (l (l [([.str [45,51],d 49],.str [45,51]),([d 51,.str [45,50]],.str [45,54]),([d 48,.str [45,50]],d 48),([d 49,d 48],d 48),([d 49,d 51],d 51),([.str [45,51],d 51],.str [45,57]),([d 51,.str [45,51]],.str [45,57]),([.str [45,51],d 48],d 48),([.str [45,50],d 48],d 48),([d 49,.str [45,51]],.str [45,51]),([d 49,.str [45,50]],.str [45,50]),([.str [45,50],d 49],.str [45,50]),([d 50,d 50],d 52),([.str [45,49],.str [45,49]],d 49),([d 50,d 48],d 48),([.str [45,49],d 48],d 48)])))))))))⟩,24,
 [(107,⟨[.agg [.sym 2,.sym 1],.agg [.sym 0,.sym 3],.agg [.sym 4,.sym 5]],[],g 1,[],6⟩),(107,⟨[.agg [.sym 0,.sym 3],.agg [.sym 0,.sym 1],.agg [.sym 4,.sym 5]],[],g 1,[],6⟩),(107,⟨[.agg [.sym 0,.sym 1],.agg [.sym 4,.sym 5],.agg [.sym 2,.sym 1]],[],g (-1),[],6⟩)],
 [(173,⟨[.agg [.slice 32 0 4 9,.slice 33 3 2 4]],[],.tup [.map 67,.bool true],[(67,.map [(.agg [g 0,g 3],g 1),(.agg [g 1,g 2],g 0),(.agg [g 2,g 0],g 1),(.agg [g 2,g 3],g 0),(.agg [g 3,g 1],g 0),(.agg [g 3,g 2],g 1)] none)],21⟩),
 (174,⟨[.agg [.slice 32 0 4 9,.slice 33 3 2 4],.map 64],[.map [(.agg [g 0,g 3],g 1),(.agg [g 1,g 2],g 0),(.agg [g 2,g 0],g 1),(.agg [g 2,g 3],g 0),(.agg [g 3,g 1],g 0),(.agg [g 3,g 2],g 1)] none],.tup [.slice 81 0 4 9,.bool true],[(81,.cells [g 0,g 3,g 1,g 2] 3 1 false)],17⟩),
 (175,⟨[.agg [.slice 32 0 4 9,.slice 33 3 2 4],.slice 64 0 4 9],[.cells [g 0,g 3,g 1,g 2] 3 1 false],.bool false,[(64,.cells [g 0,g 3,g 1,g 2] 3 1 false)],13⟩),
 (109,⟨[.agg [.slice 32 0 4 9,.slice 33 3 2 4],g 1,g 0],[],.bool false,[],114⟩)],
 [(108,⟨[.agg [.slice 32 0 4 9,.slice 33 3 2 4]],[],.bool false,[],55⟩)]⟩
theorem cu71_own:((kitK cu71.cx cu71.r.bins cu71.r.convs cu71.r.rows []).chk&&numsEq cu71.cx (ptsN cu71.d cu71.pts) cu71.cp&&Nat.blt cu71.z 30)=true:=by kernel_rfl
theorem cu71_1:cu71.keeps [] cu71.k1=true:=by kernel_rfl
theorem cu71_2:cu71.keeps (cu71.k1++[]) cu71.k2=true:=by kernel_rfl
theorem cu71_3:cu71.keeps (cu71.k2++(cu71.k1++[])) cu71.k3=true:=by kernel_rfl
theorem cu71_run:memoOk (cu71.kit (cu71.k3++(cu71.k2++(cu71.k1++[])))).tab 10000 60 52 cu71.arg (.int .i64 (Int.ofNat (cu71.z+1)))=true:=by kernel_rfl
theorem cu71_ok:CutT.Ok cu71 []:=⟨cu71_own,fun _ h=>AllK.nil,cu71_1,cu71_2,cu71_3,cu71_run⟩
set_option maxRecDepth 100000
noncomputable def cu40:CutT:=⟨1,[(0,0),(2,0),(4,0),(0,2),(2,2),(4,2)],[0,1,4,0,4,3,1,2,5,1,5,4],4,
 (c (b (l (.num ⟨[([],4),([3],1)],1⟩)) (n 4)) (n 3) (b (l (.num ⟨[([],2),([4],1)],1⟩)) (.num ⟨[([],2),([3],1)],1⟩))),
 [.sym 0,.sym 1,.sym 2,.sym 1,.sym 3,.sym 1,.sym 0,.sym 4,.sym 2,.sym 4,.sym 3,.sym 4],
 ⟨[],[],(m (p (m (p (p (l (l [z 0 0,z 0 1,z 0 2,z 0 3,z 0 4])))) (q (p (q (p (l (l [([d 52],g 1),([.str [45,52]],g (-1)),([.str [45,56]],g (-1)),([d 48],g 0)])))))))) (p (m (p (p (q (p (l (l [([.sym 2,.sym 0],d 50),([.sym 4,.sym 1],d 50),([.sym 0,.sym 0],d 48),([d 52,d 48],d 52),([.sym 3,.sym 2],d 50),([.sym 1,.sym 1],d 48),([.sym 2,.sym 2],d 48),([d 48,d 52],.str [45,52]),([.sym 3,.sym 0],d 52),([d 48,d 56],.str [45,56]),([d 52,d 56],.str [45,52]),([d 52,d 52],d 48),([.sym 0,.sym 2],.str [45,50]),([.sym 4,.sym 4],d 48),([d 48,d 48],d 48),([.sym 1,.sym 4],.str [45,50]),([d 48,.str [45,52]],d 52),([.sym 3,.sym 3],d 48),([.sym 2,.sym 3],.str [45,50])])))))) (q (p (p (q (l (l [([d 50,d 50],d 52),([d 50,d 48],d 48),([d 48,d 50],d 48),([d 50,d 52],d 56),([.str [45,50],d 48],d 48),([d 48,d 48],d 48),([.str [45,50],d 50],.str [45,52]),([d 50,.str [45,50]],.str [45,52]),([.str [45,50],.str [45,50]],d 52)])))))))))⟩,24,
 [(107,⟨[.agg [.sym 0,.sym 1],.agg [.sym 2,.sym 4],.agg [.sym 0,.sym 4]],[],g 1,[],6⟩),(107,⟨[.agg [.sym 2,.sym 1],.agg [.sym 3,.sym 1],.agg [.sym 3,.sym 4]],[],g 1,[],6⟩),(107,⟨[.agg [.sym 2,.sym 1],.agg [.sym 3,.sym 4],.agg [.sym 2,.sym 4]],[],g 1,[],6⟩)],
 [(173,⟨[.agg [.slice 32 0 6 13,.slice 33 3 3 6]],[],.tup [.map 67,.bool true],[(67,.map [(.agg [g 0,g 4],g 0),(.agg [g 1,g 2],g 1),(.agg [g 1,g 5],g 2),(.agg [g 2,g 5],g 1),(.agg [g 3,g 0],g 0),(.agg [g 4,g 1],g 2),(.agg [g 4,g 3],g 0),(.agg [g 5,g 1],g 1),(.agg [g 5,g 4],g 2)] none)],29⟩),
 (109,⟨[.agg [.slice 32 0 6 13,.slice 33 3 3 6],g 1,g 0],[],.bool false,[],50⟩),
 (109,⟨[.agg [.slice 32 0 6 13,.slice 33 3 3 6],g 2,g 0],[],.bool false,[],77⟩),
 (109,⟨[.agg [.slice 32 0 6 13,.slice 33 3 3 6],g 2,g 1],[],.bool false,[],124⟩)],
 [(108,⟨[.agg [.slice 32 0 6 13,.slice 33 3 3 6]],[],.bool false,[],46⟩)]⟩
theorem cu40_own:((kitK cu40.cx cu40.r.bins cu40.r.convs cu40.r.rows []).chk&&numsEq cu40.cx (ptsN cu40.d cu40.pts) cu40.cp&&Nat.blt cu40.z 30)=true:=by kernel_rfl
theorem cu40_1:cu40.keeps [(174,rmU)] cu40.k1=true:=by kernel_rfl
theorem cu40_2:cu40.keeps (cu40.k1++[(174,rmU)]) cu40.k2=true:=by kernel_rfl
theorem cu40_3:cu40.keeps (cu40.k2++(cu40.k1++[(174,rmU)])) cu40.k3=true:=by kernel_rfl
theorem cu40_run:memoOk (cu40.kit (cu40.k3++(cu40.k2++(cu40.k1++[(174,rmU)])))).tab 10000 60 52 cu40.arg (.int .i64 (Int.ofNat (cu40.z+1)))=true:=by kernel_rfl
theorem cu40_ok:CutT.Ok cu40 [(174,rmU)]:=⟨cu40_own,fun _ h=>AllK.cons (cuo_rm h) AllK.nil,cu40_1,cu40_2,cu40_3,cu40_run⟩
noncomputable def cu41:CutT:=⟨2,[(0,0),(2,0),(4,0),(0,2),(2,2),(4,2)],[0,1,4,0,4,3,1,2,5,1,5,4],4,
 (c (b (l (.num ⟨[([],4),([3],1)],2⟩)) (k [(4,1)] 2)) (k [(3,1)] 2) (b (l (.num ⟨[([],2),([4],1)],2⟩)) (.num ⟨[([],2),([3],1)],2⟩))),
 [.sym 0,.sym 1,.sym 2,.sym 1,.sym 3,.sym 1,.sym 0,.sym 4,.sym 2,.sym 4,.sym 3,.sym 4],
 ⟨[],[],(m (p (m (p (p (l (l [z 0 0,z 0 1,z 0 2,z 0 3,z 0 4])))) (q (p (q (p (l (l [([d 49],g 1),([.str [45,49]],g (-1)),([.str [45,50]],g (-1)),([d 48],g 0)])))))))) (p (m (p (p (q (p (l (l [([.sym 2,.sym 0],d 49),([.sym 4,.sym 1],d 49),([.sym 0,.sym 0],d 48),([d 49,d 48],d 49),([.sym 3,.sym 2],d 49),([.sym 1,.sym 1],d 48),([.sym 2,.sym 2],d 48),([d 48,d 49],.str [45,49]),([.sym 3,.sym 0],d 50),([d 48,d 50],.str [45,50]),([d 49,d 50],.str [45,49]),([d 49,d 49],d 48),([.sym 0,.sym 2],.str [45,49]),([.sym 4,.sym 4],d 48),([d 48,d 48],d 48),([.sym 1,.sym 4],.str [45,49]),([d 48,.str [45,49]],d 49),([.sym 3,.sym 3],d 48),([.sym 2,.sym 3],.str [45,49])])))))) (q (p (p (q (l (l [([d 49,d 49],d 49),([d 49,d 48],d 48),([d 48,d 49],d 48),([d 49,d 50],d 50),([.str [45,49],d 48],d 48),([d 48,d 48],d 48),([.str [45,49],d 49],.str [45,49]),([d 49,.str [45,49]],.str [45,49]),([.str [45,49],.str [45,49]],d 49)])))))))))⟩,24,
 [(107,⟨[.agg [.sym 0,.sym 1],.agg [.sym 2,.sym 4],.agg [.sym 0,.sym 4]],[],g 1,[],6⟩),(107,⟨[.agg [.sym 2,.sym 1],.agg [.sym 3,.sym 1],.agg [.sym 3,.sym 4]],[],g 1,[],6⟩),(107,⟨[.agg [.sym 2,.sym 1],.agg [.sym 3,.sym 4],.agg [.sym 2,.sym 4]],[],g 1,[],6⟩)],
 [(173,⟨[.agg [.slice 32 0 6 13,.slice 33 3 3 6]],[],.tup [.map 67,.bool true],[(67,.map [(.agg [g 0,g 4],g 0),(.agg [g 1,g 2],g 1),(.agg [g 1,g 5],g 2),(.agg [g 2,g 5],g 1),(.agg [g 3,g 0],g 0),(.agg [g 4,g 1],g 2),(.agg [g 4,g 3],g 0),(.agg [g 5,g 1],g 1),(.agg [g 5,g 4],g 2)] none)],29⟩),
 (109,⟨[.agg [.slice 32 0 6 13,.slice 33 3 3 6],g 1,g 0],[],.bool false,[],50⟩),
 (109,⟨[.agg [.slice 32 0 6 13,.slice 33 3 3 6],g 2,g 0],[],.bool false,[],77⟩),
 (109,⟨[.agg [.slice 32 0 6 13,.slice 33 3 3 6],g 2,g 1],[],.bool false,[],124⟩)],
 [(108,⟨[.agg [.slice 32 0 6 13,.slice 33 3 3 6]],[],.bool false,[],46⟩)]⟩
theorem cu41_own:((kitK cu41.cx cu41.r.bins cu41.r.convs cu41.r.rows []).chk&&numsEq cu41.cx (ptsN cu41.d cu41.pts) cu41.cp&&Nat.blt cu41.z 30)=true:=by kernel_rfl
theorem cu41_1:cu41.keeps [(174,rmU)] cu41.k1=true:=by kernel_rfl
theorem cu41_2:cu41.keeps (cu41.k1++[(174,rmU)]) cu41.k2=true:=by kernel_rfl
theorem cu41_3:cu41.keeps (cu41.k2++(cu41.k1++[(174,rmU)])) cu41.k3=true:=by kernel_rfl
theorem cu41_run:memoOk (cu41.kit (cu41.k3++(cu41.k2++(cu41.k1++[(174,rmU)])))).tab 10000 60 52 cu41.arg (.int .i64 (Int.ofNat (cu41.z+1)))=true:=by kernel_rfl
theorem cu41_ok:CutT.Ok cu41 [(174,rmU)]:=⟨cu41_own,fun _ h=>AllK.cons (cuo_rm h) AllK.nil,cu41_1,cu41_2,cu41_3,cu41_run⟩
end Go.Proofs.YtkjinnjopoehhaaGreatDoor
