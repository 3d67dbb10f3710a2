/-
  Meshes of a kind, made and checked on symbols.
-/
import Derived.Test.YtkjinnjopoehhaaGreatDoorMeshY
set_option linter.unusedSectionVars false
set_option linter.unusedVariables false
set_option linter.unusedSimpArgs false
namespace Go.Proofs.YtkjinnjopoehhaaGreatDoor
open Go Ev Klp Ab
set_option maxRecDepth 100000
noncomputable def me60:MeshT:=⟨6,1,false,[(0,0),(4,0),(4,4),(0,4),(2,0)],[0,4,3,4,2,3,4,1,2],3,
 (c (c (c (l (i 4)) (i8 3) (l (.int .i64 [([4],1),([],4)]))) (i8 1) (c (l (.int .i64 [([3],1),([],4)])) (n 3) (l (.int .i64 [([3],1),([],2)])))) (.int .u8 [([0],1)]) (c (c (l (n 4)) (i 3) (l (.num ⟨[([4],1),([],4)],1⟩))) (i8 2) (c (l (.num ⟨[([3],1),([],4)],1⟩)) (i8 4) (l (.num ⟨[([3],1),([],2)],1⟩))))),
 [⟨.rem,.sym 0,.int .u8 (8),.int .u8 (6)⟩,⟨.rem,.sym 1,.int .i8 (8),.sym 3⟩,⟨.mul,.sym 4,g 1,.sym 4⟩,⟨.add,g 0,.sym 4,.sym 4⟩,⟨.rem,.sym 2,.int .i8 (8),.sym 6⟩,⟨.mul,.sym 7,g 1,.sym 7⟩,⟨.add,g 0,.sym 7,.sym 7⟩,⟨.add,g 4,.sym 4,.sym 9⟩,⟨.add,g 4,.sym 7,.sym 11⟩,⟨.add,g 2,.sym 4,.sym 13⟩],
 [⟨3,.i64,.sym 4⟩,⟨6,.i64,.sym 7⟩],
 (m (p (m (p (p (l (m (m (m (p (l [z 0 14])) (l [z 0 10])) (m (l [z 0 8]) (l [z 0 12]))) (q (l [z 0 5])))))) (q (p (m (p (l (m (q (l [([.sym 4,g 1],.tup [.sym 5,g 0])])) (m (m (l [([.sym 7,g 1],.tup [.sym 8,g 0])]) (l [([.sym 11,g 1],.tup [.sym 12,g 0])])) (m (l [([.sym 9,g 1],.tup [.sym 10,g 0])]) (l [([.sym 13,g 1],.tup [.sym 14,g 0])])))))) (p (l (l [([d 56],g 1),([.str [49,54]],g 1),([d 48],g 0)])))))))) (p (m (p (p (a (m (m (m (p (l [([.sym 14,.sym 5],g 1)])) (l [([.sym 10,.sym 14],g 1)])) (m (l [([.sym 8,.sym 8],g 0),([.sym 8,.sym 12],g (-1))]) (l [([.sym 12,.sym 8],g 1),([.sym 12,.sym 12],g 0)]))) (q (l [([.sym 5,.sym 10],g (-1))]))) (p (l (c (m (m (p (l [([.sym 14,.sym 5],d 50)])) (l [([.sym 10,.sym 14],d 50),([.sym 10,.sym 5],d 52),([.sym 10,.sym 10],d 48)])) (m (l [([.sym 8,.sym 8],d 48),([.sym 8,.sym 12],.str [45,52])]) (l [([.sym 12,.sym 8],d 52),([.sym 12,.sym 12],d 48)]))) [([d 56,d 48],d 56),([d 56,.str [45,56]],.str [49,54]),([d 48,d 48],d 48),([d 48,.str [45,49,54]],.str [49,54]),([.str [49,54],d 48],.str [49,54]),([d 48,.str [45,56]],d 56)] (q (l [([.sym 5,.sym 5],d 48),([.sym 5,.sym 14],.str [45,50]),([.sym 5,.sym 10],.str [45,52])])))))))) (q (p (p (q (l (l [([d 50,d 52],d 56),([d 48,d 48],d 48),([d 52,.str [45,50]],.str [45,56]),([d 48,d 50],d 48),([d 50,d 48],d 48),([d 48,d 52],d 48),([d 52,.str [45,52]],.str [45,49,54]),([.str [45,52],.str [45,52]],.str [49,54]),([d 48,.str [45,52]],d 48),([.str [45,52],d 50],.str [45,56])]))))))))),
 ⟨[.agg [.sym 0,.sym 1,.sym 2,.bool false]],[],.agg [.slice 95 0 5 11,.slice 69 0 3 6],[(95,.cells [.sym 5,.sym 8,.sym 10,.sym 8,.sym 10,.sym 12,.sym 5,.sym 12,.sym 14,.sym 8] 158 2 false),(69,.cells [g 0,g 4,g 3,g 4,g 2,g 3,g 4,g 1,g 2] 181 0 false)],32⟩,
 .agg [.slice 64 0 5 11,.slice 65 0 3 6],
 [.cells [.sym 5,.sym 8,.sym 10,.sym 8,.sym 10,.sym 12,.sym 5,.sym 12,.sym 14,.sym 8] 158 2 false,.cells [g 0,g 4,g 3,g 4,g 2,g 3,g 4,g 1,g 2] 181 0 false],
 [t 107 5 8 14 8 5 12 1 6,t 107 14 8 10 12 5 12 1 6,t 107 14 8 10 8 10 12 1 6,t 107 5 8 14 8 10 8 0 6,t 107 10 8 10 12 5 12 1 6,t 107 10 12 5 12 5 8 1 6,t 107 5 12 5 8 14 8 1 6],
 [(173,⟨[.agg [.slice 32 0 5 11,.slice 33 0 3 6]],[],.tup [.map 67,.bool true],[(67,.map [(w 0 4,g 0),(w 1 2,g 2),(w 2 3,g 1),(w 2 4,g 2),(w 3 0,g 0),(w 3 4,g 1),(w 4 1,g 2),(w 4 2,g 1),(w 4 3,g 0)] none)],29⟩),
 (174,⟨[.agg [.slice 32 0 5 11,.slice 33 0 3 6],.map 64],[.map [(w 0 4,g 0),(w 1 2,g 2),(w 2 3,g 1),(w 2 4,g 2),(w 3 0,g 0),(w 3 4,g 1),(w 4 1,g 2),(w 4 2,g 1),(w 4 3,g 0)] none],.tup [.slice 86 0 5 11,.bool true],[(86,.cells [g 0,g 4,g 1,g 2,g 3] 3 1 false)],22⟩),
 (175,⟨[.agg [.slice 32 0 5 11,.slice 33 0 3 6],.slice 64 0 5 11],[.cells [g 0,g 4,g 1,g 2,g 3] 3 1 false],.bool true,[(64,.cells [g 0,g 4,g 1,g 2,g 3] 3 1 false)],71⟩)],
 [(108,⟨[.agg [.slice 32 0 5 11,.slice 33 0 3 6]],[],.bool true,[],127⟩)]⟩
theorem me60_own:me60.own=true:=by kernel_rfl
theorem me60_1:me60.keeps [] me60.k1=true:=by kernel_rfl
theorem me60_2:me60.keeps (me60.k1++[]) me60.k2=true:=by kernel_rfl
theorem me60_3:me60.keeps (me60.k2++(me60.k1++[])) me60.k3=true:=by kernel_rfl
theorem me60_run:memoOk (me60.kit (me60.all [])).tab 10000 60 52 [renV fz me60.pv] (.int .i64 0)=true:=by kernel_rfl
theorem me60_ok:me60.Ok []:=⟨me60_own,fun _ _=>AllK.nil,me60_1,me60_2,me60_3,me60_run⟩
noncomputable def me61:MeshT:=⟨6,2,true,[(0,0),(4,0),(4,4),(0,4),(2,0)],[0,4,3,4,2,3,4,1,2],3,
 (c (c (c (l (i 4)) (i8 3) (l (.int .i64 [([4],1),([],4)]))) (i8 1) (c (l (.int .i64 [([3],1),([],4)])) (k [(3,1)] 2) (l (.int .i64 [([3],1),([],2)])))) (.int .u8 [([0],1)]) (c (c (l (k [(4,1)] 2)) (i 3) (l (.num ⟨[([4],1),([],4)],2⟩))) (i8 2) (c (l (.num ⟨[([3],1),([],4)],2⟩)) (i8 4) (l (.num ⟨[([3],1),([],2)],2⟩))))),
 [⟨.rem,.sym 0,.int .u8 (8),.int .u8 (6)⟩,⟨.rem,.sym 1,.int .i8 (8),.sym 3⟩,⟨.mul,.sym 4,g 1,.sym 4⟩,⟨.add,g 0,.sym 4,.sym 4⟩,⟨.rem,.sym 2,.int .i8 (8),.sym 6⟩,⟨.mul,.sym 7,g 1,.sym 7⟩,⟨.add,g 0,.sym 7,.sym 7⟩,⟨.add,g 4,.sym 4,.sym 9⟩,⟨.add,g 4,.sym 7,.sym 11⟩,⟨.add,g 2,.sym 4,.sym 13⟩],
 [⟨3,.i64,.sym 4⟩,⟨6,.i64,.sym 7⟩],
 (m (p (m (p (p (l (m (m (m (p (l [z 0 14])) (l [z 0 10])) (m (l [z 0 8]) (l [z 0 12]))) (q (l [z 0 5])))))) (q (p (m (p (l (m (q (l [([.sym 4,g 2],.tup [.sym 5,g 0])])) (m (m (l [([.sym 7,g 2],.tup [.sym 8,g 0])]) (l [([.sym 11,g 2],.tup [.sym 12,g 0])])) (m (l [([.sym 9,g 2],.tup [.sym 10,g 0])]) (l [([.sym 13,g 2],.tup [.sym 14,g 0])])))))) (p (l (l [([d 50],g 1),([d 52],g 1),([d 48],g 0)])))))))) (p (m (p (p (a (m (m (m (p (l [([.sym 14,.sym 5],g 1)])) (l [([.sym 10,.sym 14],g 1)])) (m (l [([.sym 8,.sym 8],g 0),([.sym 8,.sym 12],g (-1))]) (l [([.sym 12,.sym 8],g 1),([.sym 12,.sym 12],g 0)]))) (q (l [([.sym 5,.sym 10],g (-1))]))) (p (l (c (m (m (p (l [([.sym 14,.sym 5],d 49)])) (l [([.sym 10,.sym 14],d 49),([.sym 10,.sym 5],d 50),([.sym 10,.sym 10],d 48)])) (m (l [([.sym 8,.sym 8],d 48),([.sym 8,.sym 12],.str [45,50])]) (l [([.sym 12,.sym 8],d 50),([.sym 12,.sym 12],d 48)]))) [([d 50,d 48],d 50),([d 50,.str [45,50]],d 52),([d 48,d 48],d 48),([d 48,.str [45,52]],d 52),([d 52,d 48],d 52),([d 48,.str [45,50]],d 50)] (q (l [([.sym 5,.sym 5],d 48),([.sym 5,.sym 14],.str [45,49]),([.sym 5,.sym 10],.str [45,50])])))))))) (q (p (p (q (l (l [([d 49,d 50],d 50),([d 48,d 48],d 48),([d 50,.str [45,49]],.str [45,50]),([d 48,d 49],d 48),([d 49,d 48],d 48),([d 48,d 50],d 48),([d 50,.str [45,50]],.str [45,52]),([.str [45,50],.str [45,50]],d 52),([d 48,.str [45,50]],d 48),([.str [45,50],d 49],.str [45,50])]))))))))),
 ⟨[.agg [.sym 0,.sym 1,.sym 2,.bool true]],[],.agg [.slice 95 0 5 11,.slice 69 0 3 6],[(95,.cells [.sym 5,.sym 8,.sym 10,.sym 8,.sym 10,.sym 12,.sym 5,.sym 12,.sym 14,.sym 8] 158 2 false),(69,.cells [g 0,g 4,g 3,g 4,g 2,g 3,g 4,g 1,g 2] 181 0 false)],32⟩,
 .agg [.slice 64 0 5 11,.slice 65 0 3 6],
 [.cells [.sym 5,.sym 8,.sym 10,.sym 8,.sym 10,.sym 12,.sym 5,.sym 12,.sym 14,.sym 8] 158 2 false,.cells [g 0,g 4,g 3,g 4,g 2,g 3,g 4,g 1,g 2] 181 0 false],
 [t 107 5 8 14 8 5 12 1 6,t 107 14 8 10 12 5 12 1 6,t 107 14 8 10 8 10 12 1 6,t 107 5 8 14 8 10 8 0 6,t 107 10 8 10 12 5 12 1 6,t 107 10 12 5 12 5 8 1 6,t 107 5 12 5 8 14 8 1 6],
 [(173,⟨[.agg [.slice 32 0 5 11,.slice 33 0 3 6]],[],.tup [.map 67,.bool true],[(67,.map [(w 0 4,g 0),(w 1 2,g 2),(w 2 3,g 1),(w 2 4,g 2),(w 3 0,g 0),(w 3 4,g 1),(w 4 1,g 2),(w 4 2,g 1),(w 4 3,g 0)] none)],29⟩),
 (174,⟨[.agg [.slice 32 0 5 11,.slice 33 0 3 6],.map 64],[.map [(w 0 4,g 0),(w 1 2,g 2),(w 2 3,g 1),(w 2 4,g 2),(w 3 0,g 0),(w 3 4,g 1),(w 4 1,g 2),(w 4 2,g 1),(w 4 3,g 0)] none],.tup [.slice 86 0 5 11,.bool true],[(86,.cells [g 0,g 4,g 1,g 2,g 3] 3 1 false)],22⟩),
 (175,⟨[.agg [.slice 32 0 5 11,.slice 33 0 3 6],.slice 64 0 5 11],[.cells [g 0,g 4,g 1,g 2,g 3] 3 1 false],.bool true,[(64,.cells [g 0,g 4,g 1,g 2,g 3] 3 1 false)],71⟩)],
 [(108,⟨[.agg [.slice 32 0 5 11,.slice 33 0 3 6]],[],.bool true,[],127⟩)]⟩
theorem me61_own:me61.own=true:=by kernel_rfl
theorem me61_1:me61.keeps [] me61.k1=true:=by kernel_rfl
theorem me61_2:me61.keeps (me61.k1++[]) me61.k2=true:=by kernel_rfl
theorem me61_3:me61.keeps (me61.k2++(me61.k1++[])) me61.k3=true:=by kernel_rfl
theorem me61_run:memoOk (me61.kit (me61.all [])).tab 10000 60 52 [renV fz me61.pv] (.int .i64 0)=true:=by kernel_rfl
theorem me61_ok:me61.Ok []:=⟨me61_own,fun _ _=>AllK.nil,me61_1,me61_2,me61_3,me61_run⟩
set_option maxRecDepth 100000
noncomputable def me70:MeshT:=⟨7,1,false,[(0,0),(6,0),(0,6),(2,2)],[0,1,3,1,2,3,2,0,3],3,
 (c (c (c (b (l (.int .i64 [([4],1),([],2)])) (i 4)) (i8 3) (l (.int .i64 [([4],1),([],6)]))) (i8 1) (c (l (.int .i64 [([3],1),([],6)])) (n 3) (l (.int .i64 [([3],1),([],2)])))) (.int .u8 [([0],1)]) (c (c (b (l (.num ⟨[([4],1),([],2)],1⟩)) (n 4)) (i 3) (l (.num ⟨[([4],1),([],6)],1⟩))) (i8 2) (c (l (.num ⟨[([3],1),([],6)],1⟩)) (i8 4) (l (.num ⟨[([3],1),([],2)],1⟩))))),
 [⟨.rem,.sym 0,.int .u8 (8),.int .u8 (7)⟩,⟨.rem,.sym 1,.int .i8 (8),.sym 3⟩,⟨.mul,.sym 4,g 1,.sym 4⟩,⟨.add,g 0,.sym 4,.sym 4⟩,⟨.rem,.sym 2,.int .i8 (8),.sym 6⟩,⟨.mul,.sym 7,g 1,.sym 7⟩,⟨.add,g 0,.sym 7,.sym 7⟩,⟨.add,g 6,.sym 4,.sym 9⟩,⟨.add,g 6,.sym 7,.sym 11⟩,⟨.add,g 2,.sym 4,.sym 13⟩,⟨.add,g 2,.sym 7,.sym 15⟩],
 [⟨3,.i64,.sym 4⟩,⟨6,.i64,.sym 7⟩],
 (m (p (m (p (p (l (m (m (m (p (l [z 0 14])) (l [z 0 10])) (m (b (l [z 0 16]) [z 0 8]) (l [z 0 12]))) (q (l [z 0 5])))))) (q (p (m (p (l (m (q (l [([.sym 4,g 1],.tup [.sym 5,g 0])])) (m (m (b (l [([.sym 15,g 1],.tup [.sym 16,g 0])]) [([.sym 7,g 1],.tup [.sym 8,g 0])]) (l [([.sym 11,g 1],.tup [.sym 12,g 0])])) (m (l [([.sym 9,g 1],.tup [.sym 10,g 0])]) (l [([.sym 13,g 1],.tup [.sym 14,g 0])])))))) (p (l (l [([.str [49,50]],g 1),([.str [51,54]],g 1)])))))))) (p (m (p (p (a (p (m (q (l [([.sym 10,.sym 5],g 1)])) (m (l [([.sym 8,.sym 8],g 0),([.sym 8,.sym 12],g (-1))]) (l [([.sym 12,.sym 8],g 1)])))) (p (l (c (m (m (p (l [([.sym 14,.sym 5],d 50),([.sym 14,.sym 10],.str [45,52])])) (l [([.sym 10,.sym 5],d 54)])) (m (b (l [([.sym 16,.sym 8],d 50),([.sym 16,.sym 12],.str [45,52])]) [([.sym 8,.sym 8],d 48),([.sym 8,.sym 12],.str [45,54])]) (l [([.sym 12,.sym 8],d 54)]))) [([.str [49,50],d 48],.str [49,50]),([.str [45,49,50],.str [45,50,52]],.str [49,50]),([d 48,.str [45,49,50]],.str [49,50]),([.str [51,54],d 48],.str [51,54]),([d 48,.str [45,51,54]],.str [51,54])] (q (l [([.sym 5,.sym 10],.str [45,54]),([.sym 5,.sym 5],d 48)])))))))) (q (p (p (q (l (l [([d 54,d 50],.str [49,50]),([d 48,d 50],d 48),([.str [45,54],d 50],.str [45,49,50]),([d 54,.str [45,52]],.str [45,50,52]),([d 48,.str [45,52]],d 48),([d 54,d 54],.str [51,54]),([d 48,d 48],d 48),([.str [45,54],d 48],d 48),([d 54,.str [45,54]],.str [45,51,54]),([d 48,.str [45,54]],d 48),([.str [45,54],d 54],.str [45,51,54])]))))))))),
 ⟨[.agg [.sym 0,.sym 1,.sym 2,.bool false]],[],.agg [.slice 89 0 4 9,.slice 68 0 3 6],[(89,.cells [.sym 5,.sym 8,.sym 10,.sym 8,.sym 5,.sym 12,.sym 14,.sym 16] 158 2 false),(68,.cells [g 0,g 1,g 3,g 1,g 2,g 3,g 2,g 0,g 3] 181 0 false)],26⟩,
 .agg [.slice 64 0 4 9,.slice 65 0 3 6],
 [.cells [.sym 5,.sym 8,.sym 10,.sym 8,.sym 5,.sym 12,.sym 14,.sym 16] 158 2 false,.cells [g 0,g 1,g 3,g 1,g 2,g 3,g 2,g 0,g 3] 181 0 false],
 [t 107 5 8 10 8 14 16 1 6,t 107 10 8 5 12 14 16 1 6,t 107 5 12 5 8 14 16 1 6,t 107 5 8 10 8 5 12 1 6,t 107 10 8 5 12 5 8 1 6,t 107 5 12 5 8 10 8 1 6],
 [(173,⟨[.agg [.slice 32 0 4 9,.slice 33 0 3 6]],[],.tup [.map 67,.bool true],[(67,.map [(w 0 1,g 0),(w 0 3,g 2),(w 1 2,g 1),(w 1 3,g 0),(w 2 0,g 2),(w 2 3,g 1),(w 3 0,g 0),(w 3 1,g 1),(w 3 2,g 2)] none)],29⟩),
 (174,⟨[.agg [.slice 32 0 4 9,.slice 33 0 3 6],.map 64],[.map [(w 0 1,g 0),(w 0 3,g 2),(w 1 2,g 1),(w 1 3,g 0),(w 2 0,g 2),(w 2 3,g 1),(w 3 0,g 0),(w 3 1,g 1),(w 3 2,g 2)] none],.tup [.slice 82 0 3 7,.bool true],[(82,.cells [g 0,g 1,g 2] 3 1 false)],18⟩),
 (175,⟨[.agg [.slice 32 0 4 9,.slice 33 0 3 6],.slice 64 0 3 7],[.cells [g 0,g 1,g 2] 3 1 false],.bool true,[(64,.cells [g 0,g 1,g 2] 3 1 false)],43⟩)],
 [(108,⟨[.agg [.slice 32 0 4 9,.slice 33 0 3 6]],[],.bool true,[],95⟩)]⟩
theorem me70_own:me70.own=true:=by kernel_rfl
theorem me70_1:me70.keeps [] me70.k1=true:=by kernel_rfl
theorem me70_2:me70.keeps (me70.k1++[]) me70.k2=true:=by kernel_rfl
theorem me70_3:me70.keeps (me70.k2++(me70.k1++[])) me70.k3=true:=by kernel_rfl
theorem me70_run:memoOk (me70.kit (me70.all [])).tab 10000 60 52 [renV fz me70.pv] (.int .i64 0)=true:=by kernel_rfl
theorem me70_ok:me70.Ok []:=⟨me70_own,fun _ _=>AllK.nil,me70_1,me70_2,me70_3,me70_run⟩
noncomputable def me71:MeshT:=⟨7,2,true,[(0,0),(6,0),(0,6),(2,2)],[0,1,3,1,2,3,2,0,3],3,
 (c (c (c (b (l (.int .i64 [([4],1),([],2)])) (i 4)) (i8 3) (l (.int .i64 [([4],1),([],6)]))) (i8 1) (c (l (.int .i64 [([3],1),([],6)])) (k [(3,1)] 2) (l (.int .i64 [([3],1),([],2)])))) (.int .u8 [([0],1)]) (c (c (b (l (.num ⟨[([4],1),([],2)],2⟩)) (k [(4,1)] 2)) (i 3) (l (.num ⟨[([4],1),([],6)],2⟩))) (i8 2) (c (l (.num ⟨[([3],1),([],6)],2⟩)) (i8 4) (l (.num ⟨[([3],1),([],2)],2⟩))))),
 [⟨.rem,.sym 0,.int .u8 (8),.int .u8 (7)⟩,⟨.rem,.sym 1,.int .i8 (8),.sym 3⟩,⟨.mul,.sym 4,g 1,.sym 4⟩,⟨.add,g 0,.sym 4,.sym 4⟩,⟨.rem,.sym 2,.int .i8 (8),.sym 6⟩,⟨.mul,.sym 7,g 1,.sym 7⟩,⟨.add,g 0,.sym 7,.sym 7⟩,⟨.add,g 6,.sym 4,.sym 9⟩,⟨.add,g 6,.sym 7,.sym 11⟩,⟨.add,g 2,.sym 4,.sym 13⟩,⟨.add,g 2,.sym 7,.sym 15⟩],
 [⟨3,.i64,.sym 4⟩,⟨6,.i64,.sym 7⟩],
 (m (p (m (p (p (l (m (m (m (p (l [z 0 14])) (l [z 0 10])) (m (b (l [z 0 16]) [z 0 8]) (l [z 0 12]))) (q (l [z 0 5])))))) (q (p (m (p (l (m (q (l [([.sym 4,g 2],.tup [.sym 5,g 0])])) (m (m (b (l [([.sym 15,g 2],.tup [.sym 16,g 0])]) [([.sym 7,g 2],.tup [.sym 8,g 0])]) (l [([.sym 11,g 2],.tup [.sym 12,g 0])])) (m (l [([.sym 9,g 2],.tup [.sym 10,g 0])]) (l [([.sym 13,g 2],.tup [.sym 14,g 0])])))))) (p (l (l [([d 51],g 1),([d 57],g 1)])))))))) (p (m (p (p (a (p (m (q (l [([.sym 10,.sym 5],g 1)])) (m (l [([.sym 8,.sym 8],g 0),([.sym 8,.sym 12],g (-1))]) (l [([.sym 12,.sym 8],g 1)])))) (p (l (c (m (m (p (l [([.sym 14,.sym 5],d 49),([.sym 14,.sym 10],.str [45,50])])) (l [([.sym 10,.sym 5],d 51)])) (m (b (l [([.sym 16,.sym 8],d 49),([.sym 16,.sym 12],.str [45,50])]) [([.sym 8,.sym 8],d 48),([.sym 8,.sym 12],.str [45,51])]) (l [([.sym 12,.sym 8],d 51)]))) [([d 51,d 48],d 51),([.str [45,51],.str [45,54]],d 51),([d 48,.str [45,51]],d 51),([d 57,d 48],d 57),([d 48,.str [45,57]],d 57)] (q (l [([.sym 5,.sym 10],.str [45,51]),([.sym 5,.sym 5],d 48)])))))))) (q (p (p (q (l (l [([d 51,d 49],d 51),([d 48,d 49],d 48),([.str [45,51],d 49],.str [45,51]),([d 51,.str [45,50]],.str [45,54]),([d 48,.str [45,50]],d 48),([d 51,d 51],d 57),([d 48,d 48],d 48),([.str [45,51],d 48],d 48),([d 51,.str [45,51]],.str [45,57]),([d 48,.str [45,51]],d 48),([.str [45,51],d 51],.str [45,57])]))))))))),
 ⟨[.agg [.sym 0,.sym 1,.sym 2,.bool true]],[],.agg [.slice 89 0 4 9,.slice 68 0 3 6],[(89,.cells [.sym 5,.sym 8,.sym 10,.sym 8,.sym 5,.sym 12,.sym 14,.sym 16] 158 2 false),(68,.cells [g 0,g 1,g 3,g 1,g 2,g 3,g 2,g 0,g 3] 181 0 false)],26⟩,
 .agg [.slice 64 0 4 9,.slice 65 0 3 6],
 [.cells [.sym 5,.sym 8,.sym 10,.sym 8,.sym 5,.sym 12,.sym 14,.sym 16] 158 2 false,.cells [g 0,g 1,g 3,g 1,g 2,g 3,g 2,g 0,g 3] 181 0 false],
 [t 107 5 8 10 8 14 16 1 6,t 107 10 8 5 12 14 16 1 6,t 107 5 12 5 8 14 16 1 6,t 107 5 8 10 8 5 12 1 6,t 107 10 8 5 12 5 8 1 6,t 107 5 12 5 8 10 8 1 6],
 [(173,⟨[.agg [.slice 32 0 4 9,.slice 33 0 3 6]],[],.tup [.map 67,.bool true],[(67,.map [(w 0 1,g 0),(w 0 3,g 2),(w 1 2,g 1),(w 1 3,g 0),(w 2 0,g 2),(w 2 3,g 1),(w 3 0,g 0),(w 3 1,g 1),(w 3 2,g 2)] none)],29⟩),
 (174,⟨[.agg [.slice 32 0 4 9,.slice 33 0 3 6],.map 64],[.map [(w 0 1,g 0),(w 0 3,g 2),(w 1 2,g 1),(w 1 3,g 0),(w 2 0,g 2),(w 2 3,g 1),(w 3 0,g 0),(w 3 1,g 1),(w 3 2,g 2)] none],.tup [.slice 82 0 3 7,.bool true],[(82,.cells [g 0,g 1,g 2] 3 1 false)],18⟩),
 (175,⟨[.agg [.slice 32 0 4 9,.slice 33 0 3 6],.slice 64 0 3 7],[.cells [g 0,g 1,g 2] 3 1 false],.bool true,[(64,.cells [g 0,g 1,g 2] 3 1 false)],43⟩)],
 [(108,⟨[.agg [.slice 32 0 4 9,.slice 33 0 3 6]],[],.bool true,[],95⟩)]⟩
theorem me71_own:me71.own=true:=by kernel_rfl
theorem me71_1:me71.keeps [] me71.k1=true:=by kernel_rfl
theorem me71_2:me71.keeps (me71.k1++[]) me71.k2=true:=by kernel_rfl
theorem me71_3:me71.keeps (me71.k2++(me71.k1++[])) me71.k3=true:=by kernel_rfl
theorem me71_run:memoOk (me71.kit (me71.all [])).tab 10000 60 52 [renV fz me71.pv] (.int .i64 0)=true:=by kernel_rfl
theorem me71_ok:me71.Ok []:=⟨me71_own,fun _ _=>AllK.nil,me71_1,me71_2,me71_3,me71_run⟩
end Go.Proofs.YtkjinnjopoehhaaGreatDoor
