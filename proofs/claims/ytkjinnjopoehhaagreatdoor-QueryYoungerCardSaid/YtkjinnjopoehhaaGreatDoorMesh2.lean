/-
  Meshes of a kind, made and checked on symbols.
-/
import Derived.Test.YtkjinnjopoehhaaGreatDoorMeshY
set_option linter.unusedSectionVars false
set_option linter.unusedVariables false
set_option linter.unusedSimpArgs false
namespace Go.Proofs.YtkjinnjopoehhaaGreatDoor
open Go Ev Klp Ab
set_option maxRecDepth 100000
noncomputable def me20:MeshT:=⟨2,1,false,[(0,0),(4,0),(4,4),(0,4),(2,1)],[0,1,4,1,2,4,2,3,4,3,0,4],4,
 (c (c (c (b (l (.int .i64 [([4],1),([],1)])) (i 4)) (i8 3) (l (.int .i64 [([4],1),([],4)]))) (i8 1) (c (l (.int .i64 [([3],1),([],4)])) (n 3) (l (.int .i64 [([3],1),([],2)])))) (.int .u8 [([0],1)]) (c (c (b (l (.num ⟨[([4],1),([],1)],1⟩)) (n 4)) (i 3) (l (.num ⟨[([4],1),([],4)],1⟩))) (i8 2) (c (l (.num ⟨[([3],1),([],4)],1⟩)) (i8 4) (l (.num ⟨[([3],1),([],2)],1⟩))))),
 [⟨.rem,.sym 0,.int .u8 (8),.int .u8 (2)⟩,⟨.rem,.sym 1,.int .i8 (8),.sym 3⟩,⟨.mul,.sym 4,g 1,.sym 4⟩,⟨.add,g 0,.sym 4,.sym 4⟩,⟨.rem,.sym 2,.int .i8 (8),.sym 6⟩,⟨.mul,.sym 7,g 1,.sym 7⟩,⟨.add,g 0,.sym 7,.sym 7⟩,⟨.add,g 4,.sym 4,.sym 9⟩,⟨.add,g 4,.sym 7,.sym 11⟩,⟨.add,g 2,.sym 4,.sym 13⟩,⟨.add,g 1,.sym 7,.sym 15⟩],
 [⟨3,.i64,.sym 4⟩,⟨6,.i64,.sym 7⟩],
 (m (p (m (p (p (l (m (m (m (p (l [z 0 14])) (l [z 0 10])) (m (b (l [z 0 16]) [z 0 8]) (l [z 0 12]))) (q (l [z 0 5])))))) (q (p (m (p (l (m (q (l [([.sym 4,g 1],.tup [.sym 5,g 0])])) (m (m (b (l [([.sym 15,g 1],.tup [.sym 16,g 0])]) [([.sym 7,g 1],.tup [.sym 8,g 0])]) (l [([.sym 11,g 1],.tup [.sym 12,g 0])])) (m (l [([.sym 9,g 1],.tup [.sym 10,g 0])]) (l [([.sym 13,g 1],.tup [.sym 14,g 0])])))))) (p (l (l [([d 52],g 1),([d 56],g 1),([.str [49,50]],g 1),([.str [49,54]],g 1)])))))))) (p (m (p (p (a (m (m (q (l [([.sym 10,.sym 5],g 1)])) (m (l [([.sym 8,.sym 8],g 0),([.sym 8,.sym 12],g (-1))]) (l [([.sym 12,.sym 8],g 1),([.sym 12,.sym 12],g 0)]))) (q (l [([.sym 5,.sym 10],g (-1))]))) (p (l (c (m (m (p (l [([.sym 14,.sym 5],d 50),([.sym 14,.sym 10],.str [45,50])])) (l [([.sym 10,.sym 5],d 52),([.sym 10,.sym 10],d 48)])) (m (b (l [([.sym 16,.sym 8],d 49),([.sym 16,.sym 12],.str [45,51])]) [([.sym 8,.sym 8],d 48),([.sym 8,.sym 12],.str [45,52])]) (l [([.sym 12,.sym 8],d 52),([.sym 12,.sym 12],d 48)]))) [([d 52,d 48],d 52),([d 48,.str [45,56]],d 56),([.str [49,50],d 48],.str [49,50]),([.str [49,54],d 48],.str [49,54]),([d 48,.str [45,49,54]],.str [49,54])] (q (l [([.sym 5,.sym 10],.str [45,52]),([.sym 5,.sym 5],d 48)])))))))) (q (p (p (q (l (l [([d 52,d 49],d 52),([d 48,d 50],d 48),([d 48,d 49],d 48),([d 52,.str [45,50]],.str [45,56]),([.str [45,52],.str [45,51]],.str [49,50]),([d 48,.str [45,50]],d 48),([d 48,.str [45,51]],d 48),([.str [45,52],d 50],.str [45,56]),([d 52,d 52],.str [49,54]),([d 48,d 52],d 48),([d 52,.str [45,52]],.str [45,49,54]),([.str [45,52],.str [45,52]],.str [49,54]),([d 48,.str [45,52]],d 48),([.str [45,52],d 52],.str [45,49,54])]))))))))),
 ⟨[.agg [.sym 0,.sym 1,.sym 2,.bool false]],[],.agg [.slice 95 0 5 11,.slice 69 0 4 8],[(95,.cells [.sym 5,.sym 8,.sym 10,.sym 8,.sym 10,.sym 12,.sym 5,.sym 12,.sym 14,.sym 16] 158 2 false),(69,.cells [g 0,g 1,g 4,g 1,g 2,g 4,g 2,g 3,g 4,g 3,g 0,g 4] 181 0 false)],32⟩,
 .agg [.slice 64 0 5 11,.slice 65 0 4 8],
 [.cells [.sym 5,.sym 8,.sym 10,.sym 8,.sym 10,.sym 12,.sym 5,.sym 12,.sym 14,.sym 16] 158 2 false,.cells [g 0,g 1,g 4,g 1,g 2,g 4,g 2,g 3,g 4,g 3,g 0,g 4] 181 0 false],
 [t 107 5 8 10 8 14 16 1 6,t 107 10 8 10 12 14 16 1 6,t 107 10 12 5 12 14 16 1 6,t 107 5 12 5 8 14 16 1 6,t 107 5 8 10 8 10 12 1 6,t 107 10 8 10 12 5 12 1 6,t 107 10 12 5 12 5 8 1 6,t 107 5 12 5 8 10 8 1 6],
 [(173,⟨[.agg [.slice 32 0 5 11,.slice 33 0 4 8]],[],.tup [.map 67,.bool true],[(67,.map [(w 0 1,g 0),(w 0 4,g 3),(w 1 2,g 1),(w 1 4,g 0),(w 2 3,g 2),(w 2 4,g 1),(w 3 0,g 3),(w 3 4,g 2),(w 4 0,g 0),(w 4 1,g 1),(w 4 2,g 2),(w 4 3,g 3)] none)],37⟩),
 (174,⟨[.agg [.slice 32 0 5 11,.slice 33 0 4 8],.map 64],[.map [(w 0 1,g 0),(w 0 4,g 3),(w 1 2,g 1),(w 1 4,g 0),(w 2 3,g 2),(w 2 4,g 1),(w 3 0,g 3),(w 3 4,g 2),(w 4 0,g 0),(w 4 1,g 1),(w 4 2,g 2),(w 4 3,g 3)] none],.tup [.slice 87 0 4 9,.bool true],[(87,.cells [g 0,g 1,g 2,g 3] 3 1 false)],23⟩),
 (175,⟨[.agg [.slice 32 0 5 11,.slice 33 0 4 8],.slice 64 0 4 9],[.cells [g 0,g 1,g 2,g 3] 3 1 false],.bool true,[(64,.cells [g 0,g 1,g 2,g 3] 3 1 false)],58⟩)],
 [(108,⟨[.agg [.slice 32 0 5 11,.slice 33 0 4 8]],[],.bool true,[],124⟩)]⟩
theorem me20_own:me20.own=true:=by kernel_rfl
theorem me20_1:me20.keeps [] me20.k1=true:=by kernel_rfl
theorem me20_2:me20.keeps (me20.k1++[]) me20.k2=true:=by kernel_rfl
theorem me20_3:me20.keeps (me20.k2++(me20.k1++[])) me20.k3=true:=by kernel_rfl
theorem me20_run:memoOk (me20.kit (me20.all [])).tab 10000 60 52 [renV fz me20.pv] (.int .i64 0)=true:=by kernel_rfl
theorem me20_ok:me20.Ok []:=⟨me20_own,fun _ _=>AllK.nil,me20_1,me20_2,me20_3,me20_run⟩
noncomputable def me21:MeshT:=⟨2,2,true,[(0,0),(4,0),(4,4),(0,4),(2,1)],[0,1,4,1,2,4,2,3,4,3,0,4],4,
 (c (c (c (b (l (.int .i64 [([4],1),([],1)])) (i 4)) (i8 3) (l (.int .i64 [([4],1),([],4)]))) (i8 1) (c (l (.int .i64 [([3],1),([],4)])) (k [(3,1)] 2) (l (.int .i64 [([3],1),([],2)])))) (.int .u8 [([0],1)]) (c (c (b (l (.num ⟨[([4],1),([],1)],2⟩)) (k [(4,1)] 2)) (i 3) (l (.num ⟨[([4],1),([],4)],2⟩))) (i8 2) (c (l (.num ⟨[([3],1),([],4)],2⟩)) (i8 4) (l (.num ⟨[([3],1),([],2)],2⟩))))),
 [⟨.rem,.sym 0,.int .u8 (8),.int .u8 (2)⟩,⟨.rem,.sym 1,.int .i8 (8),.sym 3⟩,⟨.mul,.sym 4,g 1,.sym 4⟩,⟨.add,g 0,.sym 4,.sym 4⟩,⟨.rem,.sym 2,.int .i8 (8),.sym 6⟩,⟨.mul,.sym 7,g 1,.sym 7⟩,⟨.add,g 0,.sym 7,.sym 7⟩,⟨.add,g 4,.sym 4,.sym 9⟩,⟨.add,g 4,.sym 7,.sym 11⟩,⟨.add,g 2,.sym 4,.sym 13⟩,⟨.add,g 1,.sym 7,.sym 15⟩],
 [⟨3,.i64,.sym 4⟩,⟨6,.i64,.sym 7⟩],
 (m (p (m (p (p (l (m (m (m (p (l [z 0 14])) (l [z 0 10])) (m (b (l [z 0 16]) [z 0 8]) (l [z 0 12]))) (q (l [z 0 5])))))) (q (p (m (p (l (m (q (l [([.sym 4,g 2],.tup [.sym 5,g 0])])) (m (m (b (l [([.sym 15,g 2],.tup [.sym 16,g 0])]) [([.sym 7,g 2],.tup [.sym 8,g 0])]) (l [([.sym 11,g 2],.tup [.sym 12,g 0])])) (m (l [([.sym 9,g 2],.tup [.sym 10,g 0])]) (l [([.sym 13,g 2],.tup [.sym 14,g 0])])))))) (p (l (l [([d 49],g 1),([d 50],g 1),([d 51],g 1),([d 52],g 1)])))))))) (p (m (p (p (a (m (m (q (l [([.sym 10,.sym 5],g 1)])) (m (l [([.sym 8,.sym 8],g 0),([.sym 8,.sym 12],g (-1))]) (l [([.sym 12,.sym 8],g 1),([.sym 12,.sym 12],g 0)]))) (q (l [([.sym 5,.sym 10],g (-1))]))) (p (l (c (m (m (p (l [([.sym 14,.sym 5],d 49),([.sym 14,.sym 10],.str [45,49])])) (l [([.sym 10,.sym 5],d 50),([.sym 10,.sym 10],d 48)])) (m (b (l [([.sym 16,.sym 8],.str [49,47,50]),([.sym 16,.sym 12],.str [45,51,47,50])]) [([.sym 8,.sym 8],d 48),([.sym 8,.sym 12],.str [45,50])]) (l [([.sym 12,.sym 8],d 50),([.sym 12,.sym 12],d 48)]))) [([d 49,d 48],d 49),([d 48,.str [45,50]],d 50),([d 51,d 48],d 51),([d 52,d 48],d 52),([d 48,.str [45,52]],d 52)] (q (l [([.sym 5,.sym 10],.str [45,50]),([.sym 5,.sym 5],d 48)])))))))) (q (p (p (q (l (l [([d 50,.str [49,47,50]],d 49),([d 48,d 49],d 48),([d 48,.str [49,47,50]],d 48),([d 50,.str [45,49]],.str [45,50]),([.str [45,50],.str [45,51,47,50]],d 51),([d 48,.str [45,49]],d 48),([d 48,.str [45,51,47,50]],d 48),([.str [45,50],d 49],.str [45,50]),([d 50,d 50],d 52),([d 48,d 50],d 48),([d 50,.str [45,50]],.str [45,52]),([.str [45,50],.str [45,50]],d 52),([d 48,.str [45,50]],d 48),([.str [45,50],d 50],.str [45,52])]))))))))),
 ⟨[.agg [.sym 0,.sym 1,.sym 2,.bool true]],[],.agg [.slice 95 0 5 11,.slice 69 0 4 8],[(95,.cells [.sym 5,.sym 8,.sym 10,.sym 8,.sym 10,.sym 12,.sym 5,.sym 12,.sym 14,.sym 16] 158 2 false),(69,.cells [g 0,g 1,g 4,g 1,g 2,g 4,g 2,g 3,g 4,g 3,g 0,g 4] 181 0 false)],32⟩,
 .agg [.slice 64 0 5 11,.slice 65 0 4 8],
 [.cells [.sym 5,.sym 8,.sym 10,.sym 8,.sym 10,.sym 12,.sym 5,.sym 12,.sym 14,.sym 16] 158 2 false,.cells [g 0,g 1,g 4,g 1,g 2,g 4,g 2,g 3,g 4,g 3,g 0,g 4] 181 0 false],
 [t 107 5 8 10 8 14 16 1 6,t 107 10 8 10 12 14 16 1 6,t 107 10 12 5 12 14 16 1 6,t 107 5 12 5 8 14 16 1 6,t 107 5 8 10 8 10 12 1 6,t 107 10 8 10 12 5 12 1 6,t 107 10 12 5 12 5 8 1 6,t 107 5 12 5 8 10 8 1 6],
 [(173,⟨[.agg [.slice 32 0 5 11,.slice 33 0 4 8]],[],.tup [.map 67,.bool true],[(67,.map [(w 0 1,g 0),(w 0 4,g 3),(w 1 2,g 1),(w 1 4,g 0),(w 2 3,g 2),(w 2 4,g 1),(w 3 0,g 3),(w 3 4,g 2),(w 4 0,g 0),(w 4 1,g 1),(w 4 2,g 2),(w 4 3,g 3)] none)],37⟩),
 (174,⟨[.agg [.slice 32 0 5 11,.slice 33 0 4 8],.map 64],[.map [(w 0 1,g 0),(w 0 4,g 3),(w 1 2,g 1),(w 1 4,g 0),(w 2 3,g 2),(w 2 4,g 1),(w 3 0,g 3),(w 3 4,g 2),(w 4 0,g 0),(w 4 1,g 1),(w 4 2,g 2),(w 4 3,g 3)] none],.tup [.slice 87 0 4 9,.bool true],[(87,.cells [g 0,g 1,g 2,g 3] 3 1 false)],23⟩),
 (175,⟨[.agg [.slice 32 0 5 11,.slice 33 0 4 8],.slice 64 0 4 9],[.cells [g 0,g 1,g 2,g 3] 3 1 false],.bool true,[(64,.cells [g 0,g 1,g 2,g 3] 3 1 false)],58⟩)],
 [(108,⟨[.agg [.slice 32 0 5 11,.slice 33 0 4 8]],[],.bool true,[],124⟩)]⟩
theorem me21_own:me21.own=true:=by kernel_rfl
theorem me21_1:me21.keeps [] me21.k1=true:=by kernel_rfl
theorem me21_2:me21.keeps (me21.k1++[]) me21.k2=true:=by kernel_rfl
theorem me21_3:me21.keeps (me21.k2++(me21.k1++[])) me21.k3=true:=by kernel_rfl
theorem me21_run:memoOk (me21.kit (me21.all [])).tab 10000 60 52 [renV fz me21.pv] (.int .i64 0)=true:=by kernel_rfl
theorem me21_ok:me21.Ok []:=⟨me21_own,fun _ _=>AllK.nil,me21_1,me21_2,me21_3,me21_run⟩
end Go.Proofs.YtkjinnjopoehhaaGreatDoor
