/-
  Meshes of a kind, made and checked on symbols.
-/
import Derived.Test.YtkjinnjopoehhaaGreatDoorMeshY
set_option linter.unusedSectionVars false
set_option linter.unusedVariables false
set_option linter.unusedSimpArgs false
namespace Go.Proofs.YtkjinnjopoehhaaGreatDoor
open Go Ev Klp Ab
set_option maxRecDepth 100000
noncomputable def me30:MeshT:=⟨3,1,false,[(0,0),(6,0),(0,4)],[2,0,1],1,
 (c (c (c (l (i 4)) (i8 3) (l (.int .i64 [([4],1),([],4)]))) (i8 1) (b (l (.int .i64 [([3],1),([],6)])) (n 3))) (.int .u8 [([0],1)]) (c (c (l (n 4)) (i 3) (l (.num ⟨[([4],1),([],4)],1⟩))) (i8 2) (b (l (.num ⟨[([3],1),([],6)],1⟩)) (i8 4)))),
 [⟨.rem,.sym 0,.int .u8 (8),.int .u8 (3)⟩,⟨.rem,.sym 1,.int .i8 (8),.sym 3⟩,⟨.mul,.sym 4,g 1,.sym 4⟩,⟨.add,g 0,.sym 4,.sym 4⟩,⟨.rem,.sym 2,.int .i8 (8),.sym 6⟩,⟨.mul,.sym 7,g 1,.sym 7⟩,⟨.add,g 0,.sym 7,.sym 7⟩,⟨.add,g 6,.sym 4,.sym 9⟩,⟨.add,g 4,.sym 7,.sym 11⟩],
 [⟨3,.i64,.sym 4⟩,⟨6,.i64,.sym 7⟩],
 (m (p (m (p (p (l (m (m (q (l [z 0 10])) (m (l [z 0 8]) (l [z 0 12]))) (q (l [z 0 5])))))) (q (p (m (p (l (m (q (l [([.sym 4,g 1],.tup [.sym 5,g 0])])) (m (m (l [([.sym 7,g 1],.tup [.sym 8,g 0])]) (l [([.sym 11,g 1],.tup [.sym 12,g 0])])) (p (l [([.sym 9,g 1],.tup [.sym 10,g 0])])))))) (p (l (l [([.str [50,52]],g 1)])))))))) (p (m (p (p (a (p (m (q (l [([.sym 10,.sym 5],g 1)])) (m (l [([.sym 8,.sym 8],g 0),([.sym 8,.sym 12],g (-1))]) (l [([.sym 12,.sym 8],g 1)])))) (p (l (c (m (q (l [([.sym 10,.sym 5],d 54)])) (m (l [([.sym 8,.sym 12],.str [45,52]),([.sym 8,.sym 8],d 48)]) (l [([.sym 12,.sym 8],d 52)]))) [([d 48,.str [45,50,52]],.str [50,52]),([.str [50,52],d 48],.str [50,52])] (q (l [([.sym 5,.sym 5],d 48),([.sym 5,.sym 10],.str [45,54])])))))))) (q (p (p (q (l (l [([d 48,.str [45,52]],d 48),([.str [45,52],d 54],.str [45,50,52]),([d 54,d 52],.str [50,52]),([d 48,d 48],d 48),([.str [45,54],d 48],d 48),([d 52,.str [45,54]],.str [45,50,52])]))))))))),
 ⟨[.agg [.sym 0,.sym 1,.sym 2,.bool false]],[],.agg [.slice 84 0 3 7,.slice 68 0 1 2],[(84,.cells [.sym 5,.sym 8,.sym 10,.sym 8,.sym 5,.sym 12] 158 2 false),(68,.cells [g 2,g 0,g 1] 181 0 false)],21⟩,
 .agg [.slice 64 0 3 7,.slice 65 0 1 2],
 [.cells [.sym 5,.sym 8,.sym 10,.sym 8,.sym 5,.sym 12] 158 2 false,.cells [g 2,g 0,g 1] 181 0 false],
 [t 107 5 12 5 8 10 8 1 6,t 107 5 8 10 8 5 12 1 6,t 107 10 8 5 12 5 8 1 6],
 [(173,⟨[.agg [.slice 32 0 3 7,.slice 33 0 1 2]],[],.tup [.map 67,.bool true],[(67,.map [(w 0 1,g 0),(w 1 2,g 0),(w 2 0,g 0)] none)],13⟩),
 (174,⟨[.agg [.slice 32 0 3 7,.slice 33 0 1 2],.map 64],[.map [(w 0 1,g 0),(w 1 2,g 0),(w 2 0,g 0)] none],.tup [.slice 76 0 3 7,.bool true],[(76,.cells [g 0,g 1,g 2] 3 1 false)],12⟩),
 (175,⟨[.agg [.slice 32 0 3 7,.slice 33 0 1 2],.slice 64 0 3 7],[.cells [g 0,g 1,g 2] 3 1 false],.bool true,[(64,.cells [g 0,g 1,g 2] 3 1 false)],43⟩)],
 [(108,⟨[.agg [.slice 32 0 3 7,.slice 33 0 1 2]],[],.bool true,[],71⟩)]⟩
theorem me30_own:me30.own=true:=by kernel_rfl
theorem me30_1:me30.keeps [] me30.k1=true:=by kernel_rfl
theorem me30_2:me30.keeps (me30.k1++[]) me30.k2=true:=by kernel_rfl
theorem me30_3:me30.keeps (me30.k2++(me30.k1++[])) me30.k3=true:=by kernel_rfl
theorem me30_run:memoOk (me30.kit (me30.all [])).tab 10000 60 52 [renV fz me30.pv] (.int .i64 0)=true:=by kernel_rfl
theorem me30_ok:me30.Ok []:=⟨me30_own,fun _ _=>AllK.nil,me30_1,me30_2,me30_3,me30_run⟩
noncomputable def me31:MeshT:=⟨3,2,true,[(0,0),(6,0),(0,4)],[2,0,1],1,
 (c (c (c (l (i 4)) (i8 3) (l (.int .i64 [([4],1),([],4)]))) (i8 1) (b (l (.int .i64 [([3],1),([],6)])) (k [(3,1)] 2))) (.int .u8 [([0],1)]) (c (c (l (k [(4,1)] 2)) (i 3) (l (.num ⟨[([4],1),([],4)],2⟩))) (i8 2) (b (l (.num ⟨[([3],1),([],6)],2⟩)) (i8 4)))),
 [⟨.rem,.sym 0,.int .u8 (8),.int .u8 (3)⟩,⟨.rem,.sym 1,.int .i8 (8),.sym 3⟩,⟨.mul,.sym 4,g 1,.sym 4⟩,⟨.add,g 0,.sym 4,.sym 4⟩,⟨.rem,.sym 2,.int .i8 (8),.sym 6⟩,⟨.mul,.sym 7,g 1,.sym 7⟩,⟨.add,g 0,.sym 7,.sym 7⟩,⟨.add,g 6,.sym 4,.sym 9⟩,⟨.add,g 4,.sym 7,.sym 11⟩],
 [⟨3,.i64,.sym 4⟩,⟨6,.i64,.sym 7⟩],
 (m (p (m (p (p (l (m (m (q (l [z 0 10])) (m (l [z 0 8]) (l [z 0 12]))) (q (l [z 0 5])))))) (q (p (m (p (l (m (q (l [([.sym 4,g 2],.tup [.sym 5,g 0])])) (m (m (l [([.sym 7,g 2],.tup [.sym 8,g 0])]) (l [([.sym 11,g 2],.tup [.sym 12,g 0])])) (p (l [([.sym 9,g 2],.tup [.sym 10,g 0])])))))) (p (l (l [([d 54],g 1)])))))))) (p (m (p (p (a (p (m (q (l [([.sym 10,.sym 5],g 1)])) (m (l [([.sym 8,.sym 8],g 0),([.sym 8,.sym 12],g (-1))]) (l [([.sym 12,.sym 8],g 1)])))) (p (l (c (m (q (l [([.sym 10,.sym 5],d 51)])) (m (l [([.sym 8,.sym 12],.str [45,50]),([.sym 8,.sym 8],d 48)]) (l [([.sym 12,.sym 8],d 50)]))) [([d 48,.str [45,54]],d 54),([d 54,d 48],d 54)] (q (l [([.sym 5,.sym 5],d 48),([.sym 5,.sym 10],.str [45,51])])))))))) (q (p (p (q (l (l [([d 48,.str [45,50]],d 48),([.str [45,50],d 51],.str [45,54]),([d 51,d 50],d 54),([d 48,d 48],d 48),([.str [45,51],d 48],d 48),([d 50,.str [45,51]],.str [45,54])]))))))))),
 ⟨[.agg [.sym 0,.sym 1,.sym 2,.bool true]],[],.agg [.slice 84 0 3 7,.slice 68 0 1 2],[(84,.cells [.sym 5,.sym 8,.sym 10,.sym 8,.sym 5,.sym 12] 158 2 false),(68,.cells [g 2,g 0,g 1] 181 0 false)],21⟩,
 .agg [.slice 64 0 3 7,.slice 65 0 1 2],
 [.cells [.sym 5,.sym 8,.sym 10,.sym 8,.sym 5,.sym 12] 158 2 false,.cells [g 2,g 0,g 1] 181 0 false],
 [t 107 5 12 5 8 10 8 1 6,t 107 5 8 10 8 5 12 1 6,t 107 10 8 5 12 5 8 1 6],
 [(173,⟨[.agg [.slice 32 0 3 7,.slice 33 0 1 2]],[],.tup [.map 67,.bool true],[(67,.map [(w 0 1,g 0),(w 1 2,g 0),(w 2 0,g 0)] none)],13⟩),
 (174,⟨[.agg [.slice 32 0 3 7,.slice 33 0 1 2],.map 64],[.map [(w 0 1,g 0),(w 1 2,g 0),(w 2 0,g 0)] none],.tup [.slice 76 0 3 7,.bool true],[(76,.cells [g 0,g 1,g 2] 3 1 false)],12⟩),
 (175,⟨[.agg [.slice 32 0 3 7,.slice 33 0 1 2],.slice 64 0 3 7],[.cells [g 0,g 1,g 2] 3 1 false],.bool true,[(64,.cells [g 0,g 1,g 2] 3 1 false)],43⟩)],
 [(108,⟨[.agg [.slice 32 0 3 7,.slice 33 0 1 2]],[],.bool true,[],71⟩)]⟩
theorem me31_own:me31.own=true:=by kernel_rfl
theorem me31_1:me31.keeps [] me31.k1=true:=by kernel_rfl
theorem me31_2:me31.keeps (me31.k1++[]) me31.k2=true:=by kernel_rfl
theorem me31_3:me31.keeps (me31.k2++(me31.k1++[])) me31.k3=true:=by kernel_rfl
theorem me31_run:memoOk (me31.kit (me31.all [])).tab 10000 60 52 [renV fz me31.pv] (.int .i64 0)=true:=by kernel_rfl
theorem me31_ok:me31.Ok []:=⟨me31_own,fun _ _=>AllK.nil,me31_1,me31_2,me31_3,me31_run⟩
set_option maxRecDepth 100000
noncomputable def me50:MeshT:=⟨5,1,false,[(1,4),(5,3),(4,0),(0,0)],[3,2,1,3,1,0],2,
 (c (c (c (b (l (.int .i64 [([3],1),([],4)])) (i8 4)) (i8 3) (l (.int .i64 [([3],1),([],5)]))) (i8 1) (c (b (l (n 4)) (.int .i64 [([4],1),([],4)])) (.int .i64 [([3],1),([],1)]) (l (.int .i64 [([4],1),([],3)])))) (.int .u8 [([0],1)]) (c (c (b (l (.num ⟨[([3],1),([],4)],1⟩)) (i 4)) (i 3) (l (.num ⟨[([3],1),([],5)],1⟩))) (i8 2) (c (b (l (n 3)) (.num ⟨[([4],1),([],4)],1⟩)) (.num ⟨[([3],1),([],1)],1⟩) (l (.num ⟨[([4],1),([],3)],1⟩))))),
 [⟨.rem,.sym 0,.int .u8 (8),.int .u8 (5)⟩,⟨.rem,.sym 1,.int .i8 (8),.sym 3⟩,⟨.mul,.sym 4,g 1,.sym 4⟩,⟨.add,g 1,.sym 4,.sym 5⟩,⟨.rem,.sym 2,.int .i8 (8),.sym 7⟩,⟨.mul,.sym 8,g 1,.sym 8⟩,⟨.add,g 4,.sym 8,.sym 9⟩,⟨.add,g 5,.sym 4,.sym 11⟩,⟨.add,g 3,.sym 8,.sym 13⟩,⟨.add,g 4,.sym 4,.sym 15⟩,⟨.add,g 0,.sym 8,.sym 8⟩,⟨.add,g 0,.sym 4,.sym 4⟩],
 [⟨3,.i64,.sym 4⟩,⟨7,.i64,.sym 8⟩],
 (m (p (m (p (p (l (m (m (m (b (l [z 0 14]) [z 0 6]) (b (l [z 0 18]) [z 0 10])) (m (p (l [z 0 16])) (l [z 0 12]))) (q (p (p (l [z 0 17])))))))) (q (p (m (p (l (m (q (b (l [([.sym 8,g 1],.tup [.sym 17,g 0])]) [([.sym 4,g 1],.tup [.sym 18,g 0])])) (m (m (p (l [([.sym 15,g 1],.tup [.sym 16,g 0])])) (l [([.sym 11,g 1],.tup [.sym 12,g 0])])) (c (l [([.sym 9,g 1],.tup [.sym 10,g 0])]) [([.sym 5,g 1],.tup [.sym 6,g 0])] (l [([.sym 13,g 1],.tup [.sym 14,g 0])])))))) (p (l (l [([.str [49,50]],g 1),([.str [49,55]],g 1),([.str [49,54]],g 1),([.str [49,51]],g 1)])))))))) (p (m (p (p (a (m (m (m (p (l [([.sym 14,.sym 17],g 1)])) (l [([.sym 10,.sym 14],g 1)])) (p (p (l [([.sym 16,.sym 18],g 1)])))) (q (p (p (l [([.sym 17,.sym 10],g (-1)),([.sym 17,.sym 17],g 0)]))))) (p (l (c (m (m (b (l [([.sym 14,.sym 17],d 51)]) [([.sym 6,.sym 18],d 49),([.sym 6,.sym 16],.str [45,51]),([.sym 6,.sym 12],.str [45,52])]) (b (l [([.sym 18,.sym 6],.str [45,49]),([.sym 18,.sym 12],.str [45,53])]) [([.sym 10,.sym 17],d 52),([.sym 10,.sym 14],d 49)])) (m (p (l [([.sym 16,.sym 18],d 52),([.sym 16,.sym 6],d 51)])) (l [([.sym 12,.sym 18],d 53),([.sym 12,.sym 16],d 49)]))) [([.str [49,50],d 48],.str [49,50]),([.str [50,48],d 51],.str [49,55]),([d 52,.str [45,49,50]],.str [49,54]),([d 52,.str [45,57]],.str [49,51]),([.str [49,50],.str [45,53]],.str [49,55])] (q (p (p (l [([.sym 17,.sym 17],d 48),([.sym 17,.sym 10],.str [45,52]),([.sym 17,.sym 14],.str [45,51])])))))))))) (q (p (p (q (l (l [([d 52,d 51],.str [49,50]),([d 48,d 53],d 48),([d 53,d 52],.str [50,48]),([d 51,d 49],d 51),([.str [45,49],.str [45,52]],d 52),([.str [45,52],d 51],.str [45,49,50]),([d 49,d 52],d 52),([d 51,.str [45,51]],.str [45,57]),([.str [45,52],.str [45,51]],.str [49,50]),([d 49,.str [45,53]],.str [45,53])]))))))))),
 ⟨[.agg [.sym 0,.sym 1,.sym 2,.bool false]],[],.agg [.slice 89 0 4 9,.slice 68 0 2 4],[(89,.cells [.sym 6,.sym 10,.sym 12,.sym 14,.sym 16,.sym 17,.sym 18,.sym 17] 158 2 false),(68,.cells [g 3,g 2,g 1,g 3,g 1,g 0] 181 0 false)],26⟩,
 .agg [.slice 64 0 4 9,.slice 65 0 2 4],
 [.cells [.sym 6,.sym 10,.sym 12,.sym 14,.sym 16,.sym 17,.sym 18,.sym 17] 158 2 false,.cells [g 3,g 2,g 1,g 3,g 1,g 0] 181 0 false],
 [t 107 18 17 16 17 12 14 1 6,t 107 18 17 12 14 6 10 1 6,t 107 6 10 18 17 16 17 1 6,t 107 16 17 12 14 6 10 1 6,t 107 12 14 6 10 18 17 1 6],
 [(173,⟨[.agg [.slice 32 0 4 9,.slice 33 0 2 4]],[],.tup [.map 67,.bool true],[(67,.map [(w 0 3,g 1),(w 1 0,g 1),(w 1 3,g 0),(w 2 1,g 0),(w 3 1,g 1),(w 3 2,g 0)] none)],21⟩),
 (174,⟨[.agg [.slice 32 0 4 9,.slice 33 0 2 4],.map 64],[.map [(w 0 3,g 1),(w 1 0,g 1),(w 1 3,g 0),(w 2 1,g 0),(w 3 1,g 1),(w 3 2,g 0)] none],.tup [.slice 81 0 4 9,.bool true],[(81,.cells [g 0,g 3,g 2,g 1] 3 1 false)],17⟩),
 (175,⟨[.agg [.slice 32 0 4 9,.slice 33 0 2 4],.slice 64 0 4 9],[.cells [g 0,g 3,g 2,g 1] 3 1 false],.bool true,[(64,.cells [g 0,g 3,g 2,g 1] 3 1 false)],54⟩)],
 [(108,⟨[.agg [.slice 32 0 4 9,.slice 33 0 2 4]],[],.bool true,[],96⟩)]⟩
theorem me50_own:me50.own=true:=by kernel_rfl
theorem me50_1:me50.keeps [] me50.k1=true:=by kernel_rfl
theorem me50_2:me50.keeps (me50.k1++[]) me50.k2=true:=by kernel_rfl
theorem me50_3:me50.keeps (me50.k2++(me50.k1++[])) me50.k3=true:=by kernel_rfl
theorem me50_run:memoOk (me50.kit (me50.all [])).tab 10000 60 52 [renV fz me50.pv] (.int .i64 0)=true:=by kernel_rfl
theorem me50_ok:me50.Ok []:=⟨me50_own,fun _ _=>AllK.nil,me50_1,me50_2,me50_3,me50_run⟩
noncomputable def me51:MeshT:=⟨5,2,true,[(1,4),(5,3),(4,0),(0,0)],[3,2,1,3,1,0],2,
 (c (c (c (b (l (.int .i64 [([3],1),([],4)])) (i8 4)) (i8 3) (l (.int .i64 [([3],1),([],5)]))) (i8 1) (c (b (l (k [(4,1)] 2)) (.int .i64 [([4],1),([],4)])) (.int .i64 [([3],1),([],1)]) (l (.int .i64 [([4],1),([],3)])))) (.int .u8 [([0],1)]) (c (c (b (l (.num ⟨[([3],1),([],4)],2⟩)) (i 4)) (i 3) (l (.num ⟨[([3],1),([],5)],2⟩))) (i8 2) (c (b (l (k [(3,1)] 2)) (.num ⟨[([4],1),([],4)],2⟩)) (.num ⟨[([3],1),([],1)],2⟩) (l (.num ⟨[([4],1),([],3)],2⟩))))),
 [⟨.rem,.sym 0,.int .u8 (8),.int .u8 (5)⟩,⟨.rem,.sym 1,.int .i8 (8),.sym 3⟩,⟨.mul,.sym 4,g 1,.sym 4⟩,⟨.add,g 1,.sym 4,.sym 5⟩,⟨.rem,.sym 2,.int .i8 (8),.sym 7⟩,⟨.mul,.sym 8,g 1,.sym 8⟩,⟨.add,g 4,.sym 8,.sym 9⟩,⟨.add,g 5,.sym 4,.sym 11⟩,⟨.add,g 3,.sym 8,.sym 13⟩,⟨.add,g 4,.sym 4,.sym 15⟩,⟨.add,g 0,.sym 8,.sym 8⟩,⟨.add,g 0,.sym 4,.sym 4⟩],
 [⟨3,.i64,.sym 4⟩,⟨7,.i64,.sym 8⟩],
 (m (p (m (p (p (l (m (m (m (b (l [z 0 14]) [z 0 6]) (b (l [z 0 18]) [z 0 10])) (m (p (l [z 0 16])) (l [z 0 12]))) (q (p (p (l [z 0 17])))))))) (q (p (m (p (l (m (q (b (l [([.sym 8,g 2],.tup [.sym 17,g 0])]) [([.sym 4,g 2],.tup [.sym 18,g 0])])) (m (m (p (l [([.sym 15,g 2],.tup [.sym 16,g 0])])) (l [([.sym 11,g 2],.tup [.sym 12,g 0])])) (c (l [([.sym 9,g 2],.tup [.sym 10,g 0])]) [([.sym 5,g 2],.tup [.sym 6,g 0])] (l [([.sym 13,g 2],.tup [.sym 14,g 0])])))))) (p (l (l [([d 51],g 1),([.str [49,55,47,52]],g 1),([d 52],g 1),([.str [49,51,47,52]],g 1)])))))))) (p (m (p (p (a (m (m (m (p (l [([.sym 14,.sym 17],g 1)])) (l [([.sym 10,.sym 14],g 1)])) (p (p (l [([.sym 16,.sym 18],g 1)])))) (q (p (p (l [([.sym 17,.sym 10],g (-1)),([.sym 17,.sym 17],g 0)]))))) (p (l (c (m (m (b (l [([.sym 14,.sym 17],.str [51,47,50])]) [([.sym 6,.sym 18],.str [49,47,50]),([.sym 6,.sym 16],.str [45,51,47,50]),([.sym 6,.sym 12],.str [45,50])]) (b (l [([.sym 18,.sym 6],.str [45,49,47,50]),([.sym 18,.sym 12],.str [45,53,47,50])]) [([.sym 10,.sym 17],d 50),([.sym 10,.sym 14],.str [49,47,50])])) (m (p (l [([.sym 16,.sym 18],d 50),([.sym 16,.sym 6],.str [51,47,50])])) (l [([.sym 12,.sym 18],.str [53,47,50]),([.sym 12,.sym 16],.str [49,47,50])]))) [([d 51,d 48],d 51),([d 53,.str [51,47,52]],.str [49,55,47,52]),([d 49,.str [45,51]],d 52),([d 49,.str [45,57,47,52]],.str [49,51,47,52]),([d 51,.str [45,53,47,52]],.str [49,55,47,52])] (q (p (p (l [([.sym 17,.sym 17],d 48),([.sym 17,.sym 10],.str [45,50]),([.sym 17,.sym 14],.str [45,51,47,50])])))))))))) (q (p (p (q (l (l [([d 50,.str [51,47,50]],d 51),([d 48,.str [53,47,50]],d 48),([.str [53,47,50],d 50],d 53),([.str [51,47,50],.str [49,47,50]],.str [51,47,52]),([.str [45,49,47,50],.str [45,50]],d 49),([.str [45,50],.str [51,47,50]],.str [45,51]),([.str [49,47,50],d 50],d 49),([.str [51,47,50],.str [45,51,47,50]],.str [45,57,47,52]),([.str [45,50],.str [45,51,47,50]],d 51),([.str [49,47,50],.str [45,53,47,50]],.str [45,53,47,52])]))))))))),
 ⟨[.agg [.sym 0,.sym 1,.sym 2,.bool true]],[],.agg [.slice 89 0 4 9,.slice 68 0 2 4],[(89,.cells [.sym 6,.sym 10,.sym 12,.sym 14,.sym 16,.sym 17,.sym 18,.sym 17] 158 2 false),(68,.cells [g 3,g 2,g 1,g 3,g 1,g 0] 181 0 false)],26⟩,
 .agg [.slice 64 0 4 9,.slice 65 0 2 4],
 [.cells [.sym 6,.sym 10,.sym 12,.sym 14,.sym 16,.sym 17,.sym 18,.sym 17] 158 2 false,.cells [g 3,g 2,g 1,g 3,g 1,g 0] 181 0 false],
 [t 107 18 17 16 17 12 14 1 6,t 107 18 17 12 14 6 10 1 6,t 107 6 10 18 17 16 17 1 6,t 107 16 17 12 14 6 10 1 6,t 107 12 14 6 10 18 17 1 6],
 [(173,⟨[.agg [.slice 32 0 4 9,.slice 33 0 2 4]],[],.tup [.map 67,.bool true],[(67,.map [(w 0 3,g 1),(w 1 0,g 1),(w 1 3,g 0),(w 2 1,g 0),(w 3 1,g 1),(w 3 2,g 0)] none)],21⟩),
 (174,⟨[.agg [.slice 32 0 4 9,.slice 33 0 2 4],.map 64],[.map [(w 0 3,g 1),(w 1 0,g 1),(w 1 3,g 0),(w 2 1,g 0),(w 3 1,g 1),(w 3 2,g 0)] none],.tup [.slice 81 0 4 9,.bool true],[(81,.cells [g 0,g 3,g 2,g 1] 3 1 false)],17⟩),
 (175,⟨[.agg [.slice 32 0 4 9,.slice 33 0 2 4],.slice 64 0 4 9],[.cells [g 0,g 3,g 2,g 1] 3 1 false],.bool true,[(64,.cells [g 0,g 3,g 2,g 1] 3 1 false)],54⟩)],
 [(108,⟨[.agg [.slice 32 0 4 9,.slice 33 0 2 4]],[],.bool true,[],96⟩)]⟩
theorem me51_own:me51.own=true:=by kernel_rfl
theorem me51_1:me51.keeps [] me51.k1=true:=by kernel_rfl
theorem me51_2:me51.keeps (me51.k1++[]) me51.k2=true:=by kernel_rfl
theorem me51_3:me51.keeps (me51.k2++(me51.k1++[])) me51.k3=true:=by kernel_rfl
theorem me51_run:memoOk (me51.kit (me51.all [])).tab 10000 60 52 [renV fz me51.pv] (.int .i64 0)=true:=by kernel_rfl
theorem me51_ok:me51.Ok []:=⟨me51_own,fun _ _=>AllK.nil,me51_1,me51_2,me51_3,me51_run⟩
end Go.Proofs.YtkjinnjopoehhaaGreatDoor
