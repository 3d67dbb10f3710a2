/-
  Meshes of a kind, made and checked on symbols.
-/
import Derived.Test.YtkjinnjopoehhaaGreatDoorMeshY
set_option linter.unusedSectionVars false
set_option linter.unusedVariables false
set_option linter.unusedSimpArgs false
namespace Go.Proofs.YtkjinnjopoehhaaGreatDoor
open Go Ev Klp Ab
set_option maxRecDepth 100000
noncomputable def me00:MeshT:=⟨0,1,false,[(0,0),(4,0),(4,4),(0,4)],[0,1,2,0,2,3],2,
 (c (c (c (l (i 4)) (i8 3) (l (.int .i64 [([4],1),([],4)]))) (i8 1) (b (l (.int .i64 [([3],1),([],4)])) (n 3))) (.int .u8 [([0],1)]) (c (c (l (n 4)) (i 3) (l (.num ⟨[([4],1),([],4)],1⟩))) (i8 2) (b (l (.num ⟨[([3],1),([],4)],1⟩)) (i8 4)))),
 [⟨.rem,.sym 0,.int .u8 (8),.int .u8 (0)⟩,⟨.rem,.sym 1,.int .i8 (8),.sym 3⟩,⟨.mul,.sym 4,g 1,.sym 4⟩,⟨.add,g 0,.sym 4,.sym 4⟩,⟨.rem,.sym 2,.int .i8 (8),.sym 6⟩,⟨.mul,.sym 7,g 1,.sym 7⟩,⟨.add,g 0,.sym 7,.sym 7⟩,⟨.add,g 4,.sym 4,.sym 9⟩,⟨.add,g 4,.sym 7,.sym 11⟩],
 [⟨3,.i64,.sym 4⟩,⟨6,.i64,.sym 7⟩],
 (m (p (m (p (p (l (m (m (q (l [z 0 10])) (m (l [z 0 8]) (l [z 0 12]))) (q (l [z 0 5])))))) (q (p (m (p (l (m (q (l [([.sym 4,g 1],.tup [.sym 5,g 0])])) (m (m (l [([.sym 7,g 1],.tup [.sym 8,g 0])]) (l [([.sym 11,g 1],.tup [.sym 12,g 0])])) (p (l [([.sym 9,g 1],.tup [.sym 10,g 0])])))))) (p (l (l [([.str [49,54]],g 1)])))))))) (p (m (p (p (a (m (m (q (l [([.sym 10,.sym 5],g 1)])) (m (l [([.sym 8,.sym 8],g 0),([.sym 8,.sym 12],g (-1))]) (l [([.sym 12,.sym 8],g 1),([.sym 12,.sym 12],g 0)]))) (q (l [([.sym 5,.sym 10],g (-1))]))) (p (l (c (m (q (l [([.sym 10,.sym 5],d 52),([.sym 10,.sym 10],d 48)])) (m (l [([.sym 8,.sym 8],d 48),([.sym 8,.sym 12],.str [45,52])]) (l [([.sym 12,.sym 8],d 52),([.sym 12,.sym 12],d 48)]))) [([.str [49,54],d 48],.str [49,54]),([d 48,.str [45,49,54]],.str [49,54])] (q (l [([.sym 5,.sym 5],d 48),([.sym 5,.sym 10],.str [45,52])])))))))) (q (p (p (q (l (l [([d 52,d 52],.str [49,54]),([d 48,d 52],d 48),([d 52,d 48],d 48),([d 52,.str [45,52]],.str [45,49,54]),([.str [45,52],.str [45,52]],.str [49,54]),([d 48,.str [45,52]],d 48),([.str [45,52],d 52],.str [45,49,54])]))))))))),
 ⟨[.agg [.sym 0,.sym 1,.sym 2,.bool false]],[],.agg [.slice 88 0 4 9,.slice 67 0 2 4],[(88,.cells [.sym 5,.sym 8,.sym 10,.sym 8,.sym 10,.sym 12,.sym 5,.sym 12] 158 2 false),(67,.cells [g 0,g 1,g 2,g 0,g 2,g 3] 181 0 false)],25⟩,
 .agg [.slice 64 0 4 9,.slice 65 0 2 4],
 [.cells [.sym 5,.sym 8,.sym 10,.sym 8,.sym 10,.sym 12,.sym 5,.sym 12] 158 2 false,.cells [g 0,g 1,g 2,g 0,g 2,g 3] 181 0 false],
 [t 107 5 8 10 8 10 12 1 6,t 107 5 8 10 12 5 12 1 6,t 107 10 8 10 12 5 12 1 6,t 107 10 12 5 12 5 8 1 6,t 107 5 12 5 8 10 8 1 6],
 [(173,⟨[.agg [.slice 32 0 4 9,.slice 33 0 2 4]],[],.tup [.map 67,.bool true],[(67,.map [(w 0 1,g 0),(w 0 2,g 1),(w 1 2,g 0),(w 2 0,g 0),(w 2 3,g 1),(w 3 0,g 1)] none)],21⟩),
 (174,⟨[.agg [.slice 32 0 4 9,.slice 33 0 2 4],.map 64],[.map [(w 0 1,g 0),(w 0 2,g 1),(w 1 2,g 0),(w 2 0,g 0),(w 2 3,g 1),(w 3 0,g 1)] none],.tup [.slice 81 0 4 9,.bool true],[(81,.cells [g 0,g 1,g 2,g 3] 3 1 false)],17⟩),
 (175,⟨[.agg [.slice 32 0 4 9,.slice 33 0 2 4],.slice 64 0 4 9],[.cells [g 0,g 1,g 2,g 3] 3 1 false],.bool true,[(64,.cells [g 0,g 1,g 2,g 3] 3 1 false)],58⟩)],
 [(108,⟨[.agg [.slice 32 0 4 9,.slice 33 0 2 4]],[],.bool true,[],100⟩)]⟩
theorem me00_own:me00.own=true:=by kernel_rfl
theorem me00_1:me00.keeps [] me00.k1=true:=by kernel_rfl
theorem me00_2:me00.keeps (me00.k1++[]) me00.k2=true:=by kernel_rfl
theorem me00_3:me00.keeps (me00.k2++(me00.k1++[])) me00.k3=true:=by kernel_rfl
theorem me00_run:memoOk (me00.kit (me00.all [])).tab 10000 60 52 [renV fz me00.pv] (.int .i64 0)=true:=by kernel_rfl
theorem me00_ok:me00.Ok []:=⟨me00_own,fun _ _=>AllK.nil,me00_1,me00_2,me00_3,me00_run⟩
noncomputable def me01:MeshT:=⟨0,2,true,[(0,0),(4,0),(4,4),(0,4)],[0,1,2,0,2,3],2,
 (c (c (c (l (i 4)) (i8 3) (l (.int .i64 [([4],1),([],4)]))) (i8 1) (b (l (.int .i64 [([3],1),([],4)])) (k [(3,1)] 2))) (.int .u8 [([0],1)]) (c (c (l (k [(4,1)] 2)) (i 3) (l (.num ⟨[([4],1),([],4)],2⟩))) (i8 2) (b (l (.num ⟨[([3],1),([],4)],2⟩)) (i8 4)))),
 [⟨.rem,.sym 0,.int .u8 (8),.int .u8 (0)⟩,⟨.rem,.sym 1,.int .i8 (8),.sym 3⟩,⟨.mul,.sym 4,g 1,.sym 4⟩,⟨.add,g 0,.sym 4,.sym 4⟩,⟨.rem,.sym 2,.int .i8 (8),.sym 6⟩,⟨.mul,.sym 7,g 1,.sym 7⟩,⟨.add,g 0,.sym 7,.sym 7⟩,⟨.add,g 4,.sym 4,.sym 9⟩,⟨.add,g 4,.sym 7,.sym 11⟩],
 [⟨3,.i64,.sym 4⟩,⟨6,.i64,.sym 7⟩],
 (m (p (m (p (p (l (m (m (q (l [z 0 10])) (m (l [z 0 8]) (l [z 0 12]))) (q (l [z 0 5])))))) (q (p (m (p (l (m (q (l [([.sym 4,g 2],.tup [.sym 5,g 0])])) (m (m (l [([.sym 7,g 2],.tup [.sym 8,g 0])]) (l [([.sym 11,g 2],.tup [.sym 12,g 0])])) (p (l [([.sym 9,g 2],.tup [.sym 10,g 0])])))))) (p (l (l [([d 52],g 1)])))))))) (p (m (p (p (a (m (m (q (l [([.sym 10,.sym 5],g 1)])) (m (l [([.sym 8,.sym 8],g 0),([.sym 8,.sym 12],g (-1))]) (l [([.sym 12,.sym 8],g 1),([.sym 12,.sym 12],g 0)]))) (q (l [([.sym 5,.sym 10],g (-1))]))) (p (l (c (m (q (l [([.sym 10,.sym 5],d 50),([.sym 10,.sym 10],d 48)])) (m (l [([.sym 8,.sym 8],d 48),([.sym 8,.sym 12],.str [45,50])]) (l [([.sym 12,.sym 8],d 50),([.sym 12,.sym 12],d 48)]))) [([d 52,d 48],d 52),([d 48,.str [45,52]],d 52)] (q (l [([.sym 5,.sym 5],d 48),([.sym 5,.sym 10],.str [45,50])])))))))) (q (p (p (q (l (l [([d 50,d 50],d 52),([d 48,d 50],d 48),([d 50,d 48],d 48),([d 50,.str [45,50]],.str [45,52]),([.str [45,50],.str [45,50]],d 52),([d 48,.str [45,50]],d 48),([.str [45,50],d 50],.str [45,52])]))))))))),
 ⟨[.agg [.sym 0,.sym 1,.sym 2,.bool true]],[],.agg [.slice 88 0 4 9,.slice 67 0 2 4],[(88,.cells [.sym 5,.sym 8,.sym 10,.sym 8,.sym 10,.sym 12,.sym 5,.sym 12] 158 2 false),(67,.cells [g 0,g 1,g 2,g 0,g 2,g 3] 181 0 false)],25⟩,
 .agg [.slice 64 0 4 9,.slice 65 0 2 4],
 [.cells [.sym 5,.sym 8,.sym 10,.sym 8,.sym 10,.sym 12,.sym 5,.sym 12] 158 2 false,.cells [g 0,g 1,g 2,g 0,g 2,g 3] 181 0 false],
 [t 107 5 8 10 8 10 12 1 6,t 107 5 8 10 12 5 12 1 6,t 107 10 8 10 12 5 12 1 6,t 107 10 12 5 12 5 8 1 6,t 107 5 12 5 8 10 8 1 6],
 [(173,⟨[.agg [.slice 32 0 4 9,.slice 33 0 2 4]],[],.tup [.map 67,.bool true],[(67,.map [(w 0 1,g 0),(w 0 2,g 1),(w 1 2,g 0),(w 2 0,g 0),(w 2 3,g 1),(w 3 0,g 1)] none)],21⟩),
 (174,⟨[.agg [.slice 32 0 4 9,.slice 33 0 2 4],.map 64],[.map [(w 0 1,g 0),(w 0 2,g 1),(w 1 2,g 0),(w 2 0,g 0),(w 2 3,g 1),(w 3 0,g 1)] none],.tup [.slice 81 0 4 9,.bool true],[(81,.cells [g 0,g 1,g 2,g 3] 3 1 false)],17⟩),
 (175,⟨[.agg [.slice 32 0 4 9,.slice 33 0 2 4],.slice 64 0 4 9],[.cells [g 0,g 1,g 2,g 3] 3 1 false],.bool true,[(64,.cells [g 0,g 1,g 2,g 3] 3 1 false)],58⟩)],
 [(108,⟨[.agg [.slice 32 0 4 9,.slice 33 0 2 4]],[],.bool true,[],100⟩)]⟩
theorem me01_own:me01.own=true:=by kernel_rfl
theorem me01_1:me01.keeps [] me01.k1=true:=by kernel_rfl
theorem me01_2:me01.keeps (me01.k1++[]) me01.k2=true:=by kernel_rfl
theorem me01_3:me01.keeps (me01.k2++(me01.k1++[])) me01.k3=true:=by kernel_rfl
theorem me01_run:memoOk (me01.kit (me01.all [])).tab 10000 60 52 [renV fz me01.pv] (.int .i64 0)=true:=by kernel_rfl
theorem me01_ok:me01.Ok []:=⟨me01_own,fun _ _=>AllK.nil,me01_1,me01_2,me01_3,me01_run⟩
set_option maxRecDepth 100000
noncomputable def me10:MeshT:=⟨1,1,false,[(0,0),(4,0),(4,4),(0,4)],[0,1,3,1,2,3],2,
 (c (c (c (l (i 4)) (i8 3) (l (.int .i64 [([4],1),([],4)]))) (i8 1) (b (l (.int .i64 [([3],1),([],4)])) (n 3))) (.int .u8 [([0],1)]) (c (c (l (n 4)) (i 3) (l (.num ⟨[([4],1),([],4)],1⟩))) (i8 2) (b (l (.num ⟨[([3],1),([],4)],1⟩)) (i8 4)))),
 [⟨.rem,.sym 0,.int .u8 (8),.int .u8 (1)⟩,⟨.rem,.sym 1,.int .i8 (8),.sym 3⟩,⟨.mul,.sym 4,g 1,.sym 4⟩,⟨.add,g 0,.sym 4,.sym 4⟩,⟨.rem,.sym 2,.int .i8 (8),.sym 6⟩,⟨.mul,.sym 7,g 1,.sym 7⟩,⟨.add,g 0,.sym 7,.sym 7⟩,⟨.add,g 4,.sym 4,.sym 9⟩,⟨.add,g 4,.sym 7,.sym 11⟩],
 [⟨3,.i64,.sym 4⟩,⟨6,.i64,.sym 7⟩],
 (m (p (m (p (p (l (m (m (q (l [z 0 10])) (m (l [z 0 8]) (l [z 0 12]))) (q (l [z 0 5])))))) (q (p (m (p (l (m (q (l [([.sym 4,g 1],.tup [.sym 5,g 0])])) (m (m (l [([.sym 7,g 1],.tup [.sym 8,g 0])]) (l [([.sym 11,g 1],.tup [.sym 12,g 0])])) (p (l [([.sym 9,g 1],.tup [.sym 10,g 0])])))))) (p (l (l [([.str [49,54]],g 1)])))))))) (p (m (p (p (a (m (m (q (l [([.sym 10,.sym 5],g 1)])) (m (l [([.sym 8,.sym 8],g 0),([.sym 8,.sym 12],g (-1))]) (l [([.sym 12,.sym 8],g 1),([.sym 12,.sym 12],g 0)]))) (q (l [([.sym 5,.sym 10],g (-1))]))) (p (l (c (m (q (l [([.sym 10,.sym 5],d 52),([.sym 10,.sym 10],d 48)])) (m (l [([.sym 8,.sym 8],d 48),([.sym 8,.sym 12],.str [45,52])]) (l [([.sym 12,.sym 8],d 52),([.sym 12,.sym 12],d 48)]))) [([.str [49,54],d 48],.str [49,54]),([d 48,.str [45,49,54]],.str [49,54])] (q (l [([.sym 5,.sym 5],d 48),([.sym 5,.sym 10],.str [45,52])])))))))) (q (p (p (q (l (l [([d 52,d 52],.str [49,54]),([d 48,d 48],d 48),([d 48,d 52],d 48),([d 52,.str [45,52]],.str [45,49,54]),([.str [45,52],.str [45,52]],.str [49,54]),([d 48,.str [45,52]],d 48),([.str [45,52],d 52],.str [45,49,54])]))))))))),
 ⟨[.agg [.sym 0,.sym 1,.sym 2,.bool false]],[],.agg [.slice 88 0 4 9,.slice 67 0 2 4],[(88,.cells [.sym 5,.sym 8,.sym 10,.sym 8,.sym 10,.sym 12,.sym 5,.sym 12] 158 2 false),(67,.cells [g 0,g 1,g 3,g 1,g 2,g 3] 181 0 false)],25⟩,
 .agg [.slice 64 0 4 9,.slice 65 0 2 4],
 [.cells [.sym 5,.sym 8,.sym 10,.sym 8,.sym 10,.sym 12,.sym 5,.sym 12] 158 2 false,.cells [g 0,g 1,g 3,g 1,g 2,g 3] 181 0 false],
 [t 107 5 8 10 8 5 12 1 6,t 107 10 8 10 12 5 12 1 6,t 107 5 8 10 8 10 12 1 6,t 107 10 12 5 12 5 8 1 6,t 107 5 12 5 8 10 8 1 6],
 [(173,⟨[.agg [.slice 32 0 4 9,.slice 33 0 2 4]],[],.tup [.map 67,.bool true],[(67,.map [(w 0 1,g 0),(w 1 2,g 1),(w 1 3,g 0),(w 2 3,g 1),(w 3 0,g 0),(w 3 1,g 1)] none)],21⟩),
 (174,⟨[.agg [.slice 32 0 4 9,.slice 33 0 2 4],.map 64],[.map [(w 0 1,g 0),(w 1 2,g 1),(w 1 3,g 0),(w 2 3,g 1),(w 3 0,g 0),(w 3 1,g 1)] none],.tup [.slice 81 0 4 9,.bool true],[(81,.cells [g 0,g 1,g 2,g 3] 3 1 false)],17⟩),
 (175,⟨[.agg [.slice 32 0 4 9,.slice 33 0 2 4],.slice 64 0 4 9],[.cells [g 0,g 1,g 2,g 3] 3 1 false],.bool true,[(64,.cells [g 0,g 1,g 2,g 3] 3 1 false)],58⟩)],
 [(108,⟨[.agg [.slice 32 0 4 9,.slice 33 0 2 4]],[],.bool true,[],100⟩)]⟩
theorem me10_own:me10.own=true:=by kernel_rfl
theorem me10_1:me10.keeps [] me10.k1=true:=by kernel_rfl
theorem me10_2:me10.keeps (me10.k1++[]) me10.k2=true:=by kernel_rfl
theorem me10_3:me10.keeps (me10.k2++(me10.k1++[])) me10.k3=true:=by kernel_rfl
theorem me10_run:memoOk (me10.kit (me10.all [])).tab 10000 60 52 [renV fz me10.pv] (.int .i64 0)=true:=by kernel_rfl
theorem me10_ok:me10.Ok []:=⟨me10_own,fun _ _=>AllK.nil,me10_1,me10_2,me10_3,me10_run⟩
noncomputable def me11:MeshT:=⟨1,2,true,[(0,0),(4,0),(4,4),(0,4)],[0,1,3,1,2,3],2,
 (c (c (c (l (i 4)) (i8 3) (l (.int .i64 [([4],1),([],4)]))) (i8 1) (b (l (.int .i64 [([3],1),([],4)])) (k [(3,1)] 2))) (.int .u8 [([0],1)]) (c (c (l (k [(4,1)] 2)) (i 3) (l (.num ⟨[([4],1),([],4)],2⟩))) (i8 2) (b (l (.num ⟨[([3],1),([],4)],2⟩)) (i8 4)))),
 [⟨.rem,.sym 0,.int .u8 (8),.int .u8 (1)⟩,⟨.rem,.sym 1,.int .i8 (8),.sym 3⟩,⟨.mul,.sym 4,g 1,.sym 4⟩,⟨.add,g 0,.sym 4,.sym 4⟩,⟨.rem,.sym 2,.int .i8 (8),.sym 6⟩,⟨.mul,.sym 7,g 1,.sym 7⟩,⟨.add,g 0,.sym 7,.sym 7⟩,⟨.add,g 4,.sym 4,.sym 9⟩,⟨.add,g 4,.sym 7,.sym 11⟩],
 [⟨3,.i64,.sym 4⟩,⟨6,.i64,.sym 7⟩],
 (m (p (m (p (p (l (m (m (q (l [z 0 10])) (m (l [z 0 8]) (l [z 0 12]))) (q (l [z 0 5])))))) (q (p (m (p (l (m (q (l [([.sym 4,g 2],.tup [.sym 5,g 0])])) (m (m (l [([.sym 7,g 2],.tup [.sym 8,g 0])]) (l [([.sym 11,g 2],.tup [.sym 12,g 0])])) (p (l [([.sym 9,g 2],.tup [.sym 10,g 0])])))))) (p (l (l [([d 52],g 1)])))))))) (p (m (p (p (a (m (m (q (l [([.sym 10,.sym 5],g 1)])) (m (l [([.sym 8,.sym 8],g 0),([.sym 8,.sym 12],g (-1))]) (l [([.sym 12,.sym 8],g 1),([.sym 12,.sym 12],g 0)]))) (q (l [([.sym 5,.sym 10],g (-1))]))) (p (l (c (m (q (l [([.sym 10,.sym 5],d 50),([.sym 10,.sym 10],d 48)])) (m (l [([.sym 8,.sym 8],d 48),([.sym 8,.sym 12],.str [45,50])]) (l [([.sym 12,.sym 8],d 50),([.sym 12,.sym 12],d 48)]))) [([d 52,d 48],d 52),([d 48,.str [45,52]],d 52)] (q (l [([.sym 5,.sym 5],d 48),([.sym 5,.sym 10],.str [45,50])])))))))) (q (p (p (q (l (l [([d 50,d 50],d 52),([d 48,d 48],d 48),([d 48,d 50],d 48),([d 50,.str [45,50]],.str [45,52]),([.str [45,50],.str [45,50]],d 52),([d 48,.str [45,50]],d 48),([.str [45,50],d 50],.str [45,52])]))))))))),
 ⟨[.agg [.sym 0,.sym 1,.sym 2,.bool true]],[],.agg [.slice 88 0 4 9,.slice 67 0 2 4],[(88,.cells [.sym 5,.sym 8,.sym 10,.sym 8,.sym 10,.sym 12,.sym 5,.sym 12] 158 2 false),(67,.cells [g 0,g 1,g 3,g 1,g 2,g 3] 181 0 false)],25⟩,
 .agg [.slice 64 0 4 9,.slice 65 0 2 4],
 [.cells [.sym 5,.sym 8,.sym 10,.sym 8,.sym 10,.sym 12,.sym 5,.sym 12] 158 2 false,.cells [g 0,g 1,g 3,g 1,g 2,g 3] 181 0 false],
 [t 107 5 8 10 8 5 12 1 6,t 107 10 8 10 12 5 12 1 6,t 107 5 8 10 8 10 12 1 6,t 107 10 12 5 12 5 8 1 6,t 107 5 12 5 8 10 8 1 6],
 [(173,⟨[.agg [.slice 32 0 4 9,.slice 33 0 2 4]],[],.tup [.map 67,.bool true],[(67,.map [(w 0 1,g 0),(w 1 2,g 1),(w 1 3,g 0),(w 2 3,g 1),(w 3 0,g 0),(w 3 1,g 1)] none)],21⟩),
 (174,⟨[.agg [.slice 32 0 4 9,.slice 33 0 2 4],.map 64],[.map [(w 0 1,g 0),(w 1 2,g 1),(w 1 3,g 0),(w 2 3,g 1),(w 3 0,g 0),(w 3 1,g 1)] none],.tup [.slice 81 0 4 9,.bool true],[(81,.cells [g 0,g 1,g 2,g 3] 3 1 false)],17⟩),
 (175,⟨[.agg [.slice 32 0 4 9,.slice 33 0 2 4],.slice 64 0 4 9],[.cells [g 0,g 1,g 2,g 3] 3 1 false],.bool true,[(64,.cells [g 0,g 1,g 2,g 3] 3 1 false)],58⟩)],
 [(108,⟨[.agg [.slice 32 0 4 9,.slice 33 0 2 4]],[],.bool true,[],100⟩)]⟩
theorem me11_own:me11.own=true:=by kernel_rfl
theorem me11_1:me11.keeps [] me11.k1=true:=by kernel_rfl
theorem me11_2:me11.keeps (me11.k1++[]) me11.k2=true:=by kernel_rfl
theorem me11_3:me11.keeps (me11.k2++(me11.k1++[])) me11.k3=true:=by kernel_rfl
theorem me11_run:memoOk (me11.kit (me11.all [])).tab 10000 60 52 [renV fz me11.pv] (.int .i64 0)=true:=by kernel_rfl
theorem me11_ok:me11.Ok []:=⟨me11_own,fun _ _=>AllK.nil,me11_1,me11_2,me11_3,me11_run⟩
end Go.Proofs.YtkjinnjopoehhaaGreatDoor
