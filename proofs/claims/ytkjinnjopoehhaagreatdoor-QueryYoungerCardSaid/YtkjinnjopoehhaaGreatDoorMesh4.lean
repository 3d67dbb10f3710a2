/-
  Meshes of a kind, made and checked on symbols.
-/
import Derived.Test.YtkjinnjopoehhaaGreatDoorMeshY
import Derived.Test.YtkjinnjopoehhaaGreatDoorOuterC
set_option linter.unusedSectionVars false
set_option linter.unusedVariables false
set_option linter.unusedSimpArgs false
namespace Go.Proofs.YtkjinnjopoehhaaGreatDoor
open Go Ev Klp Ab
set_option maxRecDepth 100000
noncomputable def me40:MeshT:=⟨4,1,false,[(0,0),(2,0),(4,0),(0,2),(2,2),(4,2)],[0,1,4,0,4,3,1,2,5,1,5,4],4,
 (c (c (c (l (i 4)) (i8 3) (l (.int .i64 [([3],1),([],4)]))) (i8 1) (c (l (.int .i64 [([3],1),([],2)])) (n 3) (l (.int .i64 [([4],1),([],2)])))) (.int .u8 [([0],1)]) (c (c (l (n 4)) (i 3) (l (.num ⟨[([3],1),([],4)],1⟩))) (i8 2) (c (l (.num ⟨[([3],1),([],2)],1⟩)) (i8 4) (l (.num ⟨[([4],1),([],2)],1⟩))))),
 [⟨.rem,.sym 0,.int .u8 (8),.int .u8 (4)⟩,⟨.rem,.sym 1,.int .i8 (8),.sym 3⟩,⟨.mul,.sym 4,g 1,.sym 4⟩,⟨.add,g 0,.sym 4,.sym 4⟩,⟨.rem,.sym 2,.int .i8 (8),.sym 6⟩,⟨.mul,.sym 7,g 1,.sym 7⟩,⟨.add,g 0,.sym 7,.sym 7⟩,⟨.add,g 2,.sym 4,.sym 9⟩,⟨.add,g 4,.sym 4,.sym 11⟩,⟨.add,g 2,.sym 7,.sym 13⟩],
 [⟨3,.i64,.sym 4⟩,⟨6,.i64,.sym 7⟩],
 (m (p (m (p (p (l (m (m (m (p (l [z 0 14])) (l [z 0 10])) (m (l [z 0 8]) (l [z 0 12]))) (q (l [z 0 5])))))) (q (p (m (p (l (m (q (l [([.sym 4,g 1],.tup [.sym 5,g 0])])) (m (m (l [([.sym 7,g 1],.tup [.sym 8,g 0])]) (l [([.sym 11,g 1],.tup [.sym 12,g 0])])) (m (l [([.sym 9,g 1],.tup [.sym 10,g 0])]) (l [([.sym 13,g 1],.tup [.sym 14,g 0])])))))) (p (l (l [([d 52],g 1),([d 48],g 0)])))))))) (p (m (p (p (a (m (m (m (p (l [([.sym 14,.sym 8],g 1),([.sym 14,.sym 14],g 0)])) (l [([.sym 10,.sym 5],g 1),([.sym 10,.sym 12],g (-1))])) (m (l [([.sym 8,.sym 8],g 0),([.sym 8,.sym 14],g (-1))]) (l [([.sym 12,.sym 10],g 1)]))) (q (l [([.sym 5,.sym 10],g (-1))]))) (p (l (c (m (m (p (l [([.sym 14,.sym 8],d 50),([.sym 14,.sym 14],d 48)])) (l [([.sym 10,.sym 5],d 50),([.sym 10,.sym 10],d 48),([.sym 10,.sym 12],.str [45,50])])) (m (l [([.sym 8,.sym 8],d 48),([.sym 8,.sym 14],.str [45,50])]) (l [([.sym 12,.sym 10],d 50),([.sym 12,.sym 5],d 52),([.sym 12,.sym 12],d 48)]))) [([d 52,d 48],d 52),([d 48,d 48],d 48),([d 48,.str [45,52]],d 52)] (q (l [([.sym 5,.sym 5],d 48),([.sym 5,.sym 12],.str [45,52]),([.sym 5,.sym 10],.str [45,50])])))))))) (q (p (p (q (l (l [([d 50,d 50],d 52),([d 48,d 50],d 48),([d 50,d 48],d 48),([d 48,d 52],d 48),([d 50,.str [45,50]],.str [45,52]),([.str [45,50],d 48],d 48),([d 48,.str [45,52]],d 48),([.str [45,50],.str [45,50]],d 52),([d 48,.str [45,50]],d 48),([.str [45,50],d 50],.str [45,52])]))))))))),
 ⟨[.agg [.sym 0,.sym 1,.sym 2,.bool false]],[],.agg [.slice 99 0 6 13,.slice 68 0 4 8],[(99,.cells [.sym 5,.sym 8,.sym 10,.sym 8,.sym 12,.sym 8,.sym 5,.sym 14,.sym 10,.sym 14,.sym 12,.sym 14] 158 2 false),(68,.cells [g 0,g 1,g 4,g 0,g 4,g 3,g 1,g 2,g 5,g 1,g 5,g 4] 181 0 false)],36⟩,
 .agg [.slice 64 0 6 13,.slice 65 0 4 8],
 [.cells [.sym 5,.sym 8,.sym 10,.sym 8,.sym 12,.sym 8,.sym 5,.sym 14,.sym 10,.sym 14,.sym 12,.sym 14] 158 2 false,.cells [g 0,g 1,g 4,g 0,g 4,g 3,g 1,g 2,g 5,g 1,g 5,g 4] 181 0 false],
 [t 107 5 8 10 8 10 14 1 6,t 107 5 8 10 14 5 14 1 6,t 107 10 8 12 8 12 14 1 6,t 107 10 8 12 14 10 14 1 6,t 107 5 8 10 8 12 8 0 6,t 107 12 8 12 14 10 14 1 6,t 107 12 14 10 14 5 14 0 6,t 107 10 14 5 14 5 8 1 6,t 107 5 14 5 8 10 8 1 6],
 [(173,⟨[.agg [.slice 32 0 6 13,.slice 33 0 4 8]],[],.tup [.map 67,.bool true],[(67,.map [(w 0 1,g 0),(w 0 4,g 1),(w 1 2,g 2),(w 1 4,g 0),(w 1 5,g 3),(w 2 5,g 2),(w 3 0,g 1),(w 4 0,g 0),(w 4 1,g 3),(w 4 3,g 1),(w 5 1,g 2),(w 5 4,g 3)] none)],37⟩),
 (175,⟨[.agg [.slice 32 0 6 13,.slice 33 0 4 8],.slice 64 0 6 13],[.cells [g 0,g 1,g 2,g 5,g 4,g 3] 3 1 false],.bool true,[(64,.cells [g 0,g 1,g 2,g 5,g 4,g 3] 3 1 false)],88⟩)],
 [(108,⟨[.agg [.slice 32 0 6 13,.slice 33 0 4 8]],[],.bool true,[],158⟩)]⟩
theorem me40_own:me40.own=true:=by kernel_rfl
theorem me40_1:me40.keeps [(174,rmO)] me40.k1=true:=by kernel_rfl
theorem me40_2:me40.keeps (me40.k1++[(174,rmO)]) me40.k2=true:=by kernel_rfl
theorem me40_3:me40.keeps (me40.k2++(me40.k1++[(174,rmO)])) me40.k3=true:=by kernel_rfl
theorem me40_run:memoOk (me40.kit (me40.all [(174,rmO)])).tab 10000 60 52 [renV fz me40.pv] (.int .i64 0)=true:=by kernel_rfl
theorem me40_ok:me40.Ok [(174,rmO)]:=⟨me40_own,fun _ h=>AllK.cons (outer_rm h) AllK.nil,me40_1,me40_2,me40_3,me40_run⟩
noncomputable def me41:MeshT:=⟨4,2,true,[(0,0),(2,0),(4,0),(0,2),(2,2),(4,2)],[0,1,4,0,4,3,1,2,5,1,5,4],4,
 (c (c (c (l (i 4)) (i8 3) (l (.int .i64 [([3],1),([],4)]))) (i8 1) (c (l (.int .i64 [([3],1),([],2)])) (k [(3,1)] 2) (l (.int .i64 [([4],1),([],2)])))) (.int .u8 [([0],1)]) (c (c (l (k [(4,1)] 2)) (i 3) (l (.num ⟨[([3],1),([],4)],2⟩))) (i8 2) (c (l (.num ⟨[([3],1),([],2)],2⟩)) (i8 4) (l (.num ⟨[([4],1),([],2)],2⟩))))),
 [⟨.rem,.sym 0,.int .u8 (8),.int .u8 (4)⟩,⟨.rem,.sym 1,.int .i8 (8),.sym 3⟩,⟨.mul,.sym 4,g 1,.sym 4⟩,⟨.add,g 0,.sym 4,.sym 4⟩,⟨.rem,.sym 2,.int .i8 (8),.sym 6⟩,⟨.mul,.sym 7,g 1,.sym 7⟩,⟨.add,g 0,.sym 7,.sym 7⟩,⟨.add,g 2,.sym 4,.sym 9⟩,⟨.add,g 4,.sym 4,.sym 11⟩,⟨.add,g 2,.sym 7,.sym 13⟩],
 [⟨3,.i64,.sym 4⟩,⟨6,.i64,.sym 7⟩],
 (m (p (m (p (p (l (m (m (m (p (l [z 0 14])) (l [z 0 10])) (m (l [z 0 8]) (l [z 0 12]))) (q (l [z 0 5])))))) (q (p (m (p (l (m (q (l [([.sym 4,g 2],.tup [.sym 5,g 0])])) (m (m (l [([.sym 7,g 2],.tup [.sym 8,g 0])]) (l [([.sym 11,g 2],.tup [.sym 12,g 0])])) (m (l [([.sym 9,g 2],.tup [.sym 10,g 0])]) (l [([.sym 13,g 2],.tup [.sym 14,g 0])])))))) (p (l (l [([d 49],g 1),([d 48],g 0)])))))))) (p (m (p (p (a (m (m (m (p (l [([.sym 14,.sym 8],g 1),([.sym 14,.sym 14],g 0)])) (l [([.sym 10,.sym 5],g 1),([.sym 10,.sym 12],g (-1))])) (m (l [([.sym 8,.sym 8],g 0),([.sym 8,.sym 14],g (-1))]) (l [([.sym 12,.sym 10],g 1)]))) (q (l [([.sym 5,.sym 10],g (-1))]))) (p (l (c (m (m (p (l [([.sym 14,.sym 8],d 49),([.sym 14,.sym 14],d 48)])) (l [([.sym 10,.sym 5],d 49),([.sym 10,.sym 10],d 48),([.sym 10,.sym 12],.str [45,49])])) (m (l [([.sym 8,.sym 8],d 48),([.sym 8,.sym 14],.str [45,49])]) (l [([.sym 12,.sym 10],d 49),([.sym 12,.sym 5],d 50),([.sym 12,.sym 12],d 48)]))) [([d 49,d 48],d 49),([d 48,d 48],d 48),([d 48,.str [45,49]],d 49)] (q (l [([.sym 5,.sym 5],d 48),([.sym 5,.sym 12],.str [45,50]),([.sym 5,.sym 10],.str [45,49])])))))))) (q (p (p (q (l (l [([d 49,d 49],d 49),([d 48,d 49],d 48),([d 49,d 48],d 48),([d 48,d 50],d 48),([d 49,.str [45,49]],.str [45,49]),([.str [45,49],d 48],d 48),([d 48,.str [45,50]],d 48),([.str [45,49],.str [45,49]],d 49),([d 48,.str [45,49]],d 48),([.str [45,49],d 49],.str [45,49])]))))))))),
 ⟨[.agg [.sym 0,.sym 1,.sym 2,.bool true]],[],.agg [.slice 99 0 6 13,.slice 68 0 4 8],[(99,.cells [.sym 5,.sym 8,.sym 10,.sym 8,.sym 12,.sym 8,.sym 5,.sym 14,.sym 10,.sym 14,.sym 12,.sym 14] 158 2 false),(68,.cells [g 0,g 1,g 4,g 0,g 4,g 3,g 1,g 2,g 5,g 1,g 5,g 4] 181 0 false)],36⟩,
 .agg [.slice 64 0 6 13,.slice 65 0 4 8],
 [.cells [.sym 5,.sym 8,.sym 10,.sym 8,.sym 12,.sym 8,.sym 5,.sym 14,.sym 10,.sym 14,.sym 12,.sym 14] 158 2 false,.cells [g 0,g 1,g 4,g 0,g 4,g 3,g 1,g 2,g 5,g 1,g 5,g 4] 181 0 false],
 [t 107 5 8 10 8 10 14 1 6,t 107 5 8 10 14 5 14 1 6,t 107 10 8 12 8 12 14 1 6,t 107 10 8 12 14 10 14 1 6,t 107 5 8 10 8 12 8 0 6,t 107 12 8 12 14 10 14 1 6,t 107 12 14 10 14 5 14 0 6,t 107 10 14 5 14 5 8 1 6,t 107 5 14 5 8 10 8 1 6],
 [(173,⟨[.agg [.slice 32 0 6 13,.slice 33 0 4 8]],[],.tup [.map 67,.bool true],[(67,.map [(w 0 1,g 0),(w 0 4,g 1),(w 1 2,g 2),(w 1 4,g 0),(w 1 5,g 3),(w 2 5,g 2),(w 3 0,g 1),(w 4 0,g 0),(w 4 1,g 3),(w 4 3,g 1),(w 5 1,g 2),(w 5 4,g 3)] none)],37⟩),
 (175,⟨[.agg [.slice 32 0 6 13,.slice 33 0 4 8],.slice 64 0 6 13],[.cells [g 0,g 1,g 2,g 5,g 4,g 3] 3 1 false],.bool true,[(64,.cells [g 0,g 1,g 2,g 5,g 4,g 3] 3 1 false)],88⟩)],
 [(108,⟨[.agg [.slice 32 0 6 13,.slice 33 0 4 8]],[],.bool true,[],158⟩)]⟩
theorem me41_own:me41.own=true:=by kernel_rfl
theorem me41_1:me41.keeps [(174,rmO)] me41.k1=true:=by kernel_rfl
theorem me41_2:me41.keeps (me41.k1++[(174,rmO)]) me41.k2=true:=by kernel_rfl
theorem me41_3:me41.keeps (me41.k2++(me41.k1++[(174,rmO)])) me41.k3=true:=by kernel_rfl
theorem me41_run:memoOk (me41.kit (me41.all [(174,rmO)])).tab 10000 60 52 [renV fz me41.pv] (.int .i64 0)=true:=by kernel_rfl
theorem me41_ok:me41.Ok [(174,rmO)]:=⟨me41_own,fun _ h=>AllK.cons (outer_rm h) AllK.nil,me41_1,me41_2,me41_3,me41_run⟩
end Go.Proofs.YtkjinnjopoehhaaGreatDoor
