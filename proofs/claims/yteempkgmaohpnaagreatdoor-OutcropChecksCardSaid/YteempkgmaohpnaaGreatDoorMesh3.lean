/-
  Meshes of a kind, made and checked on symbols.
-/
import Derived.Test.YteempkgmaohpnaaGreatDoorMeshY
set_option linter.unusedSectionVars false
set_option linter.unusedVariables false
set_option linter.unusedSimpArgs false
namespace Go.Proofs.YteempkgmaohpnaaGreatDoor
open Go Ev Klp Ab
set_option maxRecDepth 100000
noncomputable def me30 : MeshT := ⟨3,1,false,[(0,0),(6,0),(0,4)],[2,0,1],1,
 (c (c (c (l (i 4)) (i8 3) (l (.int .i64 [([4],1),([],4)]))) (i8 1) (b (l (.int .i64 [([3],1),([],6)])) (n 3))) (.int .u8 [([0],1)]) (c (c (l (n 4)) (i 3) (l (.num ⟨[([4],1),([],4)],1⟩))) (i8 2) (b (l (.num ⟨[([3],1),([],6)],1⟩)) (i8 4)))),
 [⟨.rem,.sym 0,.int .u8 (8),.int .u8 (3)⟩,⟨.rem,.sym 1,.int .i8 (8),.sym 3⟩,⟨.mul,.sym 4,g 1,.sym 4⟩,⟨.add,g 0,.sym 4,.sym 4⟩,⟨.rem,.sym 2,.int .i8 (8),.sym 6⟩,⟨.mul,.sym 7,g 1,.sym 7⟩,⟨.add,g 0,.sym 7,.sym 7⟩,⟨.add,g 6,.sym 4,.sym 9⟩,⟨.add,g 4,.sym 7,.sym 11⟩],
 [⟨3,.i64,.sym 4⟩,⟨6,.i64,.sym 7⟩],
 (m (m (q (m (q (l (c (m (q (l [([.sym 10,.sym 5],d 54)])) (m (l [([.sym 8,.sym 12],.str [45,52]),([.sym 8,.sym 8],d 48)]) (l [([.sym 12,.sym 8],d 52)]))) [([d 48,.str [45,50,52]],.str [50,52]),([.str [50,52],d 48],.str [50,52])] (q (l [([.sym 5,.sym 5],d 48),([.sym 5,.sym 10],.str [45,54])]))))) (p (p (l (l [([d 48,.str [45,52]],d 48),([.str [45,52],d 54],.str [45,50,52]),([d 54,d 52],.str [50,52]),([d 48,d 48],d 48),([.str [45,54],d 48],d 48),([d 52,.str [45,54]],.str [45,50,52])])))))) (m (p (p (p (p (l (p (m (q (l [([.sym 10,.sym 5],g 1)])) (m (l [([.sym 8,.sym 8],g 0),([.sym 8,.sym 12],g (-1))]) (l [([.sym 12,.sym 8],g 1)]))))))))) (p (p (m (l (m (m (q (l [z 0 10])) (m (l [z 0 8]) (l [z 0 12]))) (q (l [z 0 5])))) (p (l (m (q (l [([.sym 4,g 1],.tup [.sym 5,g 0])])) (m (m (l [([.sym 7,g 1],.tup [.sym 8,g 0])]) (l [([.sym 11,g 1],.tup [.sym 12,g 0])])) (p (l [([.sym 9,g 1],.tup [.sym 10,g 0])]))))))))))) (q (q (p (p (q (l (l [([.str [50,52]],g 1)])))))))),
 ⟨[.agg [.sym 0,.sym 1,.sym 2,.bool false]],[],.agg [.slice 84 0 3 7,.slice 68 0 1 2],[(84,.cells [.sym 5,.sym 8,.sym 10,.sym 8,.sym 5,.sym 12] 60 2 false),(68,.cells [g 2,g 0,g 1] 154 0 false)],21⟩,
 .agg [.slice 64 0 3 7,.slice 65 0 1 2],
 [.cells [.sym 5,.sym 8,.sym 10,.sym 8,.sym 5,.sym 12] 60 2 false,.cells [g 2,g 0,g 1] 154 0 false],
 [t 61 5 12 5 8 10 8 1 6,t 61 5 8 10 8 5 12 1 6,t 61 10 8 5 12 5 8 1 6],
 [(104,⟨[.agg [.slice 32 0 3 7,.slice 33 0 1 2]],[],.tup [.map 67,.bool true],[(67,.map [(w 0 1,g 0),(w 1 2,g 0),(w 2 0,g 0)] none)],13⟩),
 (105,⟨[.agg [.slice 32 0 3 7,.slice 33 0 1 2],.map 64],[.map [(w 0 1,g 0),(w 1 2,g 0),(w 2 0,g 0)] none],.tup [.slice 76 0 3 7,.bool true],[(76,.cells [g 0,g 1,g 2] 3 1 false)],12⟩),
 (106,⟨[.agg [.slice 32 0 3 7,.slice 33 0 1 2],.slice 64 0 3 7],[.cells [g 0,g 1,g 2] 3 1 false],.bool true,[(64,.cells [g 0,g 1,g 2] 3 1 false)],43⟩)],
 [(62,⟨[.agg [.slice 32 0 3 7,.slice 33 0 1 2]],[],.bool true,[],71⟩)]⟩
theorem me30_own : me30.own = true := by kernel_rfl
theorem me30_1 : me30.keeps [] me30.k1 = true := by kernel_rfl
theorem me30_2 : me30.keeps (me30.k1 ++ []) me30.k2 = true := by kernel_rfl
theorem me30_3 : me30.keeps (me30.k2 ++ (me30.k1 ++ [])) me30.k3 = true := by kernel_rfl
theorem me30_run : memoOk (me30.kit (me30.all [])).tab 10000 60 29 [renV fz me30.pv] (.int .i64 0) = true := by kernel_rfl
theorem me30_ok : me30.Ok [] := ⟨me30_own,fun _ _ => AllK.nil,me30_1,me30_2,me30_3,me30_run⟩
noncomputable def me31 : MeshT := ⟨3,2,true,[(0,0),(6,0),(0,4)],[2,0,1],1,
 (c (c (c (l (i 4)) (i8 3) (l (.int .i64 [([4],1),([],4)]))) (i8 1) (b (l (.int .i64 [([3],1),([],6)])) (k [(3,1)] 2))) (.int .u8 [([0],1)]) (c (c (l (k [(4,1)] 2)) (i 3) (l (.num ⟨[([4],1),([],4)],2⟩))) (i8 2) (b (l (.num ⟨[([3],1),([],6)],2⟩)) (i8 4)))),
 [⟨.rem,.sym 0,.int .u8 (8),.int .u8 (3)⟩,⟨.rem,.sym 1,.int .i8 (8),.sym 3⟩,⟨.mul,.sym 4,g 1,.sym 4⟩,⟨.add,g 0,.sym 4,.sym 4⟩,⟨.rem,.sym 2,.int .i8 (8),.sym 6⟩,⟨.mul,.sym 7,g 1,.sym 7⟩,⟨.add,g 0,.sym 7,.sym 7⟩,⟨.add,g 6,.sym 4,.sym 9⟩,⟨.add,g 4,.sym 7,.sym 11⟩],
 [⟨3,.i64,.sym 4⟩,⟨6,.i64,.sym 7⟩],
 (m (m (q (m (q (l (c (m (q (l [([.sym 10,.sym 5],d 51)])) (m (l [([.sym 8,.sym 12],.str [45,50]),([.sym 8,.sym 8],d 48)]) (l [([.sym 12,.sym 8],d 50)]))) [([d 48,.str [45,54]],d 54),([d 54,d 48],d 54)] (q (l [([.sym 5,.sym 5],d 48),([.sym 5,.sym 10],.str [45,51])]))))) (p (p (l (l [([d 48,.str [45,50]],d 48),([.str [45,50],d 51],.str [45,54]),([d 51,d 50],d 54),([d 48,d 48],d 48),([.str [45,51],d 48],d 48),([d 50,.str [45,51]],.str [45,54])])))))) (m (p (p (p (p (l (p (m (q (l [([.sym 10,.sym 5],g 1)])) (m (l [([.sym 8,.sym 8],g 0),([.sym 8,.sym 12],g (-1))]) (l [([.sym 12,.sym 8],g 1)]))))))))) (p (p (m (l (m (m (q (l [z 0 10])) (m (l [z 0 8]) (l [z 0 12]))) (q (l [z 0 5])))) (p (l (m (q (l [([.sym 4,g 2],.tup [.sym 5,g 0])])) (m (m (l [([.sym 7,g 2],.tup [.sym 8,g 0])]) (l [([.sym 11,g 2],.tup [.sym 12,g 0])])) (p (l [([.sym 9,g 2],.tup [.sym 10,g 0])]))))))))))) (q (q (p (p (q (l (l [([d 54],g 1)])))))))),
 ⟨[.agg [.sym 0,.sym 1,.sym 2,.bool true]],[],.agg [.slice 84 0 3 7,.slice 68 0 1 2],[(84,.cells [.sym 5,.sym 8,.sym 10,.sym 8,.sym 5,.sym 12] 60 2 false),(68,.cells [g 2,g 0,g 1] 154 0 false)],21⟩,
 .agg [.slice 64 0 3 7,.slice 65 0 1 2],
 [.cells [.sym 5,.sym 8,.sym 10,.sym 8,.sym 5,.sym 12] 60 2 false,.cells [g 2,g 0,g 1] 154 0 false],
 [t 61 5 12 5 8 10 8 1 6,t 61 5 8 10 8 5 12 1 6,t 61 10 8 5 12 5 8 1 6],
 [(104,⟨[.agg [.slice 32 0 3 7,.slice 33 0 1 2]],[],.tup [.map 67,.bool true],[(67,.map [(w 0 1,g 0),(w 1 2,g 0),(w 2 0,g 0)] none)],13⟩),
 (105,⟨[.agg [.slice 32 0 3 7,.slice 33 0 1 2],.map 64],[.map [(w 0 1,g 0),(w 1 2,g 0),(w 2 0,g 0)] none],.tup [.slice 76 0 3 7,.bool true],[(76,.cells [g 0,g 1,g 2] 3 1 false)],12⟩),
 (106,⟨[.agg [.slice 32 0 3 7,.slice 33 0 1 2],.slice 64 0 3 7],[.cells [g 0,g 1,g 2] 3 1 false],.bool true,[(64,.cells [g 0,g 1,g 2] 3 1 false)],43⟩)],
 [(62,⟨[.agg [.slice 32 0 3 7,.slice 33 0 1 2]],[],.bool true,[],71⟩)]⟩
theorem me31_own : me31.own = true := by kernel_rfl
theorem me31_1 : me31.keeps [] me31.k1 = true := by kernel_rfl
theorem me31_2 : me31.keeps (me31.k1 ++ []) me31.k2 = true := by kernel_rfl
theorem me31_3 : me31.keeps (me31.k2 ++ (me31.k1 ++ [])) me31.k3 = true := by kernel_rfl
theorem me31_run : memoOk (me31.kit (me31.all [])).tab 10000 60 29 [renV fz me31.pv] (.int .i64 0) = true := by kernel_rfl
theorem me31_ok : me31.Ok [] := ⟨me31_own,fun _ _ => AllK.nil,me31_1,me31_2,me31_3,me31_run⟩
end Go.Proofs.YteempkgmaohpnaaGreatDoor
