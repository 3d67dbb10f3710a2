/-
  The closed call of the seat: its value, by the evaluator (made by a program).
-/
import Derived.Test.YtdkafeammgaknaaGreatDoorEvTab
import Derived.Test.YtdkafeammgaknaaGreatDoorSymX
set_option linter.unusedSectionVars false
set_option linter.unusedVariables false
set_option linter.unusedSimpArgs false
namespace Go.Proofs.YtdkafeammgaknaaGreatDoor
open Go Ev Ab
set_option maxRecDepth 100000
def P43_1 : List (List V × V) := [([d 48,d 48],d 48),([d 48,d 49],d 49),([d 48,d 52],d 52),([d 48,d 56],d 56),([d 49,d 48],d 49),([d 51,d 48],d 51),([d 52,d 48],d 52),([d 53,d 48],d 53)]
def P45_1 : List (List V × V) := [([d 48],g 0),([d 53],g 0),([d 56],g 0)]
def P64_1 : List (List V × V) := [([.agg [g 4,d 100,.nils,.nils,.nils,.str [],.str [],.str [],.str [],.str [],.str [],.str [],.str [],.str [],.str [],.nils,.str [],.str [],.str [],d 49,d 48,d 48,d 49,d 49,.str [100,105,107,101],g 0,g 0,g 0,g 0,.str [],.str [],.str []]],.agg [.fn 207 [] [],.fn 208 [] [],.fn 209 [] [],.fn 210 [] [],.fn 211 [] []])]
def P73_1 : List (List V × V) := [([.str [45,49]],g (-1)),([.str [45,50]],g (-1)),([.str [45,51]],g (-1)),([.str [49,50]],g 1),([.str [49,54]],g 1),([d 49],g 1),([d 50],g 1),([d 51],g 1),([d 52],g 1),([d 56],g 1)]
def P75_1 : List (List V × V) := [([d 48,d 48],g 0),([d 49,d 49],g 0),([d 50,d 50],g 0)]
def P89_1 : List (List V × V) := [([.str [45,49,47,51]],.tup [g (-1),g 3,.bool true]),([.str [45,49,47,52]],.tup [g (-1),g 4,.bool true]),([.str [45,49]],.tup [g (-1),g 1,.bool true]),([.str [45,50]],.tup [g (-2),g 1,.bool true]),([.str [45,51]],.tup [g (-3),g 1,.bool true]),([.str [45,52]],.tup [g (-4),g 1,.bool true]),([d 48],.tup [g 0,g 1,.bool true]),([.str [49,47,51]],.tup [g 1,g 3,.bool true]),([.str [49,47,52]],.tup [g 1,g 4,.bool true]),([d 49],.tup [g 1,g 1,.bool true]),([d 50],.tup [g 2,g 1,.bool true]),([d 51],.tup [g 3,g 1,.bool true]),([d 52],.tup [g 4,g 1,.bool true]),([d 56],.tup [g 8,g 1,.bool true])]
def P90_1 : List (List V × V) := [([g 12,g 1],.str [49,50]),([g 16,g 1],.str [49,54]),([g 8,g 1],d 56)]
def P91_1 : List (List V × V) := [([.str [45,51]],.tup [.str [45,51],d 49]),([.str [45,52]],.tup [.str [45,52],d 49])]
def P97_1 : List (List V × V) := [([d 49,d 47],.tup [d 49,.str [],.bool false]),([d 50,d 47],.tup [d 50,.str [],.bool false]),([d 51,d 47],.tup [d 51,.str [],.bool false]),([d 52,d 47],.tup [d 52,.str [],.bool false])]
def P101_1 : List (List V × V) := [([.str [45,52],d 49],.str [45,52]),([d 48,.str [45,49]],d 48),([d 48,.str [45,52]],d 48),([d 48,d 48],d 48),([d 48,d 49],d 48),([d 48,d 51],d 48),([d 48,d 52],d 48),([d 49,d 48],d 48),([d 49,d 49],d 49),([d 49,d 52],d 52),([d 51,d 48],d 48),([d 51,d 49],d 51),([d 52,d 48],d 48),([d 53,d 48],d 48)]
def P103_1 : List (List V × V) := [([d 48,.str [45,49,50]],.str [49,50]),([d 48,.str [45,49,54]],.str [49,54])]
def P105_1 : List (List V × V) := [([.str [45,51]],d 51),([.str [45,52]],d 52)]
def P106_1 : List (List V × V) := [([.str [45,49],d 51],.str [45,49,47,51]),([.str [45,49],d 52],.str [45,49,47,52]),([d 49,d 49],d 49),([d 49,d 51],.str [49,47,51]),([d 49,d 52],.str [49,47,52])]
def P117_1 : List (List V × V) := [([.agg [d 49,d 48,d 48]],.bool false)]
def P118_1 : List (List V × V) := [([g 0],d 48),([g 2],d 50),([g 3],d 51),([g 4],d 52),([g 5],d 53)]
def P142_1 : List (List V × V) := [([.nils],.nils)]
def P147_1 : List (List V × V) := [([.agg [d 49,d 48,d 48]],.agg [d 49,d 48,d 48])]
def P168_1 : List (List V × V) := [([.int .u64 (2)],g 2)]
def P174_1 : List (List V × V) := [([.str [45,49]],d 49),([d 48],d 48),([d 49],.str [45,49]),([d 50],.str [45,50]),([d 51],.str [45,51]),([d 52],.str [45,52])]
def P209_1 : List (List V × V) := [([.agg [g 4,d 100,.nils,.nils,.nils,.str [],.str [],.str [],.str [],.str [],.str [],.str [],.str [],.str [],.str [],.nils,.str [],.str [],.str [],d 49,d 48,d 48,d 49,d 49,.str [100,105,107,101],g 0,g 0,g 0,g 0,.str [],.str [],.str []]],g 2)]
def P236_1 : List (List V × V) := [([.agg [d 48,d 48,d 48]],.agg [d 48,d 48,d 48]),([.agg [d 49,d 48,d 48]],.agg [d 49,d 48,d 48])]
def P240_1 : List (List V × V) := [([d 49],.tup [g 1,.nili])]
def P296_1 : List (List V × V) := [([.agg [d 49,d 48,d 48,d 48,d 49,d 48,d 48,d 48,d 49],g 0],.agg [d 49,d 48,d 48]),([.agg [d 49,d 48,d 48,d 48,d 49,d 48,d 48,d 48,d 49],g 1],.agg [d 48,d 49,d 48]),([.agg [d 49,d 48,d 48,d 48,d 49,d 48,d 48,d 48,d 49],g 2],.agg [d 48,d 48,d 49])]
def P301_1 : List (List V × V) := [([d 49,d 45],.bool false),([d 50,d 45],.bool false)]
def P327_1 : List (List V × V) := [([g 1],d 49)]
def P338_1 : List (List V × V) := [([.agg [d 49,d 48,d 48]],.bool false)]
def P364_1 : List (List V × V) := [([g 2],g 0),([g 4],g 1)]
def P365_1 : List (List V × V) := [([.bool true],g 1)]
def kL1 : Memo := [(43,P43_1),(45,P45_1),(64,P64_1),(73,P73_1),(75,P75_1),(89,P89_1),(90,P90_1),(91,P91_1),(97,P97_1),(101,P101_1),(103,P103_1),(105,P105_1),(106,P106_1),(117,P117_1),(118,P118_1),(142,P142_1),(147,P147_1),(168,P168_1),(174,P174_1),(209,P209_1),(236,P236_1),(240,P240_1),(296,P296_1),(301,P301_1),(327,P327_1),(338,P338_1),(364,P364_1),(365,P365_1)]
def kT1 : T (List (List V × V)) := (m (m (m (q (p (m (q (p (l P327_1))) (l P103_1)))) (m (q (p (p (l P147_1)))) (m (b (l P75_1) P43_1) (p (l P91_1))))) (m (m (m (q (l P97_1)) (p (q (l P209_1)))) (m (m (l P73_1) (l P105_1)) (p (l P89_1)))) (m (m (q (l P101_1)) (q (l P117_1))) (p (a P45_1 (m (p (l P301_1)) (p (l P365_1)))))))) (m (m (m (m (p (l P64_1)) (q (q (l P240_1)))) (p (q (p (b (l P296_1) P168_1))))) (q (p (q (q (b (l P364_1) P236_1)))))) (m (m (q (p (q (p (l P338_1))))) (m (q (l P106_1)) (p (l P90_1)))) (m (q (q (l P118_1))) (p (m (p (l P142_1)) (p (l P174_1))))))))
theorem kT1_eq : kT1 = mkMemo kL1 := by kernel_rfl
def N30_1 : List RM := [⟨[.agg [g 4,d 100,.nils,.nils,.nils,.str [],.str [],.str [],.str [],.str [],.str [],.str [],.str [],.str [],.str [],.nils,.str [],.str [],.str [],d 49,d 48,d 48,d 49,d 49,.str [100,105,107,101],g 0,g 0,g 0,g 0,.str [],.str [],.str []]],[],s 65 0 1 2,[(65,C [.str [100,105,107,101]] 9 0)],2⟩]
def N188_1 : List RM := [⟨[g 0,.ptr 64 0,.ptr 67 0,.ptr 69 0],[C [s 65 0 4 9,s 66 0 2 4] 42 0,C [d 48,d 48,d 52,d 48,d 52,d 52,d 48,d 52] 57 2,C [g 0,g 1,g 2,g 0,g 2,g 3] 162 0,C [s 68 0 4 9] 133 0,C [g 0,g 1,g 2,g 3] 3 1,C [g 4] 3 0],.agg [d 48,d 48],[(64,C [s 65 0 4 9,s 66 0 2 4] 42 0),(65,C [d 48,d 48,d 52,d 48,d 52,d 52,d 48,d 52] 57 2),(66,C [g 0,g 1,g 2,g 0,g 2,g 3] 162 0),(67,C [s 68 0 4 9] 133 0),(68,C [g 0,g 1,g 2,g 3] 3 1),(69,C [g 4] 3 0)],1⟩,⟨[g 1,.ptr 64 0,.ptr 67 0,.ptr 69 0],[C [s 65 0 4 9,s 66 0 2 4] 42 0,C [d 48,d 48,d 52,d 48,d 52,d 52,d 48,d 52] 57 2,C [g 0,g 1,g 2,g 0,g 2,g 3] 162 0,C [s 68 0 4 9] 133 0,C [g 0,g 1,g 2,g 3] 3 1,C [g 4] 3 0],.agg [d 52,d 48],[(64,C [s 65 0 4 9,s 66 0 2 4] 42 0),(65,C [d 48,d 48,d 52,d 48,d 52,d 52,d 48,d 52] 57 2),(66,C [g 0,g 1,g 2,g 0,g 2,g 3] 162 0),(67,C [s 68 0 4 9] 133 0),(68,C [g 0,g 1,g 2,g 3] 3 1),(69,C [g 4] 3 0)],1⟩,⟨[g 2,.ptr 64 0,.ptr 67 0,.ptr 69 0],[C [s 65 0 4 9,s 66 0 2 4] 42 0,C [d 48,d 48,d 52,d 48,d 52,d 52,d 48,d 52] 57 2,C [g 0,g 1,g 2,g 0,g 2,g 3] 162 0,C [s 68 0 4 9] 133 0,C [g 0,g 1,g 2,g 3] 3 1,C [g 4] 3 0],.agg [d 52,d 52],[(64,C [s 65 0 4 9,s 66 0 2 4] 42 0),(65,C [d 48,d 48,d 52,d 48,d 52,d 52,d 48,d 52] 57 2),(66,C [g 0,g 1,g 2,g 0,g 2,g 3] 162 0),(67,C [s 68 0 4 9] 133 0),(68,C [g 0,g 1,g 2,g 3] 3 1),(69,C [g 4] 3 0)],1⟩,⟨[g 3,.ptr 64 0,.ptr 67 0,.ptr 69 0],[C [s 65 0 4 9,s 66 0 2 4] 42 0,C [d 48,d 48,d 52,d 48,d 52,d 52,d 48,d 52] 57 2,C [g 0,g 1,g 2,g 0,g 2,g 3] 162 0,C [s 68 0 4 9] 133 0,C [g 0,g 1,g 2,g 3] 3 1,C [g 4] 3 0],.agg [d 48,d 52],[(64,C [s 65 0 4 9,s 66 0 2 4] 42 0),(65,C [d 48,d 48,d 52,d 48,d 52,d 52,d 48,d 52] 57 2),(66,C [g 0,g 1,g 2,g 0,g 2,g 3] 162 0),(67,C [s 68 0 4 9] 133 0),(68,C [g 0,g 1,g 2,g 3] 3 1),(69,C [g 4] 3 0)],1⟩,⟨[g 4,.ptr 64 0,.ptr 67 0,.ptr 69 0],[C [s 65 0 4 9,s 66 0 2 4] 42 0,C [d 48,d 48,d 52,d 48,d 52,d 52,d 48,d 52] 57 2,C [g 0,g 1,g 2,g 0,g 2,g 3] 162 0,C [s 68 0 4 9] 133 0,C [g 0,g 1,g 2,g 3] 3 1,C [g 4] 3 0],.agg [d 48,d 48],[(64,C [s 65 0 4 9,s 66 0 2 4] 42 0),(65,C [d 48,d 48,d 52,d 48,d 52,d 52,d 48,d 52] 57 2),(66,C [g 0,g 1,g 2,g 0,g 2,g 3] 162 0),(67,C [s 68 0 4 9] 133 0),(68,C [g 0,g 1,g 2,g 3] 3 1),(69,C [g 4] 3 0)],1⟩,⟨[g 5,.ptr 64 0,.ptr 67 0,.ptr 69 0],[C [s 65 0 4 9,s 66 0 2 4] 42 0,C [d 48,d 48,d 52,d 48,d 52,d 52,d 48,d 52] 57 2,C [g 0,g 1,g 2,g 0,g 2,g 3] 162 0,C [s 68 0 4 9] 133 0,C [g 0,g 1,g 2,g 3] 3 1,C [g 4] 3 0],.agg [d 52,d 48],[(64,C [s 65 0 4 9,s 66 0 2 4] 42 0),(65,C [d 48,d 48,d 52,d 48,d 52,d 52,d 48,d 52] 57 2),(66,C [g 0,g 1,g 2,g 0,g 2,g 3] 162 0),(67,C [s 68 0 4 9] 133 0),(68,C [g 0,g 1,g 2,g 3] 3 1),(69,C [g 4] 3 0)],1⟩]
def N242_1 : List RM := [⟨[s 64 0 1 2],[C [.int .u64 (0)] 302 0],s 64 0 0 2,[(64,C [.int .u64 (0)] 302 0)],0⟩,⟨[s 64 0 1 2],[C [.int .u64 (1)] 302 0],s 64 0 1 2,[(64,C [.int .u64 (1)] 302 0)],0⟩,⟨[s 64 0 1 2],[C [.int .u64 (2)] 302 0],s 64 0 1 2,[(64,C [.int .u64 (2)] 302 0)],0⟩,⟨[s 64 0 2 4],[C [.int .u64 (3),.int .u64 (0)] 302 0],s 64 0 1 4,[(64,C [.int .u64 (3),.int .u64 (0)] 302 0)],0⟩,⟨[s 64 0 2 4],[C [.int .u64 (500000000),.int .u64 (0)] 302 0],s 64 0 1 4,[(64,C [.int .u64 (500000000),.int .u64 (0)] 302 0)],0⟩]
def N340_1 : List RM := [⟨[s 64 0 4 8],[C [d 48,d 48,d 52,d 48,d 52,d 52,d 48,d 52] 57 0],.fn 370 [] [.ptr 65 0],[(65,C [s 64 0 4 8] 39 0),(64,C [d 48,d 48,d 52,d 48,d 52,d 52,d 48,d 52] 57 0)],1⟩,⟨[s 64 0 4 9],[C [d 49,d 48,d 52,d 48,d 52,d 52,d 49,d 52] 57 2],.fn 370 [] [.ptr 65 0],[(65,C [s 64 0 4 9] 39 0),(64,C [d 49,d 48,d 52,d 48,d 52,d 52,d 49,d 52] 57 2)],1⟩]
def N371_1 : List RM := [⟨[.nils,g 4],[],s 64 0 0 9,[(64,C [.str [],.str [],.str [],.str [],.str [],.str [],.str [],.str []] 57 2)],1⟩]
def kM1 : Kept := [(30,N30_1),(188,N188_1),(242,N242_1),(340,N340_1),(371,N371_1)]
def kU1 : T (List RM) := (m (p (q (p (q (q (q (p (l N371_1)))))))) (m (q (m (q (p (q (p (l N340_1))))) (q (q (p (l N188_1)))))) (m (p (q (q (q (l N242_1))))) (q (l N30_1)))))
theorem kU1_eq : kU1 = mkKept kM1 := by kernel_rfl
theorem kP1 : chk tb0 10000 60 kL1 = true := by kernel_rfl
theorem kN1 : chkRs tb0 10000 60 kM1 = true := by kernel_rfl
noncomputable def kb1 : Tab := tb0.over kT1 kU1
theorem kO1 : TabOk kb1 Tryz.prog := TabOk.over tabOk kT1 kU1
theorem kF1 {w0 : Base} (hF : FnOk tb0 Tryz.prog w0) : FnOk kb1 Tryz.prog w0 := FnOk.over tabOk hF kT1_eq kP1 kU1_eq kN1
def P26_2 : List (List V × V) := [([g 3],d 51),([g 5],d 53)]
def P32_2 : List (List V × V) := [([.agg [d 48,d 48,d 48]],g 0)]
def P34_2 : List (List V × V) := [([.agg [d 48,d 48]],g 0)]
def P36_2 : List (List V × V) := [([.agg [d 49,d 48],.agg [d 49,d 48]],g 0)]
def P43_2 : List (List V × V) := [([d 52,d 52],d 56)]
def P45_2 : List (List V × V) := [([d 49],g 0),([d 51],g 0),([d 52],g 0)]
def P59_2 : List (List V × V) := [([g 0],d 48),([g 4],d 52)]
def P75_2 : List (List V × V) := [([d 48,d 52],g (-1)),([d 49,d 48],g 1),([d 50,d 49],g 1),([d 52,d 48],g 1),([d 52,d 49],g 1),([d 52,d 50],g 1)]
def P87_2 : List (List V × V) := [([d 56],.tup [d 56,g 0])]
def P90_2 : List (List V × V) := [([g (-12),g 1],.str [45,49,50]),([g (-16),g 1],.str [45,49,54]),([g (-4),g 1],.str [45,52]),([g (-8),g 1],.str [45,56]),([g 0,g 1],d 48),([g 2,g 1],d 50),([g 2,g 3],.str [50,47,51]),([g 3,g 1],d 51),([g 3,g 4],.str [51,47,52]),([g 4,g 1],d 52)]
def P91_2 : List (List V × V) := [([d 49],.tup [d 49,d 49]),([d 51],.tup [d 51,d 49]),([d 52],.tup [d 52,d 49])]
def P101_2 : List (List V × V) := [([.str [45,50],.str [45,52]],d 56),([.str [45,51],.str [45,52]],.str [49,50]),([.str [45,52],.str [45,52]],.str [49,54]),([d 50,d 52],d 56),([d 51,d 52],.str [49,50]),([d 52,d 52],.str [49,54])]
def P103_2 : List (List V × V) := [([d 48,.str [45,52]],d 52),([d 48,.str [45,56]],d 56),([d 48,d 48],d 48),([d 48,d 49],.str [45,49]),([d 48,d 52],.str [45,52]),([.str [49,50],d 48],.str [49,50]),([.str [49,54],d 48],.str [49,54]),([d 49,d 48],d 49),([d 49,d 50],.str [45,49]),([d 50,d 48],d 50),([d 52,d 48],d 52),([d 56,d 48],d 56)]
def P118_2 : List (List V × V) := [([g (-2)],.str [45,50]),([g (-3)],.str [45,51]),([g 1],d 49)]
def P149_2 : List (List V × V) := [([d 49],g 1)]
def P151_2 : List (List V × V) := [([d 49,g 18],.tup [g 1,.bool true]),([d 49,g 9],.tup [g 1,.bool true])]
def P170_2 : List (List V × V) := [([d 50,d 45],.tup [d 50,.bool false])]
def P233_2 : List (List V × V) := [([.agg [d 49,d 48,d 48,d 48,d 49,d 48,d 48,d 48,d 49,d 48,d 48,d 48]],.agg [d 49,d 48,d 48,d 48,d 49,d 48,d 48,d 48,d 49])]
def P337_2 : List (List V × V) := [([.agg [d 49,d 48,d 48,d 48,d 49,d 48,d 48,d 48,d 49]],.agg [d 49,d 48,d 48,d 48,d 49,d 48,d 48,d 48,d 49])]
def kL2 : Memo := [(26,P26_2),(32,P32_2),(34,P34_2),(36,P36_2),(43,P43_2),(45,P45_2),(59,P59_2),(75,P75_2),(87,P87_2),(90,P90_2),(91,P91_2),(101,P101_2),(103,P103_2),(118,P118_2),(149,P149_2),(151,P151_2),(170,P170_2),(233,P233_2),(337,P337_2)]
def kT2 : T (List (List V × V)) := (m (m (m (q (m (q (l P103_2)) (p (b (l P151_2) P87_2)))) (q (m (b (l P75_2) P43_2) (b (l P91_2) P59_2)))) (m (m (q (p (q (p (l P337_2))))) (p (q (q (l P233_2))))) (m (m (q (l P101_2)) (p (p (l P149_2)))) (p (l P45_2))))) (m (m (p (p (l P32_2))) (p (p (l P36_2)))) (m (m (p (l P34_2)) (c (q (p (l P170_2))) P26_2 (p (l P90_2)))) (p (q (q (l P118_2)))))))
theorem kT2_eq : kT2 = mkMemo kL2 := by kernel_rfl
def N104_2 : List RM := [⟨[s 64 0 3 6],[C [d 48,d 48,d 48] 46 0],d 48,[(64,C [d 48,d 48,d 48] 46 0)],0⟩,⟨[s 64 0 3 6],[C [d 48,d 49,d 48] 46 0],d 49,[(64,C [d 48,d 49,d 48] 46 0)],0⟩,⟨[s 64 0 3 6],[C [d 49,d 48,d 48] 46 0],d 49,[(64,C [d 49,d 48,d 48] 46 0)],0⟩]
def N173_2 : List RM := [⟨[s 64 0 1 4,s 65 0 1 2],[C [.int .u64 (3),.int .u64 (0)] 302 0,C [.int .u64 (2)] 302 0],.tup [s 68 0 1 2,s 73 0 1 2],[(68,C [.int .u64 (1)] 302 0),(73,C [.int .u64 (1)] 302 0),(64,C [.int .u64 (3),.int .u64 (0)] 302 0),(65,C [.int .u64 (2)] 302 0)],8⟩]
def kM2 : Kept := [(104,N104_2),(173,N173_2)]
def kU2 : T (List RM) := (m (q (q (q (p (q (p (l N173_2))))))) (p (p (q (p (q (l N104_2)))))))
theorem kU2_eq : kU2 = mkKept kM2 := by kernel_rfl
theorem kP2 : chk kb1 10000 60 kL2 = true := by kernel_rfl
theorem kN2 : chkRs kb1 10000 60 kM2 = true := by kernel_rfl
noncomputable def kb2 : Tab := kb1.over kT2 kU2
theorem kO2 : TabOk kb2 Tryz.prog := TabOk.over kO1 kT2 kU2
theorem kF2 {w0 : Base} (hF : FnOk tb0 Tryz.prog w0) : FnOk kb2 Tryz.prog w0 := FnOk.over kO1 (kF1 hF) kT2_eq kP2 kU2_eq kN2
def P26_3 : List (List V × V) := [([g 0],d 48),([g 4],d 52)]
def P32_3 : List (List V × V) := [([.agg [d 48,d 48,d 49]],g 0),([.agg [d 49,d 48,d 48]],g 0)]
def P34_3 : List (List V × V) := [([.agg [d 48,d 52]],g 0),([.agg [d 49,d 48]],g 0),([.agg [d 49,d 52]],g 0),([.agg [d 52,d 48]],g 0),([.agg [d 52,d 52]],g 0)]
def P36_3 : List (List V × V) := [([.agg [d 48,d 52],.agg [d 48,d 48]],g 1),([.agg [d 49,d 48],.agg [d 48,d 48]],g 1),([.agg [d 49,d 52],.agg [d 48,d 48]],g 1),([.agg [d 49,d 52],.agg [d 49,d 48]],g 1),([.agg [d 50,d 48],.agg [d 49,d 48]],g 1),([.agg [d 50,d 52],.agg [d 49,d 48]],g 1),([.agg [d 50,d 52],.agg [d 50,d 48]],g 1),([.agg [d 52,d 48],.agg [d 49,d 48]],g 1),([.agg [d 52,d 48],.agg [d 50,d 48]],g 1),([.agg [d 52,d 52],.agg [d 49,d 48]],g 1),([.agg [d 52,d 52],.agg [d 50,d 48]],g 1)]
def P43_3 : List (List V × V) := [([d 49,d 49],d 50),([d 52,.str [45,50]],d 50)]
def P50_3 : List (List V × V) := [([.agg [d 49,d 48,d 48],.agg [d 48,d 48,d 48]],d 48),([.agg [d 49,d 48,d 48],.agg [d 48,d 48,d 49]],d 48),([.agg [d 49,d 48,d 48],.agg [d 49,d 48,d 48]],d 49)]
def P59_3 : List (List V × V) := [([g 1],d 49)]
def P60_3 : List (List V × V) := [([.agg [d 48,d 48],.agg [d 52,d 48],.agg [d 52,d 52]],g 1)]
def P74_3 : List (List V × V) := [([.agg [d 48,d 48],.agg [d 49,d 48],.agg [d 49,d 52]],d 52)]
def P90_3 : List (List V × V) := [([g (-3),g 1],.str [45,51]),([g 1,g 1],d 49)]
def P98_3 : List (List V × V) := [([d 50],g 0)]
def P101_3 : List (List V × V) := [([.str [45,49],.str [45,52]],d 52),([.str [45,52],d 50],.str [45,56]),([.str [45,52],d 51],.str [45,49,50]),([.str [45,52],d 52],.str [45,49,54]),([d 52,.str [45,49]],.str [45,52]),([d 52,.str [45,50]],.str [45,56]),([d 52,.str [45,51]],.str [45,49,50]),([d 52,.str [45,52]],.str [45,49,54])]
def P102_3 : List (List V × V) := [([d 48,d 48,d 49,d 49],.str [45,49])]
def P103_3 : List (List V × V) := [([d 49,d 49],d 48),([d 50,d 50],d 48),([d 50,d 52],.str [45,50]),([d 52,d 49],d 51),([d 52,d 52],d 48)]
def P105_3 : List (List V × V) := [([d 49],.str [45,49])]
def P139_3 : List (List V × V) := [([.agg [d 49,d 48,d 48,d 49]],g 0)]
def P175_3 : List (List V × V) := [([d 50],.tup [d 49,g 0])]
def P295_3 : List (List V × V) := [([.agg [d 48,d 48,d 49],.agg [d 49,d 48,d 48]],d 48),([.agg [d 48,d 49,d 48],.agg [d 49,d 48,d 48]],d 48),([.agg [d 49,d 48,d 48],.agg [d 48,d 48,d 48]],d 48),([.agg [d 49,d 48,d 48],.agg [d 49,d 48,d 48]],d 49)]
def P341_3 : List (List V × V) := [([d 48,d 48,.str [49,47,51]],d 48),([d 48,d 48,.str [49,47,52]],d 48),([d 48,d 52,.str [49,47,52]],d 49)]
def kL3 : Memo := [(26,P26_3),(32,P32_3),(34,P34_3),(36,P36_3),(43,P43_3),(50,P50_3),(59,P59_3),(60,P60_3),(74,P74_3),(90,P90_3),(98,P98_3),(101,P101_3),(102,P102_3),(103,P103_3),(105,P105_3),(139,P139_3),(175,P175_3),(295,P295_3),(341,P341_3)]
def kT3 : T (List (List V × V)) := (m (m (m (m (q (q (p (l P175_3)))) (p (q (b (p (l P295_3)) P103_3)))) (q (m (b (p (l P139_3)) P43_3) (l P59_3)))) (m (q (p (q (l P105_3)))) (p (m (q (l P101_3)) (p (q (p (l P341_3)))))))) (m (m (p (p (l P32_3))) (m (p (l P36_3)) (q (l P60_3)))) (m (m (m (a P34_3 (l P98_3)) (l P50_3)) (c (p (l P74_3)) P26_3 (p (l P90_3)))) (p (p (q (l P102_3)))))))
theorem kT3_eq : kT3 = mkMemo kL3 := by kernel_rfl
def N189_3 : List RM := [⟨[g 3,.ptr 64 0],[C [.fn 188 [] [.ptr 65 0,.ptr 68 0,.ptr 70 0]] 320 0,C [s 66 0 4 9,s 67 0 2 4] 42 0,C [d 48,d 48,d 52,d 48,d 52,d 52,d 48,d 52] 57 2,C [g 0,g 1,g 2,g 0,g 2,g 3] 162 0,C [s 69 0 4 9] 133 0,C [g 0,g 1,g 2,g 3] 3 1,C [g 4] 3 0],.bool false,[(64,C [.fn 188 [] [.ptr 65 0,.ptr 68 0,.ptr 70 0]] 320 0),(65,C [s 66 0 4 9,s 67 0 2 4] 42 0),(66,C [d 48,d 48,d 52,d 48,d 52,d 52,d 48,d 52] 57 2),(67,C [g 0,g 1,g 2,g 0,g 2,g 3] 162 0),(68,C [s 69 0 4 9] 133 0),(69,C [g 0,g 1,g 2,g 3] 3 1),(70,C [g 4] 3 0)],2⟩]
def N339_3 : List RM := [⟨[.agg [d 48,d 48],.ptr 64 0],[C [d 49,d 48,d 49] 333 0],.str [45,49],[(64,C [d 49,d 48,d 49] 333 0)],1⟩,⟨[.agg [d 48,d 52],.ptr 64 0],[C [d 49,d 48,d 49] 333 0],.str [45,49],[(64,C [d 49,d 48,d 49] 333 0)],1⟩,⟨[.agg [d 49,d 48],.ptr 64 0],[C [d 49,d 48,d 50] 333 0],.str [45,49],[(64,C [d 49,d 48,d 50] 333 0)],1⟩,⟨[.agg [d 49,d 52],.ptr 64 0],[C [d 49,d 48,d 50] 333 0],.str [45,49],[(64,C [d 49,d 48,d 50] 333 0)],1⟩]
def kM3 : Kept := [(189,N189_3),(339,N339_3)]
def kU3 : T (List RM) := (p (m (q (p (q (p (q (p (l N339_3))))))) (q (q (q (q (p (l N189_3))))))))
theorem kU3_eq : kU3 = mkKept kM3 := by kernel_rfl
theorem kP3 : chk kb2 10000 60 kL3 = true := by kernel_rfl
theorem kN3 : chkRs kb2 10000 60 kM3 = true := by kernel_rfl
noncomputable def kb3 : Tab := kb2.over kT3 kU3
theorem kO3 : TabOk kb3 Tryz.prog := TabOk.over kO2 kT3 kU3
theorem kF3 {w0 : Base} (hF : FnOk tb0 Tryz.prog w0) : FnOk kb3 Tryz.prog w0 := FnOk.over kO2 (kF2 hF) kT3_eq kP3 kU3_eq kN3
def P26_4 : List (List V × V) := [([g 1],d 49)]
def P45_4 : List (List V × V) := [([d 50],g 0)]
def P49_4 : List (List V × V) := [([.agg [d 49,d 48,d 48],.agg [d 48,d 48,d 49]],.agg [d 48,.str [45,49],d 48]),([.agg [d 49,d 48,d 48],.agg [d 48,d 49,d 49]],.agg [d 48,.str [45,49],d 49])]
def P101_4 : List (List V × V) := [([.str [45,49],.str [45,49]],d 49)]
def P103_4 : List (List V × V) := [([d 49,d 52],.str [45,51]),([d 50,d 49],d 49),([d 52,d 50],d 50)]
def P148_4 : List (List V × V) := [([.agg [d 49,d 48,d 48,d 48,d 49,d 48,d 48,d 48,d 49,d 48,d 48,d 48]],g 0)]
def P179_4 : List (List V × V) := [([g 0,g 1],.tup [d 48,g 0]),([g 4,g 1],.tup [d 52,g 0])]
def P235_4 : List (List V × V) := [([.agg [d 49,d 48,d 48,d 48,d 49,d 48,d 48,d 48,d 49],.agg [d 49,d 48,d 48]],.agg [d 49,d 48,d 48])]
def P341_4 : List (List V × V) := [([d 49,d 52,.str [49,47,51]],d 50),([d 52,d 48,.str [51,47,52]],d 49),([d 52,d 52,.str [50,47,51]],d 52),([d 52,d 52,.str [51,47,52]],d 52)]
def P342_4 : List (List V × V) := [([.agg [d 49,d 48]],g 0),([.agg [d 49,d 52]],g 0),([.agg [d 52,d 48]],g 0),([.agg [d 52,d 52]],g 0)]
def kL4 : Memo := [(26,P26_4),(45,P45_4),(49,P49_4),(101,P101_4),(103,P103_4),(148,P148_4),(179,P179_4),(235,P235_4),(341,P341_4),(342,P342_4)]
def kT4 : T (List (List V × V)) := (m (m (m (q (p (q (l P103_4)))) (m (q (q (p (l P179_4)))) (p (q (q (l P235_4)))))) (m (p (q (l P49_4))) (m (m (q (l P101_4)) (p (q (p (l P341_4))))) (p (l P45_4))))) (m (q (p (q (p (p (l P148_4)))))) (m (q (l P26_4)) (p (q (p (q (p (l P342_4)))))))))
theorem kT4_eq : kT4 = mkMemo kL4 := by kernel_rfl
def N12_4 : List RM := [⟨[s 64 0 4 8],[C [d 48,d 48,d 52,d 48,d 52,d 52,d 48,d 52] 57 0],g 0,[(64,C [d 48,d 48,d 52,d 48,d 52,d 52,d 48,d 52] 57 0)],79⟩]
def N27_4 : List RM := [⟨[.agg [s 64 0 4 9,s 65 0 2 4]],[C [d 48,d 48,d 52,d 48,d 52,d 52,d 48,d 52] 57 2,C [g 0,g 1,g 2,g 0,g 2,g 3] 162 0],g 0,[(64,C [d 48,d 48,d 52,d 48,d 52,d 52,d 48,d 52] 57 2),(65,C [g 0,g 1,g 2,g 0,g 2,g 3] 162 0)],108⟩]
def N290_4 : List RM := [⟨[.agg [d 48,d 48],.ptr 64 0],[C [.fn 339 [] [.ptr 65 0]] 387 0,C [d 49,d 48,d 49] 333 0],d 49,[(64,C [.fn 339 [] [.ptr 65 0]] 387 0),(65,C [d 49,d 48,d 49] 333 0)],2⟩,⟨[.agg [d 48,d 52],.ptr 64 0],[C [.fn 339 [] [.ptr 65 0]] 387 0,C [d 49,d 48,d 49] 333 0],d 49,[(64,C [.fn 339 [] [.ptr 65 0]] 387 0),(65,C [d 49,d 48,d 49] 333 0)],2⟩,⟨[.agg [d 49,d 48],.ptr 64 0],[C [.fn 339 [] [.ptr 65 0]] 387 0,C [d 49,d 48,d 50] 333 0],d 49,[(64,C [.fn 339 [] [.ptr 65 0]] 387 0),(65,C [d 49,d 48,d 50] 333 0)],2⟩,⟨[.agg [d 49,d 52],.ptr 64 0],[C [.fn 339 [] [.ptr 65 0]] 387 0,C [d 49,d 48,d 50] 333 0],d 49,[(64,C [.fn 339 [] [.ptr 65 0]] 387 0),(65,C [d 49,d 48,d 50] 333 0)],2⟩]
def N339_4 : List RM := [⟨[.agg [d 52,d 48],.ptr 64 0],[C [d 49,d 48,d 49] 333 0],d 51,[(64,C [d 49,d 48,d 49] 333 0)],1⟩,⟨[.agg [d 52,d 52],.ptr 64 0],[C [d 49,d 48,d 49] 333 0],d 51,[(64,C [d 49,d 48,d 49] 333 0)],1⟩]
def kM4 : Kept := [(12,N12_4),(27,N27_4),(290,N290_4),(339,N339_4)]
def kU4 : T (List RM) := (m (p (q (m (q (p (q (p (l N339_4))))) (l N27_4)))) (m (q (l N12_4)) (p (p (p (q (p (p (l N290_4)))))))))
theorem kU4_eq : kU4 = mkKept kM4 := by kernel_rfl
theorem kP4 : chk kb3 10000 60 kL4 = true := by kernel_rfl
theorem kN4 : chkRs kb3 10000 60 kM4 = true := by kernel_rfl
noncomputable def kb4 : Tab := kb3.over kT4 kU4
theorem kO4 : TabOk kb4 Tryz.prog := TabOk.over kO3 kT4 kU4
theorem kF4 {w0 : Base} (hF : FnOk tb0 Tryz.prog w0) : FnOk kb4 Tryz.prog w0 := FnOk.over kO3 (kF3 hF) kT4_eq kP4 kU4_eq kN4
def P8_5 : List (List V × V) := [([g 1,g 0,g 0],.agg [d 49,d 48,d 48])]
def P34_5 : List (List V × V) := [([.agg [d 50,d 48]],g 0),([.agg [d 50,d 52]],g 0)]
def P37_5 : List (List V × V) := [([.agg [d 48,d 48,d 48,d 49,d 48,d 48,d 48,d 48,d 49]],g 0)]
def P74_5 : List (List V × V) := [([.agg [d 49,d 48],.agg [d 50,d 48],.agg [d 50,d 52]],d 52),([.agg [d 50,d 48],.agg [d 52,d 48],.agg [d 52,d 52]],d 56)]
def P85_5 : List (List V × V) := [([.agg [d 49,d 48,d 48,d 48,d 49,d 48,d 48,d 48,d 49],.agg [d 48,d 48,d 48]],.tup [.agg [d 49,d 48,d 48,d 48,d 49,d 48,d 48,d 48,d 49,d 48,d 48,d 48],g 0])]
def P139_5 : List (List V × V) := [([.agg [d 49,d 48,d 48,d 50]],g 0)]
def P341_5 : List (List V × V) := [([d 52,d 49,.str [50,47,51]],d 50)]
def kL5 : Memo := [(8,P8_5),(34,P34_5),(37,P37_5),(74,P74_5),(85,P85_5),(139,P139_5),(341,P341_5)]
def kT5 : T (List (List V × V)) := (m (m (q (q (p (p (p (l P139_5)))))) (q (p (m (l P37_5) (p (a P85_5 (p (l P341_5)))))))) (m (p (l P8_5)) (p (m (p (l P34_5)) (p (p (l P74_5)))))))
theorem kT5_eq : kT5 = mkMemo kL5 := by kernel_rfl
def N29_5 : List RM := [⟨[.agg [s 64 0 4 9,s 65 0 2 4],.agg [g 4,d 100,.nils,.nils,.nils,.str [],.str [],.str [],.str [],.str [],.str [],.str [],.str [],.str [],.str [],.nils,.str [],.str [],.str [],d 49,d 48,d 48,d 49,d 49,.str [100,105,107,101],g 0,g 0,g 0,g 0,.str [],.str [],.str []]],[C [d 48,d 48,d 52,d 48,d 52,d 52,d 48,d 52] 57 2,C [g 0,g 1,g 2,g 0,g 2,g 3] 162 0],g 0,[(64,C [d 48,d 48,d 52,d 48,d 52,d 52,d 48,d 52] 57 2),(65,C [g 0,g 1,g 2,g 0,g 2,g 3] 162 0)],116⟩]
def N290_5 : List RM := [⟨[.agg [d 52,d 48],.ptr 64 0],[C [.fn 339 [] [.ptr 65 0]] 387 0,C [d 49,d 48,d 49] 333 0],.str [45,51],[(64,C [.fn 339 [] [.ptr 65 0]] 387 0),(65,C [d 49,d 48,d 49] 333 0)],2⟩,⟨[.agg [d 52,d 52],.ptr 64 0],[C [.fn 339 [] [.ptr 65 0]] 387 0,C [d 49,d 48,d 49] 333 0],.str [45,51],[(64,C [.fn 339 [] [.ptr 65 0]] 387 0),(65,C [d 49,d 48,d 49] 333 0)],2⟩]
def N339_5 : List RM := [⟨[.agg [d 52,d 48],.ptr 64 0],[C [d 49,d 48,d 50] 333 0],d 50,[(64,C [d 49,d 48,d 50] 333 0)],1⟩,⟨[.agg [d 52,d 52],.ptr 64 0],[C [d 49,d 48,d 50] 333 0],d 50,[(64,C [d 49,d 48,d 50] 333 0)],1⟩]
def kM5 : Kept := [(29,N29_5),(290,N290_5),(339,N339_5)]
def kU5 : T (List RM) := (m (m (q (p (q (p (q (p (l N339_5))))))) (q (q (l N29_5)))) (q (p (p (p (q (p (p (l N290_5)))))))))
theorem kU5_eq : kU5 = mkKept kM5 := by kernel_rfl
theorem kP5 : chk kb4 10000 60 kL5 = true := by kernel_rfl
theorem kN5 : chkRs kb4 10000 60 kM5 = true := by kernel_rfl
noncomputable def kb5 : Tab := kb4.over kT5 kU5
theorem kO5 : TabOk kb5 Tryz.prog := TabOk.over kO4 kT5 kU5
theorem kF5 {w0 : Base} (hF : FnOk tb0 Tryz.prog w0) : FnOk kb5 Tryz.prog w0 := FnOk.over kO4 (kF4 hF) kT5_eq kP5 kU5_eq kN5
def P41_6 : List (List V × V) := [([],.agg [d 49,d 48,d 48,d 48,d 49,d 48,d 48,d 48,d 49,d 48,d 48,d 48])]
def P145_6 : List (List V × V) := [([.agg [d 49,d 48,d 48,d 48,d 49,d 48,d 48,d 48,d 49,d 48,d 48,d 48],.agg [d 49,d 48,d 48,d 48,d 49,d 48,d 48,d 48,d 49,d 48,d 48,d 48]],.tup [.agg [d 49,d 48,d 48,d 48,d 49,d 48,d 48,d 48,d 49,d 48,d 48,d 48],g 0])]
def P342_6 : List (List V × V) := [([.agg [d 50,d 48]],g 0),([.agg [d 50,d 52]],g 0)]
def kL6 : Memo := [(41,P41_6),(145,P145_6),(342,P342_6)]
def kT6 : T (List (List V × V)) := (m (q (p (m (q (p (p (l P145_6)))) (p (l P41_6))))) (q (q (p (q (p (q (p (l P342_6)))))))))
theorem kT6_eq : kT6 = mkMemo kL6 := by kernel_rfl
def N229_6 : List RM := [⟨[.agg [s 64 0 4 9,s 65 0 2 4],.agg [g 4,d 100,.nils,.nils,.nils,.str [],.str [],.str [],.str [],.str [],.str [],.str [],.str [],.str [],.str [],.nils,.str [],.str [],.str [],d 49,d 48,d 48,d 49,d 49,.str [100,105,107,101],g 0,g 0,g 0,g 0,.str [],.str [],.str []],g 0],[C [d 48,d 48,d 52,d 48,d 52,d 52,d 48,d 52] 57 2,C [g 0,g 1,g 2,g 0,g 2,g 3] 162 0],g 0,[(64,C [d 48,d 48,d 52,d 48,d 52,d 52,d 48,d 52] 57 2),(65,C [g 0,g 1,g 2,g 0,g 2,g 3] 162 0)],118⟩,⟨[.agg [s 64 0 4 9,s 65 0 2 4],.agg [g 4,d 100,.nils,.nils,.nils,.str [],.str [],.str [],.str [],.str [],.str [],.str [],.str [],.str [],.str [],.nils,.str [],.str [],.str [],d 49,d 48,d 48,d 49,d 49,.str [100,105,107,101],g 0,g 0,g 0,g 0,.str [],.str [],.str []],g 2],[C [d 48,d 48,d 52,d 48,d 52,d 52,d 48,d 52] 57 2,C [g 0,g 1,g 2,g 0,g 2,g 3] 162 0],g 0,[(64,C [d 48,d 48,d 52,d 48,d 52,d 52,d 48,d 52] 57 2),(65,C [g 0,g 1,g 2,g 0,g 2,g 3] 162 0)],118⟩]
def N290_6 : List RM := [⟨[.agg [d 52,d 48],.ptr 64 0],[C [.fn 339 [] [.ptr 65 0]] 387 0,C [d 49,d 48,d 50] 333 0],.str [45,50],[(64,C [.fn 339 [] [.ptr 65 0]] 387 0),(65,C [d 49,d 48,d 50] 333 0)],2⟩,⟨[.agg [d 52,d 52],.ptr 64 0],[C [.fn 339 [] [.ptr 65 0]] 387 0,C [d 49,d 48,d 50] 333 0],.str [45,50],[(64,C [.fn 339 [] [.ptr 65 0]] 387 0),(65,C [d 49,d 48,d 50] 333 0)],2⟩]
def kM6 : Kept := [(229,N229_6),(290,N290_6)]
def kU6 : T (List RM) := (m (q (q (p (p (q (q (l N229_6))))))) (q (p (p (p (q (p (p (l N290_6)))))))))
theorem kU6_eq : kU6 = mkKept kM6 := by kernel_rfl
theorem kP6 : chk kb5 10000 60 kL6 = true := by kernel_rfl
theorem kN6 : chkRs kb5 10000 60 kM6 = true := by kernel_rfl
noncomputable def kb6 : Tab := kb5.over kT6 kU6
theorem kO6 : TabOk kb6 Tryz.prog := TabOk.over kO5 kT6 kU6
theorem kF6 {w0 : Base} (hF : FnOk tb0 Tryz.prog w0) : FnOk kb6 Tryz.prog w0 := FnOk.over kO5 (kF5 hF) kT6_eq kP6 kU6_eq kN6
def kL7 : Memo := []
def kT7 : T (List (List V × V)) := .e
theorem kT7_eq : kT7 = mkMemo kL7 := by kernel_rfl
def N40_7 : List RM := [⟨[.ptr 64 0,s 68 0 4 8,.agg [d 49,d 48,d 48,d 48,d 49,d 48,d 48,d 48,d 49,d 48,d 48,d 48],.nils,g 0],[C [s 65 0 4 9,s 66 0 2 4,.str [98,97,115,101],s 67 0 1 2,d 48,d 48,d 48,d 49,d 48,d 48,d 48,d 48,d 49,.nils,g 0] 126 0,C [d 48,d 48,d 52,d 48,d 52,d 52,d 48,d 52] 57 2,C [g 0,g 1,g 2,g 0,g 2,g 3] 162 0,C [g 4,d 100,.nils,.nils,.nils,.str [],.str [],.str [],.str [],.str [],.str [],.str [],.str [],.str [],.str [],.nils,.str [],.str [],.str [],d 49,d 48,d 48,d 49,d 49,.str [100,105,107,101],g 0,g 0,g 0,g 0,.str [],.str [],.str []] 109 0,C [d 48,d 48,d 52,d 48,d 52,d 52,d 48,d 52] 57 0],.tup [],[(64,C [s 65 0 4 9,s 66 0 2 4,.str [98,97,115,101],s 67 0 1 2,d 48,d 48,d 48,d 49,d 48,d 48,d 48,d 48,d 49,s 1224 0 3 7,g 0] 126 0),(65,C [d 48,d 48,d 52,d 48,d 52,d 52,d 48,d 52] 57 2),(66,C [g 0,g 1,g 2,g 0,g 2,g 3] 162 0),(67,C [g 4,d 100,.nils,.nils,.nils,.str [],.str [],.str [],.str [],.str [],.str [],.str [],.str [],.str [],.str [],.nils,.str [],.str [],.str [],d 49,d 48,d 48,d 49,d 49,.str [100,105,107,101],g 0,g 0,g 0,g 0,.str [],.str [],.str []] 109 0),(1224,C [s 652 0 4 9,.str [98,97,115,101],s 402 0 1 3,s 968 0 4 9,.str [100,105,107,101],s 845 0 1 3,s 1223 0 4 9,.str [98,97,115,101],s 973 0 1 3] 135 3),(652,C [d 48,d 48,d 49,d 48,d 49,d 52,d 48,d 52] 57 2),(402,C [g 0] 3 1),(968,C [d 49,d 48,d 50,d 48,d 50,d 52,d 49,d 52] 57 2),(845,C [g 1] 3 1),(1223,C [d 50,d 48,d 52,d 48,d 52,d 52,d 50,d 52] 57 2),(973,C [g 2] 3 1),(68,C [d 48,d 48,d 52,d 48,d 52,d 52,d 48,d 52] 57 0)],1156⟩]
def kM7 : Kept := [(40,N40_7)]
def kU7 : T (List RM) := (q (p (p (q (p (l N40_7))))))
theorem kU7_eq : kU7 = mkKept kM7 := by kernel_rfl
theorem kP7 : chk kb6 10000 60 kL7 = true := by kernel_rfl
theorem kN7 : chkRs kb6 10000 60 kM7 = true := by kernel_rfl
noncomputable def kb7 : Tab := kb6.over kT7 kU7
theorem kO7 : TabOk kb7 Tryz.prog := TabOk.over kO6 kT7 kU7
theorem kF7 {w0 : Base} (hF : FnOk tb0 Tryz.prog w0) : FnOk kb7 Tryz.prog w0 := FnOk.over kO6 (kF6 hF) kT7_eq kP7 kU7_eq kN7
def kL8 : Memo := []
def kT8 : T (List (List V × V)) := .e
theorem kT8_eq : kT8 = mkMemo kL8 := by kernel_rfl
def N16_8 : List RM := [⟨[.agg [s 64 0 4 9,s 65 0 2 4,.str [98,97,115,101],s 66 0 1 2,d 48,d 48,d 48,d 49,d 48,d 48,d 48,d 48,d 49,s 67 0 4 8]],[C [d 48,d 48,d 52,d 48,d 52,d 52,d 48,d 52] 57 2,C [g 0,g 1,g 2,g 0,g 2,g 3] 162 0,C [g 4,d 100,.nils,.nils,.nils,.str [],.str [],.str [],.str [],.str [],.str [],.str [],.str [],.str [],.str [],.nils,.str [],.str [],.str [],d 49,d 48,d 48,d 49,d 49,.str [100,105,107,101],g 0,g 0,g 0,g 0,.str [],.str [],.str []] 109 0,C [d 48,d 48,d 52,d 48,d 52,d 52,d 48,d 52] 57 0],.tup [s 1776 0 2 5,g 0],[(1776,C [.str [98,97,115,101],.str [50,52],.str [100,105,107,101],d 56] 81 2),(64,C [d 48,d 48,d 52,d 48,d 52,d 52,d 48,d 52] 57 2),(65,C [g 0,g 1,g 2,g 0,g 2,g 3] 162 0),(66,C [g 4,d 100,.nils,.nils,.nils,.str [],.str [],.str [],.str [],.str [],.str [],.str [],.str [],.str [],.str [],.nils,.str [],.str [],.str [],d 49,d 48,d 48,d 49,d 49,.str [100,105,107,101],g 0,g 0,g 0,g 0,.str [],.str [],.str []] 109 0),(67,C [d 48,d 48,d 52,d 48,d 52,d 52,d 48,d 52] 57 0)],1709⟩]
def kM8 : Kept := [(16,N16_8)]
def kU8 : T (List RM) := (q (p (p (p (l N16_8)))))
theorem kU8_eq : kU8 = mkKept kM8 := by kernel_rfl
theorem kP8 : chk kb7 10000 60 kL8 = true := by kernel_rfl
theorem kN8 : chkRs kb7 10000 60 kM8 = true := by kernel_rfl
noncomputable def kb8 : Tab := kb7.over kT8 kU8
theorem kO8 : TabOk kb8 Tryz.prog := TabOk.over kO7 kT8 kU8
theorem kF8 {w0 : Base} (hF : FnOk tb0 Tryz.prog w0) : FnOk kb8 Tryz.prog w0 := FnOk.over kO7 (kF7 hF) kT8_eq kP8 kU8_eq kN8
theorem root_chk : memoOk kb8 10000 60 4 [] (.bool true) = true := by kernel_rfl
theorem known_true {w0 : Base} (hF : FnOk tb0 Tryz.prog w0) : Contract Tryz.prog w0 4 [] (.bool true) := memo_ok kO8 (kF8 hF) root_chk
end Go.Proofs.YtdkafeammgaknaaGreatDoor
