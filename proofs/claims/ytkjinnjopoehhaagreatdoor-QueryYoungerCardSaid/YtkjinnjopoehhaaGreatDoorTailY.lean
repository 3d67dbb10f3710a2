/-
  klippelaw53.QueryYounger behind klippelaw53.Make: its answers, by the evaluator.
-/
import Derived.Test.YtkjinnjopoehhaaGreatDoorEvTab
import Derived.Test.YtkjinnjopoehhaaGreatDoorSymX
import Derived.Test.YtkjinnjopoehhaaGreatDoorModQ
import Derived.Test.YtkjinnjopoehhaaGreatDoorHistX
set_option linter.unusedSectionVars false
set_option linter.unusedVariables false
set_option linter.unusedSimpArgs false
namespace Ev
open Go
theorem chkR_parts {tb:Tab} {rounds n f:Nat} {l:List RM} (ps:List (Nat × Nat)) (h:∀ p∈ps,chkR tb rounds n f ((l.drop p.1).take p.2)=true) (hc:(ps.flatMap fun p=>(l.drop p.1).take p.2)=l):chkR tb rounds n f l=true:=by
 unfold chkR
 rw [← hc,List.all_flatMap]
 exact List.all_eq_true.2 fun p hp=>h p hp
end Ev
namespace Go.Proofs.YtkjinnjopoehhaaGreatDoor.Ask
open Go Ev Ab
set_option maxRecDepth 100000
def P53_1:List (List V × V):=[([.str [107,48]],.bool true),([.str [107,49]],.bool true),([.str [65,49]],.bool true),([.str [65,50]],.bool true),([.str [65,51]],.bool true),([.str [66,49]],.bool true),([.str [66,50]],.bool true),([.str [66,51]],.bool true),([.str [98,97,115,101]],.bool true)]
def P154_1:List (List V × V):=[([.str [102,114,111,109,32,78,32,78,32,116,111,32,78,32,78],d 32],g 4),([.str [116,104,97,110,32,107,48],d 32],g 4),([.str [116,104,97,110,32,107,49],d 32],g 4),([.str [116,104,97,110,32,65,49],d 32],g 4),([.str [116,104,97,110,32,65,50],d 32],g 4),([.str [116,104,97,110,32,65,51],d 32],g 4),([.str [116,104,97,110,32,66,49],d 32],g 4),([.str [116,104,97,110,32,66,50],d 32],g 4),([.str [116,104,97,110,32,66,51],d 32],g 4),([.str [116,104,97,110,32,98,97,115,101],d 32],g 4),([.str [116,111,32,78,32,78],d 32],g 2),([.str [78,32,116,111,32,78,32,78],d 32],g 1),([.str [78,32,78,32,116,111,32,78,32,78],d 32],g 1),([.str [78,32,78,32,78],d 32],g 1),([.str [78,32,78],d 32],g 1),([.str [97,116,32,78,32,78],d 32],g 2)]
def kL1:Memo:=[(53,P53_1),(154,P154_1)]
def kT1:T (List (List V × V)):=(m (q (q (p (q (l P53_1))))) (q (p (q (q (p (p (l P154_1))))))))
theorem kT1_eq:kT1=mkMemo kL1:=by kernel_rfl
def N46_1:List RM:=[⟨[.str [117,110,105,116,115],d 32],[],s 64 0 1 2,[(64,C [.str [117,110,105,116,115]] 9 0)],1⟩,⟨[.str [118,111,108,117,109,101,32,111,102,32,85],d 32],[],s 64 0 3 6,[(64,C [.str [118,111,108,117,109,101],.str [111,102],d 85] 9 0)],1⟩,⟨[.str [121,111,117,110,103,101,114,32,85,32,116,104,97,110,32,85],d 32],[],s 64 0 4 8,[(64,C [.str [121,111,117,110,103,101,114],d 85,.str [116,104,97,110],d 85] 9 0)],1⟩]
def N47_1:List RM:=[⟨[],[],s 70 0 11 22,[(70,C [.str [117,110,105,116,32,97,116,32,78,32,78,32,78],.fn 90 [] [],.nils,.str [111,117,116,99,114,111,112,32,97,116,32,78,32,78],.fn 91 [] [],s 64 0 1 2,.str [104,101,105,103,104,116,32,97,116,32,78,32,78],.fn 92 [] [],s 65 0 1 2,.str [100,101,112,116,104,32,111,102,32,85,32,97,116,32,78,32,78],.fn 93 [] [],s 66 0 1 2,.str [108,111,103,32,97,116,32,78,32,78],.fn 94 [] [],s 67 0 1 2,.str [99,114,111,115,115,105,110,103,115,32,102,114,111,109,32,78,32,78,32,78,32,116,111,32,78,32,78,32,78],.fn 95 [] [],.nils,.str [116,114,97,99,101,32,102,114,111,109,32,78,32,78,32,116,111,32,78,32,78],.fn 96 [] [],s 68 0 2 4,.str [118,111,108,117,109,101,32,111,102,32,85],.fn 97 [] [],.nils,.str [115,101,99,116,105,111,110,32,111,102,32,85,32,102,114,111,109,32,78,32,78,32,116,111,32,78,32,78],.fn 98 [] [],s 69 0 2 4,.str [121,111,117,110,103,101,114,32,85,32,116,104,97,110,32,85],.fn 99 [] [],.nils,.str [117,110,105,116,115],.fn 100 [] [],.nils] 126 0),(64,C [g 0] 3 0),(65,C [g 0] 3 0),(66,C [g 0] 3 0),(67,C [g 0] 3 0),(68,C [g 0,g 2] 3 0),(69,C [g 0,g 2] 3 0)],7⟩]
def kM1:Kept:=[(46,N46_1),(47,N47_1)]
def kU1:T (List RM):=(m (p (p (p (q (l N47_1))))) (q (q (q (p (l N46_1))))))
theorem kU1_eq:kU1=mkKept kM1:=by kernel_rfl
theorem kP1:chk tb0 10000 60 kL1=true:=by kernel_rfl
theorem kR1_46_0:chkR tb0 10000 60 46 ((N46_1.drop 0).take 3)=true:=by kernel_rfl
theorem kR1_47_0:chkR tb0 10000 60 47 ((N47_1.drop 0).take 1)=true:=by kernel_rfl
theorem kN1:chkRs tb0 10000 60 kM1=true:=by
 simp only [chkRs,kM1,List.all_cons,List.all_nil,Bool.and_true,Bool.and_eq_true]
 exact⟨chkR_parts [(0,3)] (List.forall_mem_cons.2 ⟨kR1_46_0,(fun _ h=>by cases h)⟩) rfl,chkR_parts [(0,1)] (List.forall_mem_cons.2 ⟨kR1_47_0,(fun _ h=>by cases h)⟩) rfl⟩
noncomputable def kb1:Tab:=tb0.over kT1 kU1
theorem kO1:TabOk kb1 Tryz.prog:=TabOk.over tabOk kT1 kU1
theorem kF1 {w0:Base} (hF:FnOk tb0 Tryz.prog w0):FnOk kb1 Tryz.prog w0:=FnOk.over tabOk hF kT1_eq kP1 kU1_eq kN1
def P49_2:List (List V × V):=[([.agg [g 11,.nils,.nils]],g 0)]
def P101_2:List (List V × V):=[([.agg [.str [121,111,117,110,103,101,114,32,85,32,116,104,97,110,32,85],.fn 99 [] [],.nils],d 78],g 0),([.agg [.str [121,111,117,110,103,101,114,32,85,32,116,104,97,110,32,85],.fn 99 [] [],.nils],d 85],g 2)]
def kL2:Memo:=[(49,P49_2),(101,P101_2)]
def kT2:T (List (List V × V)):=(p (q (m (p (q (l P49_2))) (p (p (q (l P101_2)))))))
theorem kT2_eq:kT2=mkMemo kL2:=by kernel_rfl
def N46_2:List RM:=[⟨[.str [100,101,112,116,104,32,111,102,32,85,32,97,116,32,78,32,78],d 32],[],s 64 0 6 12,[(64,C [.str [100,101,112,116,104],.str [111,102],d 85,.str [97,116],d 78,d 78] 9 0)],1⟩,⟨[.str [104,101,105,103,104,116,32,97,116,32,78,32,78],d 32],[],s 64 0 4 8,[(64,C [.str [104,101,105,103,104,116],.str [97,116],d 78,d 78] 9 0)],1⟩,⟨[.str [108,111,103,32,97,116,32,78,32,78],d 32],[],s 64 0 4 8,[(64,C [.str [108,111,103],.str [97,116],d 78,d 78] 9 0)],1⟩,⟨[.str [111,117,116,99,114,111,112,32,97,116,32,78,32,78],d 32],[],s 64 0 4 8,[(64,C [.str [111,117,116,99,114,111,112],.str [97,116],d 78,d 78] 9 0)],1⟩,⟨[.str [115,101,99,116,105,111,110,32,111,102,32,85,32,102,114,111,109,32,78,32,78,32,116,111,32,78,32,78],d 32],[],s 64 0 9 18,[(64,C [.str [115,101,99,116,105,111,110],.str [111,102],d 85,.str [102,114,111,109],d 78,d 78,.str [116,111],d 78,d 78] 9 0)],1⟩,⟨[.str [116,114,97,99,101,32,102,114,111,109,32,78,32,78,32,116,111,32,78,32,78],d 32],[],s 64 0 7 14,[(64,C [.str [116,114,97,99,101],.str [102,114,111,109],d 78,d 78,.str [116,111],d 78,d 78] 9 0)],1⟩,⟨[.str [117,110,105,116,32,97,116,32,78,32,78,32,78],d 32],[],s 64 0 5 10,[(64,C [.str [117,110,105,116],.str [97,116],d 78,d 78,d 78] 9 0)],1⟩,⟨[.str [99,114,111,115,115,105,110,103,115,32,102,114,111,109,32,78,32,78,32,78,32,116,111,32,78,32,78,32,78],d 32],[],s 64 0 9 18,[(64,C [.str [99,114,111,115,115,105,110,103,115],.str [102,114,111,109],d 78,d 78,d 78,.str [116,111],d 78,d 78,d 78] 9 0)],1⟩]
def kM2:Kept:=[(46,N46_2)]
def kU2:T (List RM):=(q (q (q (q (p (l N46_2))))))
theorem kU2_eq:kU2=mkKept kM2:=by kernel_rfl
theorem kP2:chk kb1 10000 60 kL2=true:=by kernel_rfl
theorem kR2_46_0:chkR kb1 10000 60 46 ((N46_2.drop 0).take 8)=true:=by kernel_rfl
theorem kN2:chkRs kb1 10000 60 kM2=true:=by
 simp only [chkRs,kM2,List.all_cons,List.all_nil,Bool.and_true,Bool.and_eq_true]
 exact chkR_parts [(0,8)] (List.forall_mem_cons.2 ⟨kR2_46_0,(fun _ h=>by cases h)⟩) rfl
noncomputable def kb2:Tab:=kb1.over kT2 kU2
theorem kO2:TabOk kb2 Tryz.prog:=TabOk.over kO1 kT2 kU2
theorem kF2 {w0:Base} (hF:FnOk tb0 Tryz.prog w0):FnOk kb2 Tryz.prog w0:=FnOk.over kO1 (kF1 hF) kT2_eq kP2 kU2_eq kN2
def P23_3:List (List V × V):=[([.str [117,110,105,116,115]],.tup [.agg [g 11,.nils,.nils],g 0])]
def kL3:Memo:=[(23,P23_3)]
def kT3:T (List (List V × V)):=(p (p (p (q (l P23_3)))))
theorem kT3_eq:kT3=mkMemo kL3:=by kernel_rfl
def N49_3:List RM:=[⟨[.agg [g 10,s 64 0 2 5,.nils]],[C [.str [107,48],.str [107,48]] 9 1],g 0,[(64,C [.str [107,48],.str [107,48]] 9 1)],9⟩,⟨[.agg [g 10,s 64 0 2 5,.nils]],[C [.str [107,48],.str [107,49]] 9 1],g 0,[(64,C [.str [107,48],.str [107,49]] 9 1)],9⟩,⟨[.agg [g 10,s 64 0 2 5,.nils]],[C [.str [107,48],.str [66,49]] 9 1],g 0,[(64,C [.str [107,48],.str [66,49]] 9 1)],9⟩,⟨[.agg [g 10,s 64 0 2 5,.nils]],[C [.str [107,48],.str [66,50]] 9 1],g 0,[(64,C [.str [107,48],.str [66,50]] 9 1)],9⟩,⟨[.agg [g 10,s 64 0 2 5,.nils]],[C [.str [107,48],.str [66,51]] 9 1],g 0,[(64,C [.str [107,48],.str [66,51]] 9 1)],9⟩,⟨[.agg [g 10,s 64 0 2 5,.nils]],[C [.str [107,48],.str [98,97,115,101]] 9 1],g 0,[(64,C [.str [107,48],.str [98,97,115,101]] 9 1)],9⟩,⟨[.agg [g 10,s 64 0 2 5,.nils]],[C [.str [107,49],.str [107,48]] 9 1],g 0,[(64,C [.str [107,49],.str [107,48]] 9 1)],9⟩,⟨[.agg [g 10,s 64 0 2 5,.nils]],[C [.str [107,49],.str [107,49]] 9 1],g 0,[(64,C [.str [107,49],.str [107,49]] 9 1)],9⟩,⟨[.agg [g 10,s 64 0 2 5,.nils]],[C [.str [107,49],.str [65,49]] 9 1],g 0,[(64,C [.str [107,49],.str [65,49]] 9 1)],9⟩,⟨[.agg [g 10,s 64 0 2 5,.nils]],[C [.str [107,49],.str [65,50]] 9 1],g 0,[(64,C [.str [107,49],.str [65,50]] 9 1)],9⟩,⟨[.agg [g 10,s 64 0 2 5,.nils]],[C [.str [107,49],.str [65,51]] 9 1],g 0,[(64,C [.str [107,49],.str [65,51]] 9 1)],9⟩,⟨[.agg [g 10,s 64 0 2 5,.nils]],[C [.str [107,49],.str [98,97,115,101]] 9 1],g 0,[(64,C [.str [107,49],.str [98,97,115,101]] 9 1)],9⟩,⟨[.agg [g 10,s 64 0 2 5,.nils]],[C [.str [65,49],.str [107,49]] 9 1],g 0,[(64,C [.str [65,49],.str [107,49]] 9 1)],9⟩,⟨[.agg [g 10,s 64 0 2 5,.nils]],[C [.str [65,49],.str [65,49]] 9 1],g 0,[(64,C [.str [65,49],.str [65,49]] 9 1)],9⟩,⟨[.agg [g 10,s 64 0 2 5,.nils]],[C [.str [65,49],.str [65,50]] 9 1],g 0,[(64,C [.str [65,49],.str [65,50]] 9 1)],9⟩,⟨[.agg [g 10,s 64 0 2 5,.nils]],[C [.str [65,49],.str [65,51]] 9 1],g 0,[(64,C [.str [65,49],.str [65,51]] 9 1)],9⟩,⟨[.agg [g 10,s 64 0 2 5,.nils]],[C [.str [65,49],.str [66,49]] 9 1],g 0,[(64,C [.str [65,49],.str [66,49]] 9 1)],9⟩,⟨[.agg [g 10,s 64 0 2 5,.nils]],[C [.str [65,49],.str [66,50]] 9 1],g 0,[(64,C [.str [65,49],.str [66,50]] 9 1)],9⟩,⟨[.agg [g 10,s 64 0 2 5,.nils]],[C [.str [65,49],.str [66,51]] 9 1],g 0,[(64,C [.str [65,49],.str [66,51]] 9 1)],9⟩,⟨[.agg [g 10,s 64 0 2 5,.nils]],[C [.str [65,49],.str [98,97,115,101]] 9 1],g 0,[(64,C [.str [65,49],.str [98,97,115,101]] 9 1)],9⟩,⟨[.agg [g 10,s 64 0 2 5,.nils]],[C [.str [65,50],.str [107,49]] 9 1],g 0,[(64,C [.str [65,50],.str [107,49]] 9 1)],9⟩,⟨[.agg [g 10,s 64 0 2 5,.nils]],[C [.str [65,50],.str [65,49]] 9 1],g 0,[(64,C [.str [65,50],.str [65,49]] 9 1)],9⟩,⟨[.agg [g 10,s 64 0 2 5,.nils]],[C [.str [65,50],.str [65,50]] 9 1],g 0,[(64,C [.str [65,50],.str [65,50]] 9 1)],9⟩,⟨[.agg [g 10,s 64 0 2 5,.nils]],[C [.str [65,50],.str [65,51]] 9 1],g 0,[(64,C [.str [65,50],.str [65,51]] 9 1)],9⟩,⟨[.agg [g 10,s 64 0 2 5,.nils]],[C [.str [65,50],.str [66,49]] 9 1],g 0,[(64,C [.str [65,50],.str [66,49]] 9 1)],9⟩,⟨[.agg [g 10,s 64 0 2 5,.nils]],[C [.str [65,50],.str [66,50]] 9 1],g 0,[(64,C [.str [65,50],.str [66,50]] 9 1)],9⟩,⟨[.agg [g 10,s 64 0 2 5,.nils]],[C [.str [65,50],.str [66,51]] 9 1],g 0,[(64,C [.str [65,50],.str [66,51]] 9 1)],9⟩,⟨[.agg [g 10,s 64 0 2 5,.nils]],[C [.str [65,50],.str [98,97,115,101]] 9 1],g 0,[(64,C [.str [65,50],.str [98,97,115,101]] 9 1)],9⟩,⟨[.agg [g 10,s 64 0 2 5,.nils]],[C [.str [65,51],.str [107,49]] 9 1],g 0,[(64,C [.str [65,51],.str [107,49]] 9 1)],9⟩,⟨[.agg [g 10,s 64 0 2 5,.nils]],[C [.str [65,51],.str [65,49]] 9 1],g 0,[(64,C [.str [65,51],.str [65,49]] 9 1)],9⟩,⟨[.agg [g 10,s 64 0 2 5,.nils]],[C [.str [65,51],.str [65,50]] 9 1],g 0,[(64,C [.str [65,51],.str [65,50]] 9 1)],9⟩,⟨[.agg [g 10,s 64 0 2 5,.nils]],[C [.str [65,51],.str [65,51]] 9 1],g 0,[(64,C [.str [65,51],.str [65,51]] 9 1)],9⟩,⟨[.agg [g 10,s 64 0 2 5,.nils]],[C [.str [65,51],.str [66,49]] 9 1],g 0,[(64,C [.str [65,51],.str [66,49]] 9 1)],9⟩,⟨[.agg [g 10,s 64 0 2 5,.nils]],[C [.str [65,51],.str [66,50]] 9 1],g 0,[(64,C [.str [65,51],.str [66,50]] 9 1)],9⟩,⟨[.agg [g 10,s 64 0 2 5,.nils]],[C [.str [65,51],.str [66,51]] 9 1],g 0,[(64,C [.str [65,51],.str [66,51]] 9 1)],9⟩,⟨[.agg [g 10,s 64 0 2 5,.nils]],[C [.str [65,51],.str [98,97,115,101]] 9 1],g 0,[(64,C [.str [65,51],.str [98,97,115,101]] 9 1)],9⟩,⟨[.agg [g 10,s 64 0 2 5,.nils]],[C [.str [66,49],.str [107,48]] 9 1],g 0,[(64,C [.str [66,49],.str [107,48]] 9 1)],9⟩,⟨[.agg [g 10,s 64 0 2 5,.nils]],[C [.str [66,49],.str [65,49]] 9 1],g 0,[(64,C [.str [66,49],.str [65,49]] 9 1)],9⟩,⟨[.agg [g 10,s 64 0 2 5,.nils]],[C [.str [66,49],.str [65,50]] 9 1],g 0,[(64,C [.str [66,49],.str [65,50]] 9 1)],9⟩,⟨[.agg [g 10,s 64 0 2 5,.nils]],[C [.str [66,49],.str [65,51]] 9 1],g 0,[(64,C [.str [66,49],.str [65,51]] 9 1)],9⟩,⟨[.agg [g 10,s 64 0 2 5,.nils]],[C [.str [66,49],.str [66,49]] 9 1],g 0,[(64,C [.str [66,49],.str [66,49]] 9 1)],9⟩,⟨[.agg [g 10,s 64 0 2 5,.nils]],[C [.str [66,49],.str [66,50]] 9 1],g 0,[(64,C [.str [66,49],.str [66,50]] 9 1)],9⟩,⟨[.agg [g 10,s 64 0 2 5,.nils]],[C [.str [66,49],.str [66,51]] 9 1],g 0,[(64,C [.str [66,49],.str [66,51]] 9 1)],9⟩,⟨[.agg [g 10,s 64 0 2 5,.nils]],[C [.str [66,49],.str [98,97,115,101]] 9 1],g 0,[(64,C [.str [66,49],.str [98,97,115,101]] 9 1)],9⟩,⟨[.agg [g 10,s 64 0 2 5,.nils]],[C [.str [66,50],.str [107,48]] 9 1],g 0,[(64,C [.str [66,50],.str [107,48]] 9 1)],9⟩,⟨[.agg [g 10,s 64 0 2 5,.nils]],[C [.str [66,50],.str [65,49]] 9 1],g 0,[(64,C [.str [66,50],.str [65,49]] 9 1)],9⟩,⟨[.agg [g 10,s 64 0 2 5,.nils]],[C [.str [66,50],.str [65,50]] 9 1],g 0,[(64,C [.str [66,50],.str [65,50]] 9 1)],9⟩,⟨[.agg [g 10,s 64 0 2 5,.nils]],[C [.str [66,50],.str [65,51]] 9 1],g 0,[(64,C [.str [66,50],.str [65,51]] 9 1)],9⟩,⟨[.agg [g 10,s 64 0 2 5,.nils]],[C [.str [66,50],.str [66,49]] 9 1],g 0,[(64,C [.str [66,50],.str [66,49]] 9 1)],9⟩,⟨[.agg [g 10,s 64 0 2 5,.nils]],[C [.str [66,50],.str [66,50]] 9 1],g 0,[(64,C [.str [66,50],.str [66,50]] 9 1)],9⟩,⟨[.agg [g 10,s 64 0 2 5,.nils]],[C [.str [66,50],.str [66,51]] 9 1],g 0,[(64,C [.str [66,50],.str [66,51]] 9 1)],9⟩,⟨[.agg [g 10,s 64 0 2 5,.nils]],[C [.str [66,50],.str [98,97,115,101]] 9 1],g 0,[(64,C [.str [66,50],.str [98,97,115,101]] 9 1)],9⟩,⟨[.agg [g 10,s 64 0 2 5,.nils]],[C [.str [66,51],.str [107,48]] 9 1],g 0,[(64,C [.str [66,51],.str [107,48]] 9 1)],9⟩,⟨[.agg [g 10,s 64 0 2 5,.nils]],[C [.str [66,51],.str [65,49]] 9 1],g 0,[(64,C [.str [66,51],.str [65,49]] 9 1)],9⟩,⟨[.agg [g 10,s 64 0 2 5,.nils]],[C [.str [66,51],.str [65,50]] 9 1],g 0,[(64,C [.str [66,51],.str [65,50]] 9 1)],9⟩,⟨[.agg [g 10,s 64 0 2 5,.nils]],[C [.str [66,51],.str [65,51]] 9 1],g 0,[(64,C [.str [66,51],.str [65,51]] 9 1)],9⟩,⟨[.agg [g 10,s 64 0 2 5,.nils]],[C [.str [66,51],.str [66,49]] 9 1],g 0,[(64,C [.str [66,51],.str [66,49]] 9 1)],9⟩,⟨[.agg [g 10,s 64 0 2 5,.nils]],[C [.str [66,51],.str [66,50]] 9 1],g 0,[(64,C [.str [66,51],.str [66,50]] 9 1)],9⟩,⟨[.agg [g 10,s 64 0 2 5,.nils]],[C [.str [66,51],.str [66,51]] 9 1],g 0,[(64,C [.str [66,51],.str [66,51]] 9 1)],9⟩,⟨[.agg [g 10,s 64 0 2 5,.nils]],[C [.str [66,51],.str [98,97,115,101]] 9 1],g 0,[(64,C [.str [66,51],.str [98,97,115,101]] 9 1)],9⟩,⟨[.agg [g 10,s 64 0 2 5,.nils]],[C [.str [98,97,115,101],.str [107,48]] 9 1],g 0,[(64,C [.str [98,97,115,101],.str [107,48]] 9 1)],9⟩,⟨[.agg [g 10,s 64 0 2 5,.nils]],[C [.str [98,97,115,101],.str [107,49]] 9 1],g 0,[(64,C [.str [98,97,115,101],.str [107,49]] 9 1)],9⟩,⟨[.agg [g 10,s 64 0 2 5,.nils]],[C [.str [98,97,115,101],.str [65,49]] 9 1],g 0,[(64,C [.str [98,97,115,101],.str [65,49]] 9 1)],9⟩,⟨[.agg [g 10,s 64 0 2 5,.nils]],[C [.str [98,97,115,101],.str [65,50]] 9 1],g 0,[(64,C [.str [98,97,115,101],.str [65,50]] 9 1)],9⟩,⟨[.agg [g 10,s 64 0 2 5,.nils]],[C [.str [98,97,115,101],.str [65,51]] 9 1],g 0,[(64,C [.str [98,97,115,101],.str [65,51]] 9 1)],9⟩,⟨[.agg [g 10,s 64 0 2 5,.nils]],[C [.str [98,97,115,101],.str [66,49]] 9 1],g 0,[(64,C [.str [98,97,115,101],.str [66,49]] 9 1)],9⟩,⟨[.agg [g 10,s 64 0 2 5,.nils]],[C [.str [98,97,115,101],.str [66,50]] 9 1],g 0,[(64,C [.str [98,97,115,101],.str [66,50]] 9 1)],9⟩,⟨[.agg [g 10,s 64 0 2 5,.nils]],[C [.str [98,97,115,101],.str [66,51]] 9 1],g 0,[(64,C [.str [98,97,115,101],.str [66,51]] 9 1)],9⟩,⟨[.agg [g 10,s 64 0 2 5,.nils]],[C [.str [98,97,115,101],.str [98,97,115,101]] 9 1],g 0,[(64,C [.str [98,97,115,101],.str [98,97,115,101]] 9 1)],9⟩]
def kM3:Kept:=[(49,N49_3)]
def kU3:T (List RM):=(p (q (p (p (q (l N49_3))))))
theorem kU3_eq:kU3=mkKept kM3:=by kernel_rfl
theorem kP3:chk kb2 10000 60 kL3=true:=by kernel_rfl
theorem kR3_49_0:chkR kb2 10000 60 49 ((N49_3.drop 0).take 69)=true:=by kernel_rfl
theorem kN3:chkRs kb2 10000 60 kM3=true:=by
 simp only [chkRs,kM3,List.all_cons,List.all_nil,Bool.and_true,Bool.and_eq_true]
 exact chkR_parts [(0,69)] (List.forall_mem_cons.2 ⟨kR3_49_0,(fun _ h=>by cases h)⟩) rfl
noncomputable def kb3:Tab:=kb2.over kT3 kU3
theorem kO3:TabOk kb3 Tryz.prog:=TabOk.over kO2 kT3 kU3
theorem kF3 {w0:Base} (hF:FnOk tb0 Tryz.prog w0):FnOk kb3 Tryz.prog w0:=FnOk.over kO2 (kF2 hF) kT3_eq kP3 kU3_eq kN3
def kL4:Memo:=[]
def kT4:T (List (List V × V)):=.e
theorem kT4_eq:kT4=mkMemo kL4:=by kernel_rfl
def N23_4:List RM:=[⟨[.str [121,111,117,110,103,101,114,32,107,48,32,116,104,97,110,32,107,48]],[],.tup [.agg [g 10,s 135 0 2 5,.nils],g 0],[(135,C [.str [107,48],.str [107,48]] 9 1)],82⟩,⟨[.str [121,111,117,110,103,101,114,32,107,48,32,116,104,97,110,32,107,49]],[],.tup [.agg [g 10,s 135 0 2 5,.nils],g 0],[(135,C [.str [107,48],.str [107,49]] 9 1)],82⟩,⟨[.str [121,111,117,110,103,101,114,32,107,48,32,116,104,97,110,32,66,49]],[],.tup [.agg [g 10,s 135 0 2 5,.nils],g 0],[(135,C [.str [107,48],.str [66,49]] 9 1)],82⟩,⟨[.str [121,111,117,110,103,101,114,32,107,48,32,116,104,97,110,32,66,50]],[],.tup [.agg [g 10,s 135 0 2 5,.nils],g 0],[(135,C [.str [107,48],.str [66,50]] 9 1)],82⟩,⟨[.str [121,111,117,110,103,101,114,32,107,48,32,116,104,97,110,32,66,51]],[],.tup [.agg [g 10,s 135 0 2 5,.nils],g 0],[(135,C [.str [107,48],.str [66,51]] 9 1)],82⟩,⟨[.str [121,111,117,110,103,101,114,32,107,48,32,116,104,97,110,32,98,97,115,101]],[],.tup [.agg [g 10,s 135 0 2 5,.nils],g 0],[(135,C [.str [107,48],.str [98,97,115,101]] 9 1)],82⟩,⟨[.str [121,111,117,110,103,101,114,32,107,49,32,116,104,97,110,32,107,48]],[],.tup [.agg [g 10,s 135 0 2 5,.nils],g 0],[(135,C [.str [107,49],.str [107,48]] 9 1)],82⟩,⟨[.str [121,111,117,110,103,101,114,32,107,49,32,116,104,97,110,32,107,49]],[],.tup [.agg [g 10,s 135 0 2 5,.nils],g 0],[(135,C [.str [107,49],.str [107,49]] 9 1)],82⟩,⟨[.str [121,111,117,110,103,101,114,32,107,49,32,116,104,97,110,32,65,49]],[],.tup [.agg [g 10,s 135 0 2 5,.nils],g 0],[(135,C [.str [107,49],.str [65,49]] 9 1)],82⟩,⟨[.str [121,111,117,110,103,101,114,32,107,49,32,116,104,97,110,32,65,50]],[],.tup [.agg [g 10,s 135 0 2 5,.nils],g 0],[(135,C [.str [107,49],.str [65,50]] 9 1)],82⟩,⟨[.str [121,111,117,110,103,101,114,32,107,49,32,116,104,97,110,32,65,51]],[],.tup [.agg [g 10,s 135 0 2 5,.nils],g 0],[(135,C [.str [107,49],.str [65,51]] 9 1)],82⟩,⟨[.str [121,111,117,110,103,101,114,32,107,49,32,116,104,97,110,32,98,97,115,101]],[],.tup [.agg [g 10,s 135 0 2 5,.nils],g 0],[(135,C [.str [107,49],.str [98,97,115,101]] 9 1)],82⟩,⟨[.str [121,111,117,110,103,101,114,32,65,49,32,116,104,97,110,32,107,49]],[],.tup [.agg [g 10,s 135 0 2 5,.nils],g 0],[(135,C [.str [65,49],.str [107,49]] 9 1)],82⟩,⟨[.str [121,111,117,110,103,101,114,32,65,49,32,116,104,97,110,32,65,49]],[],.tup [.agg [g 10,s 135 0 2 5,.nils],g 0],[(135,C [.str [65,49],.str [65,49]] 9 1)],82⟩,⟨[.str [121,111,117,110,103,101,114,32,65,49,32,116,104,97,110,32,65,50]],[],.tup [.agg [g 10,s 135 0 2 5,.nils],g 0],[(135,C [.str [65,49],.str [65,50]] 9 1)],82⟩,⟨[.str [121,111,117,110,103,101,114,32,65,49,32,116,104,97,110,32,65,51]],[],.tup [.agg [g 10,s 135 0 2 5,.nils],g 0],[(135,C [.str [65,49],.str [65,51]] 9 1)],82⟩,⟨[.str [121,111,117,110,103,101,114,32,65,49,32,116,104,97,110,32,66,49]],[],.tup [.agg [g 10,s 135 0 2 5,.nils],g 0],[(135,C [.str [65,49],.str [66,49]] 9 1)],82⟩,⟨[.str [121,111,117,110,103,101,114,32,65,49,32,116,104,97,110,32,66,50]],[],.tup [.agg [g 10,s 135 0 2 5,.nils],g 0],[(135,C [.str [65,49],.str [66,50]] 9 1)],82⟩,⟨[.str [121,111,117,110,103,101,114,32,65,49,32,116,104,97,110,32,66,51]],[],.tup [.agg [g 10,s 135 0 2 5,.nils],g 0],[(135,C [.str [65,49],.str [66,51]] 9 1)],82⟩,⟨[.str [121,111,117,110,103,101,114,32,65,49,32,116,104,97,110,32,98,97,115,101]],[],.tup [.agg [g 10,s 135 0 2 5,.nils],g 0],[(135,C [.str [65,49],.str [98,97,115,101]] 9 1)],82⟩,⟨[.str [121,111,117,110,103,101,114,32,65,50,32,116,104,97,110,32,107,49]],[],.tup [.agg [g 10,s 135 0 2 5,.nils],g 0],[(135,C [.str [65,50],.str [107,49]] 9 1)],82⟩,⟨[.str [121,111,117,110,103,101,114,32,65,50,32,116,104,97,110,32,65,49]],[],.tup [.agg [g 10,s 135 0 2 5,.nils],g 0],[(135,C [.str [65,50],.str [65,49]] 9 1)],82⟩,⟨[.str [121,111,117,110,103,101,114,32,65,50,32,116,104,97,110,32,65,50]],[],.tup [.agg [g 10,s 135 0 2 5,.nils],g 0],[(135,C [.str [65,50],.str [65,50]] 9 1)],82⟩,⟨[.str [121,111,117,110,103,101,114,32,65,50,32,116,104,97,110,32,65,51]],[],.tup [.agg [g 10,s 135 0 2 5,.nils],g 0],[(135,C [.str [65,50],.str [65,51]] 9 1)],82⟩,⟨[.str [121,111,117,110,103,101,114,32,65,50,32,116,104,97,110,32,66,49]],[],.tup [.agg [g 10,s 135 0 2 5,.nils],g 0],[(135,C [.str [65,50],.str [66,49]] 9 1)],82⟩,⟨[.str [121,111,117,110,103,101,114,32,65,50,32,116,104,97,110,32,66,50]],[],.tup [.agg [g 10,s 135 0 2 5,.nils],g 0],[(135,C [.str [65,50],.str [66,50]] 9 1)],82⟩,⟨[.str [121,111,117,110,103,101,114,32,65,50,32,116,104,97,110,32,66,51]],[],.tup [.agg [g 10,s 135 0 2 5,.nils],g 0],[(135,C [.str [65,50],.str [66,51]] 9 1)],82⟩,⟨[.str [121,111,117,110,103,101,114,32,65,50,32,116,104,97,110,32,98,97,115,101]],[],.tup [.agg [g 10,s 135 0 2 5,.nils],g 0],[(135,C [.str [65,50],.str [98,97,115,101]] 9 1)],82⟩,⟨[.str [121,111,117,110,103,101,114,32,65,51,32,116,104,97,110,32,107,49]],[],.tup [.agg [g 10,s 135 0 2 5,.nils],g 0],[(135,C [.str [65,51],.str [107,49]] 9 1)],82⟩,⟨[.str [121,111,117,110,103,101,114,32,65,51,32,116,104,97,110,32,65,49]],[],.tup [.agg [g 10,s 135 0 2 5,.nils],g 0],[(135,C [.str [65,51],.str [65,49]] 9 1)],82⟩,⟨[.str [121,111,117,110,103,101,114,32,65,51,32,116,104,97,110,32,65,50]],[],.tup [.agg [g 10,s 135 0 2 5,.nils],g 0],[(135,C [.str [65,51],.str [65,50]] 9 1)],82⟩,⟨[.str [121,111,117,110,103,101,114,32,65,51,32,116,104,97,110,32,65,51]],[],.tup [.agg [g 10,s 135 0 2 5,.nils],g 0],[(135,C [.str [65,51],.str [65,51]] 9 1)],82⟩,⟨[.str [121,111,117,110,103,101,114,32,65,51,32,116,104,97,110,32,66,49]],[],.tup [.agg [g 10,s 135 0 2 5,.nils],g 0],[(135,C [.str [65,51],.str [66,49]] 9 1)],82⟩,⟨[.str [121,111,117,110,103,101,114,32,65,51,32,116,104,97,110,32,66,50]],[],.tup [.agg [g 10,s 135 0 2 5,.nils],g 0],[(135,C [.str [65,51],.str [66,50]] 9 1)],82⟩,⟨[.str [121,111,117,110,103,101,114,32,65,51,32,116,104,97,110,32,66,51]],[],.tup [.agg [g 10,s 135 0 2 5,.nils],g 0],[(135,C [.str [65,51],.str [66,51]] 9 1)],82⟩,⟨[.str [121,111,117,110,103,101,114,32,65,51,32,116,104,97,110,32,98,97,115,101]],[],.tup [.agg [g 10,s 135 0 2 5,.nils],g 0],[(135,C [.str [65,51],.str [98,97,115,101]] 9 1)],82⟩,⟨[.str [121,111,117,110,103,101,114,32,66,49,32,116,104,97,110,32,107,48]],[],.tup [.agg [g 10,s 135 0 2 5,.nils],g 0],[(135,C [.str [66,49],.str [107,48]] 9 1)],82⟩,⟨[.str [121,111,117,110,103,101,114,32,66,49,32,116,104,97,110,32,65,49]],[],.tup [.agg [g 10,s 135 0 2 5,.nils],g 0],[(135,C [.str [66,49],.str [65,49]] 9 1)],82⟩,⟨[.str [121,111,117,110,103,101,114,32,66,49,32,116,104,97,110,32,65,50]],[],.tup [.agg [g 10,s 135 0 2 5,.nils],g 0],[(135,C [.str [66,49],.str [65,50]] 9 1)],82⟩,⟨[.str [121,111,117,110,103,101,114,32,66,49,32,116,104,97,110,32,65,51]],[],.tup [.agg [g 10,s 135 0 2 5,.nils],g 0],[(135,C [.str [66,49],.str [65,51]] 9 1)],82⟩,⟨[.str [121,111,117,110,103,101,114,32,66,49,32,116,104,97,110,32,66,49]],[],.tup [.agg [g 10,s 135 0 2 5,.nils],g 0],[(135,C [.str [66,49],.str [66,49]] 9 1)],82⟩,⟨[.str [121,111,117,110,103,101,114,32,66,49,32,116,104,97,110,32,66,50]],[],.tup [.agg [g 10,s 135 0 2 5,.nils],g 0],[(135,C [.str [66,49],.str [66,50]] 9 1)],82⟩,⟨[.str [121,111,117,110,103,101,114,32,66,49,32,116,104,97,110,32,66,51]],[],.tup [.agg [g 10,s 135 0 2 5,.nils],g 0],[(135,C [.str [66,49],.str [66,51]] 9 1)],82⟩,⟨[.str [121,111,117,110,103,101,114,32,66,49,32,116,104,97,110,32,98,97,115,101]],[],.tup [.agg [g 10,s 135 0 2 5,.nils],g 0],[(135,C [.str [66,49],.str [98,97,115,101]] 9 1)],82⟩,⟨[.str [121,111,117,110,103,101,114,32,66,50,32,116,104,97,110,32,107,48]],[],.tup [.agg [g 10,s 135 0 2 5,.nils],g 0],[(135,C [.str [66,50],.str [107,48]] 9 1)],82⟩,⟨[.str [121,111,117,110,103,101,114,32,66,50,32,116,104,97,110,32,65,49]],[],.tup [.agg [g 10,s 135 0 2 5,.nils],g 0],[(135,C [.str [66,50],.str [65,49]] 9 1)],82⟩,⟨[.str [121,111,117,110,103,101,114,32,66,50,32,116,104,97,110,32,65,50]],[],.tup [.agg [g 10,s 135 0 2 5,.nils],g 0],[(135,C [.str [66,50],.str [65,50]] 9 1)],82⟩,⟨[.str [121,111,117,110,103,101,114,32,66,50,32,116,104,97,110,32,65,51]],[],.tup [.agg [g 10,s 135 0 2 5,.nils],g 0],[(135,C [.str [66,50],.str [65,51]] 9 1)],82⟩,⟨[.str [121,111,117,110,103,101,114,32,66,50,32,116,104,97,110,32,66,49]],[],.tup [.agg [g 10,s 135 0 2 5,.nils],g 0],[(135,C [.str [66,50],.str [66,49]] 9 1)],82⟩,⟨[.str [121,111,117,110,103,101,114,32,66,50,32,116,104,97,110,32,66,50]],[],.tup [.agg [g 10,s 135 0 2 5,.nils],g 0],[(135,C [.str [66,50],.str [66,50]] 9 1)],82⟩,⟨[.str [121,111,117,110,103,101,114,32,66,50,32,116,104,97,110,32,66,51]],[],.tup [.agg [g 10,s 135 0 2 5,.nils],g 0],[(135,C [.str [66,50],.str [66,51]] 9 1)],82⟩,⟨[.str [121,111,117,110,103,101,114,32,66,50,32,116,104,97,110,32,98,97,115,101]],[],.tup [.agg [g 10,s 135 0 2 5,.nils],g 0],[(135,C [.str [66,50],.str [98,97,115,101]] 9 1)],82⟩,⟨[.str [121,111,117,110,103,101,114,32,66,51,32,116,104,97,110,32,107,48]],[],.tup [.agg [g 10,s 135 0 2 5,.nils],g 0],[(135,C [.str [66,51],.str [107,48]] 9 1)],82⟩,⟨[.str [121,111,117,110,103,101,114,32,66,51,32,116,104,97,110,32,65,49]],[],.tup [.agg [g 10,s 135 0 2 5,.nils],g 0],[(135,C [.str [66,51],.str [65,49]] 9 1)],82⟩,⟨[.str [121,111,117,110,103,101,114,32,66,51,32,116,104,97,110,32,65,50]],[],.tup [.agg [g 10,s 135 0 2 5,.nils],g 0],[(135,C [.str [66,51],.str [65,50]] 9 1)],82⟩,⟨[.str [121,111,117,110,103,101,114,32,66,51,32,116,104,97,110,32,65,51]],[],.tup [.agg [g 10,s 135 0 2 5,.nils],g 0],[(135,C [.str [66,51],.str [65,51]] 9 1)],82⟩,⟨[.str [121,111,117,110,103,101,114,32,66,51,32,116,104,97,110,32,66,49]],[],.tup [.agg [g 10,s 135 0 2 5,.nils],g 0],[(135,C [.str [66,51],.str [66,49]] 9 1)],82⟩,⟨[.str [121,111,117,110,103,101,114,32,66,51,32,116,104,97,110,32,66,50]],[],.tup [.agg [g 10,s 135 0 2 5,.nils],g 0],[(135,C [.str [66,51],.str [66,50]] 9 1)],82⟩,⟨[.str [121,111,117,110,103,101,114,32,66,51,32,116,104,97,110,32,66,51]],[],.tup [.agg [g 10,s 135 0 2 5,.nils],g 0],[(135,C [.str [66,51],.str [66,51]] 9 1)],82⟩,⟨[.str [121,111,117,110,103,101,114,32,66,51,32,116,104,97,110,32,98,97,115,101]],[],.tup [.agg [g 10,s 135 0 2 5,.nils],g 0],[(135,C [.str [66,51],.str [98,97,115,101]] 9 1)],82⟩,⟨[.str [121,111,117,110,103,101,114,32,98,97,115,101,32,116,104,97,110,32,107,48]],[],.tup [.agg [g 10,s 135 0 2 5,.nils],g 0],[(135,C [.str [98,97,115,101],.str [107,48]] 9 1)],82⟩,⟨[.str [121,111,117,110,103,101,114,32,98,97,115,101,32,116,104,97,110,32,107,49]],[],.tup [.agg [g 10,s 135 0 2 5,.nils],g 0],[(135,C [.str [98,97,115,101],.str [107,49]] 9 1)],82⟩,⟨[.str [121,111,117,110,103,101,114,32,98,97,115,101,32,116,104,97,110,32,65,49]],[],.tup [.agg [g 10,s 135 0 2 5,.nils],g 0],[(135,C [.str [98,97,115,101],.str [65,49]] 9 1)],82⟩,⟨[.str [121,111,117,110,103,101,114,32,98,97,115,101,32,116,104,97,110,32,65,50]],[],.tup [.agg [g 10,s 135 0 2 5,.nils],g 0],[(135,C [.str [98,97,115,101],.str [65,50]] 9 1)],82⟩,⟨[.str [121,111,117,110,103,101,114,32,98,97,115,101,32,116,104,97,110,32,65,51]],[],.tup [.agg [g 10,s 135 0 2 5,.nils],g 0],[(135,C [.str [98,97,115,101],.str [65,51]] 9 1)],82⟩,⟨[.str [121,111,117,110,103,101,114,32,98,97,115,101,32,116,104,97,110,32,66,49]],[],.tup [.agg [g 10,s 135 0 2 5,.nils],g 0],[(135,C [.str [98,97,115,101],.str [66,49]] 9 1)],82⟩,⟨[.str [121,111,117,110,103,101,114,32,98,97,115,101,32,116,104,97,110,32,66,50]],[],.tup [.agg [g 10,s 135 0 2 5,.nils],g 0],[(135,C [.str [98,97,115,101],.str [66,50]] 9 1)],82⟩,⟨[.str [121,111,117,110,103,101,114,32,98,97,115,101,32,116,104,97,110,32,66,51]],[],.tup [.agg [g 10,s 135 0 2 5,.nils],g 0],[(135,C [.str [98,97,115,101],.str [66,51]] 9 1)],82⟩,⟨[.str [121,111,117,110,103,101,114,32,98,97,115,101,32,116,104,97,110,32,98,97,115,101]],[],.tup [.agg [g 10,s 135 0 2 5,.nils],g 0],[(135,C [.str [98,97,115,101],.str [98,97,115,101]] 9 1)],82⟩]
def kM4:Kept:=[(23,N23_4)]
def kU4:T (List RM):=(p (p (p (q (l N23_4)))))
theorem kU4_eq:kU4=mkKept kM4:=by kernel_rfl
theorem kP4:chk kb3 10000 60 kL4=true:=by kernel_rfl
theorem kR4_23_0:chkR kb3 10000 60 23 ((N23_4.drop 0).take 15)=true:=by kernel_rfl
theorem kR4_23_1:chkR kb3 10000 60 23 ((N23_4.drop 15).take 15)=true:=by kernel_rfl
theorem kR4_23_2:chkR kb3 10000 60 23 ((N23_4.drop 30).take 15)=true:=by kernel_rfl
theorem kR4_23_3:chkR kb3 10000 60 23 ((N23_4.drop 45).take 15)=true:=by kernel_rfl
theorem kR4_23_4:chkR kb3 10000 60 23 ((N23_4.drop 60).take 9)=true:=by kernel_rfl
theorem kN4:chkRs kb3 10000 60 kM4=true:=by
 simp only [chkRs,kM4,List.all_cons,List.all_nil,Bool.and_true,Bool.and_eq_true]
 exact chkR_parts [(0,15),(15,15),(30,15),(45,15),(60,9)] (List.forall_mem_cons.2 ⟨kR4_23_0,(List.forall_mem_cons.2 ⟨kR4_23_1,(List.forall_mem_cons.2 ⟨kR4_23_2,(List.forall_mem_cons.2 ⟨kR4_23_3,(List.forall_mem_cons.2 ⟨kR4_23_4,(fun _ h=>by cases h)⟩)⟩)⟩)⟩)⟩) rfl
noncomputable def kb4:Tab:=kb3.over kT4 kU4
theorem kO4:TabOk kb4 Tryz.prog:=TabOk.over kO3 kT4 kU4
theorem kF4 {w0:Base} (hF:FnOk tb0 Tryz.prog w0):FnOk kb4 Tryz.prog w0:=FnOk.over kO3 (kF3 hF) kT4_eq kP4 kU4_eq kN4
noncomputable def keptAsk:List (Nat × List RM):=[(23,N23_4),(49,N49_3),(47,N47_1)]
def memoAsk:Memo:=[(23,P23_3),(49,P49_2)]
theorem keptAsk_ok {w0:Base} (hF:FnOk tb0 Tryz.prog w0):∀ p∈keptAsk,AllR Tryz.prog w0 p.1 p.2:=fun p hp=>by
 simp only [keptAsk,List.mem_cons,List.not_mem_nil,or_false] at hp
 rcases hp with rfl | rfl | rfl
 ·exact ((chkRs_ok kO3 (kF3 hF) kN4) (23,N23_4) (by simp [kM4]))
 ·exact ((chkRs_ok kO2 (kF2 hF) kN3) (49,N49_3) (by simp [kM3]))
 ·exact ((chkRs_ok tabOk hF kN1) (47,N47_1) (by simp [kM1]))
theorem memoAsk_ok {w0:Base} (hF:FnOk tb0 Tryz.prog w0):Memos Tryz.prog w0 memoAsk:=fun p hp=>by
 simp only [memoAsk,List.mem_cons,List.not_mem_nil,or_false] at hp
 rcases hp with rfl | rfl
 ·exact ((chk_ok kO2 (kF2 hF) kP3) (23,P23_3) (by simp [kL3]))
 ·exact ((chk_ok kO1 (kF1 hF) kP2) (49,P49_2) (by simp [kL2]))
end Go.Proofs.YtkjinnjopoehhaaGreatDoor.Ask
namespace Go.Proofs.YtkjinnjopoehhaaGreatDoor
open Go.RowKit Go Ev Klp Ask
def syA:Code→Code | .seq a _=>a | c=>c
def syB:Code→Code | .seq _ b=>b | c=>c
noncomputable def bodyY:Code:=Tryz.f3.body.getD .skip
noncomputable def headY1:Code:=syA bodyY
noncomputable def headY2:Code:=syA (syB bodyY)
noncomputable def headY3:Code:=syA (syB (syB bodyY))
noncomputable def restY:Code:=syB (syB (syB bodyY))
def LawY (w:World) (e:Ending) (w':World):Prop:=e = .returned (.bool true)∧Grew w w' ∧ ∀ b,b<w.heap.size→w'.heap[b]? = w.heap[b]?
noncomputable def cxY:CX:=⟨T.ofList .e 0 ((List.range 68).map .opq),.e,[],[],[]⟩
def modY (l:List Nat):List V:=[syC 64,syC 65,.str [98,97,115,101],evsH l,syC 66,syC 67]
def memoY (l:List Nat):Memo:=[(12,[([.agg (modY l)],.int .i64 0)]),(27,[([.agg ((modY l).take 4)],.int .i64 0)])]
def unitsE (e sh:Nat):List (List UInt8):=cond (Nat.blt sh 3) (unitsB e sh) (cond (Nat.beq sh 5) [dikeB e 5] [])
def unitsFrom:Nat→List Nat→List (List UInt8)
 | _,[]=>[]
 | e,sh::l=>unitsE e sh++unitsFrom (e+1) l
def rankFrom (h:V):Nat→List (List UInt8)→List (List V × V)
 | _,[]=>[]
 | i,u::l=>([h,.str u],.tup [.int .i64 (Int.ofNat i),.int .i64 0])::rankFrom h (i+1) l
def rankRows (l:List Nat):List (List V × V):=rankFrom (.agg ((modY l).take 4)) 0 ([98,97,115,101]::unitsFrom 0 l)
noncomputable def kitR (l:List Nat):Kit:=⟨cxY,[],[],.e,tmk (memoY l),.e,tmk (glH l),⟨[],[],[]⟩⟩
noncomputable def runR (l:List Nat):Bool:=chkF (kitR l).tab 10000 60 102 (rankRows l)
noncomputable def kitY (l:List Nat):Kit:=⟨cxY,[],[],.e,tmk (memoAsk++(memoY l++[(102,rankRows l)])),tmk keptAsk,tmk (glH l),⟨[],[],[]⟩⟩
noncomputable def sY (l:List Nat):S:={ t:=T.e.set 3 (.ptr 64 0),h:=boxH 64 [(modY l,47)],nx:=65,m:=[] }
noncomputable def runY (l:List Nat):Bool:=runR l&&match tailRun (kitY l).tab 10000 60 Tryz.f3 restY (sY l) with
 | some rs=>rs.all fun r=>V.eq r.1 (.bool true)
 | none=>false
theorem chkR_Y (l:List Nat):(kitR l).chk=true:=rfl
theorem chkY (l:List Nat):(kitY l).chk=true:=rfl
set_option maxRecDepth 100000
theorem runY_0:runY []=true:=by kernel_rfl
theorem runY_1:((List.range 7).all fun a=>runY [a])=true:=by kernel_rfl
theorem runY_20a:([0,1].all fun b=>runY [0,b])=true:=by kernel_rfl
theorem runY_20b:([2,3].all fun b=>runY [0,b])=true:=by kernel_rfl
theorem runY_20c:([4,5,6].all fun b=>runY [0,b])=true:=by kernel_rfl
theorem runY_21a:([0,1].all fun b=>runY [1,b])=true:=by kernel_rfl
theorem runY_21b:([2,3].all fun b=>runY [1,b])=true:=by kernel_rfl
theorem runY_21c:([4,5,6].all fun b=>runY [1,b])=true:=by kernel_rfl
theorem runY_22a:([0,1].all fun b=>runY [2,b])=true:=by kernel_rfl
theorem runY_22b:([2,3].all fun b=>runY [2,b])=true:=by kernel_rfl
theorem runY_22c:([4,5,6].all fun b=>runY [2,b])=true:=by kernel_rfl
theorem runY_23a:([0,1].all fun b=>runY [3,b])=true:=by kernel_rfl
theorem runY_23b:([2,3].all fun b=>runY [3,b])=true:=by kernel_rfl
theorem runY_23c:([4,5,6].all fun b=>runY [3,b])=true:=by kernel_rfl
theorem runY_24a:([0,1].all fun b=>runY [4,b])=true:=by kernel_rfl
theorem runY_24b:([2,3].all fun b=>runY [4,b])=true:=by kernel_rfl
theorem runY_24c:([4,5,6].all fun b=>runY [4,b])=true:=by kernel_rfl
theorem runY_25a:([0,1].all fun b=>runY [5,b])=true:=by kernel_rfl
theorem runY_25b:([2,3].all fun b=>runY [5,b])=true:=by kernel_rfl
theorem runY_25c:([4,5,6].all fun b=>runY [5,b])=true:=by kernel_rfl
theorem runY_26a:([0,1].all fun b=>runY [6,b])=true:=by kernel_rfl
theorem runY_26b:([2,3].all fun b=>runY [6,b])=true:=by kernel_rfl
theorem runY_26c:([4,5,6].all fun b=>runY [6,b])=true:=by kernel_rfl
theorem runY_2 {a b:Nat} (ha:a<7) (hb:b<7):runY [a,b]=true:=by
 have h1:a=0∨a=1∨a=2∨a=3∨a=4∨a=5∨a=6:=by omega
 have h2:b=0∨b=1∨b=2∨b=3∨b=4∨b=5∨b=6:=by omega
 rcases h1 with rfl | rfl | rfl | rfl | rfl | rfl | rfl <;> rcases h2 with rfl | rfl | rfl | rfl | rfl | rfl | rfl
 ·exact List.all_eq_true.1 runY_20a 0 (by decide)
 ·exact List.all_eq_true.1 runY_20a 1 (by decide)
 ·exact List.all_eq_true.1 runY_20b 2 (by decide)
 ·exact List.all_eq_true.1 runY_20b 3 (by decide)
 ·exact List.all_eq_true.1 runY_20c 4 (by decide)
 ·exact List.all_eq_true.1 runY_20c 5 (by decide)
 ·exact List.all_eq_true.1 runY_20c 6 (by decide)
 ·exact List.all_eq_true.1 runY_21a 0 (by decide)
 ·exact List.all_eq_true.1 runY_21a 1 (by decide)
 ·exact List.all_eq_true.1 runY_21b 2 (by decide)
 ·exact List.all_eq_true.1 runY_21b 3 (by decide)
 ·exact List.all_eq_true.1 runY_21c 4 (by decide)
 ·exact List.all_eq_true.1 runY_21c 5 (by decide)
 ·exact List.all_eq_true.1 runY_21c 6 (by decide)
 ·exact List.all_eq_true.1 runY_22a 0 (by decide)
 ·exact List.all_eq_true.1 runY_22a 1 (by decide)
 ·exact List.all_eq_true.1 runY_22b 2 (by decide)
 ·exact List.all_eq_true.1 runY_22b 3 (by decide)
 ·exact List.all_eq_true.1 runY_22c 4 (by decide)
 ·exact List.all_eq_true.1 runY_22c 5 (by decide)
 ·exact List.all_eq_true.1 runY_22c 6 (by decide)
 ·exact List.all_eq_true.1 runY_23a 0 (by decide)
 ·exact List.all_eq_true.1 runY_23a 1 (by decide)
 ·exact List.all_eq_true.1 runY_23b 2 (by decide)
 ·exact List.all_eq_true.1 runY_23b 3 (by decide)
 ·exact List.all_eq_true.1 runY_23c 4 (by decide)
 ·exact List.all_eq_true.1 runY_23c 5 (by decide)
 ·exact List.all_eq_true.1 runY_23c 6 (by decide)
 ·exact List.all_eq_true.1 runY_24a 0 (by decide)
 ·exact List.all_eq_true.1 runY_24a 1 (by decide)
 ·exact List.all_eq_true.1 runY_24b 2 (by decide)
 ·exact List.all_eq_true.1 runY_24b 3 (by decide)
 ·exact List.all_eq_true.1 runY_24c 4 (by decide)
 ·exact List.all_eq_true.1 runY_24c 5 (by decide)
 ·exact List.all_eq_true.1 runY_24c 6 (by decide)
 ·exact List.all_eq_true.1 runY_25a 0 (by decide)
 ·exact List.all_eq_true.1 runY_25a 1 (by decide)
 ·exact List.all_eq_true.1 runY_25b 2 (by decide)
 ·exact List.all_eq_true.1 runY_25b 3 (by decide)
 ·exact List.all_eq_true.1 runY_25c 4 (by decide)
 ·exact List.all_eq_true.1 runY_25c 5 (by decide)
 ·exact List.all_eq_true.1 runY_25c 6 (by decide)
 ·exact List.all_eq_true.1 runY_26a 0 (by decide)
 ·exact List.all_eq_true.1 runY_26a 1 (by decide)
 ·exact List.all_eq_true.1 runY_26b 2 (by decide)
 ·exact List.all_eq_true.1 runY_26b 3 (by decide)
 ·exact List.all_eq_true.1 runY_26c 4 (by decide)
 ·exact List.all_eq_true.1 runY_26c 5 (by decide)
 ·exact List.all_eq_true.1 runY_26c 6 (by decide)
theorem restY_dst:dstOk 68 restY=true:=by kernel_rfl
def oY (m0 m1 tv fv:Value) (l:List (List Value)) (j:Nat):Value:=if j=64 then m0 else if j=65 then m1 else if j=66 then tv else if j=67 then fv else (((l[j/32]?).getD [])[j%32]?).getD .nilFunc
theorem symY {m0 m1 tv fv:Value} {l:List (List Value)} {j:Nat} (hj:j<68):symX (fun _=>0) (oY m0 m1 tv fv l) cxY.tab j=oY m0 m1 tv fv l j:=by
 unfold symX cxY
 simp only [T.get_ofList]
 rw [if_pos (by simp; omega)]
 simp [hj]
theorem oY_ev {m0 m1 tv fv:Value} {l:List (List Value)} {e j:Nat} {ls:List Value} (he:l[e]? = some ls) (h2:e<2) (hj:j<32):oY m0 m1 tv fv l (32*e+j)=(ls[j]?).getD .nilFunc:=by
 unfold oY
 rw [if_neg (by omega),if_neg (by omega),if_neg (by omega),if_neg (by omega),show (32*e+j)/32=e from by omega,show (32*e+j)%32=j from by omega,he]
 rfl
set_option maxHeartbeats 1000000 in
theorem tailY_run {M:Mem} (hg:Good M) {m0 m1 tv fv:Value} (hm0:oneV m0) (hm1:oneV m1) (htv:oneV tv) (hfv:oneV fv) {evs:List (Nat × List Value)} (hl:evs.length≤2)
  (hsh:∀ p∈evs,p.1<7) (he:∀ (k:Nat) (p:Nat × List Value),evs[k]? = some p→EvRaw M (.agg #[m0,m1]) k p.1 p.2) {sv:Value} (hs:EvsRaw M evs sv)
  (hh:CallOk Tryz.prog M 27 [.agg #[m0,m1,strB [98,97,115,101],sv]] (.int .i64 0)) (hq:CallOk Tryz.prog M 12 [.agg #[m0,m1,strB [98,97,115,101],sv,tv,fv]] (.int .i64 0))
  {w w1:World} {a:Act} {p3:Nat} (hon:M.On w1) (ts:a.tmps.size=68) (t3:a.tmps[3]? = some (.pointer (some ⟨p3,0,none⟩))) (hdf:a.defers=[])
  (hb3:w1.heap[p3]? = some (.cells #[m0,m1,strB [98,97,115,101],sv,tv,fv] 47 (0,0))) (z3:¬ (p3<M.heap.size∧M.frz p3)) (hgr:Grew w w1) (hfr:∀ b,b<w.heap.size→w1.heap[b]? = w.heap[b]?) (q3:w.heap.size≤p3) :
  restY.wp Tryz.prog (bodyPost Tryz.prog Tryz.f3 (LawY w)) a w1:=by
 have hinfo:∀ k:Nat,∃ i:Info,∀ p:Nat × List Value,evs[k]? = some p→(∀ b c,p.2[3]? = some (.slice (some ⟨b,0,none⟩) (p.1+1) c)→p.1<3→i.blk=b∧capOf i 0 (2*(p.1+1)+1)=c):=by
  intro k
  cases hk:evs[k]? with
  | none=>exact⟨{ blk:=0,size:=0,unit:=0 },(fun p hp=>by cases hp)⟩
  | some p=>
   obtain⟨i,hi⟩:=unitInfo (he k p hk)
   exact⟨i,fun q hq=>by cases hq; exact hi⟩
 have hinfo':=fun k=>Classical.indefiniteDescription _ (hinfo k)
 have hei:∃ i:Info,(evs=[]∧sv = .slice none 0 0)∨(evs≠[]∧sv = .slice (some ⟨i.blk,0,none⟩) evs.length (capOf i 0 (2*evs.length+1)) ∧ ∃ rc t fr rest,M.frz i.blk∧M.heap[i.blk]? = some (.cells rc t fr)∧rc.toList=(evs.map (·.2)).flatten++rest):=by
  rcases hs with h | ⟨h0,b,c,rc,t,fr,rest,h1,h2,hz,h3,h4⟩
  ·exact⟨{ blk:=0,size:=0,unit:=0 },.inl h⟩
  ·refine⟨{ blk:=b,size:=c,unit:=1 },.inr ⟨h0,?_,rc,t,fr,rest,hz,h3,h4⟩⟩
   rw [h1]
   unfold capOf
   rw [if_neg (by omega)]
   simp only [Nat.sub_zero,Nat.div_one]
   congr 1
   omega
 obtain⟨iE,hE⟩:=hei
 let o:=oY m0 m1 tv fv (evs.map (·.2))
 let st:Nat→Info:=fun g=>if g=32 then iE else (hinfo' (g-33)).1
 let w0:Base:={ toMem:=M,sym:=symX (fun _=>0) o cxY.tab,stat:=st }
 have ho:∀ j,oneV (o j):=by
  intro j
  show oneV (oY _ _ _ _ _ j)
  unfold oY
  split
  ·exact hm0
  ·split
   ·exact hm1
   ·split
    ·exact htv
    ·split
     ·exact hfv
     ·cases h1:(evs.map (·.2))[j/32]? with
      | none=>simp; trivial
      | some ls=>
       rw [List.getElem?_map] at h1
       cases h2:evs[j/32]? with
       | none=>rw [h2] at h1; cases h1
       | some p=>
        rw [h2] at h1
        cases h1
        simp only [Option.getD_some]
        cases h3:p.2[j%32]? with
        | none=>trivial
        | some x=>exact (he _ _ h2).one x (List.mem_of_getElem? h3)
 have hone:∀ i,oneV (w0.sym i):=fun i=>symX_one ho i
 have key:∀ E,StatOk w0 E→(∀ (k:Nat) (p:Nat × List Value),evs[k]? = some p→VRL E (leafsS k p.1) p.2)∧VRL E [syC 64,syC 65,syC 66,syC 67] [m0,m1,tv,fv]:=by
  intro E hE
  have sy:∀ j,j<68→E.sym j=o j:=fun j hj=>by rw [hE.sym]; exact symY hj
  refine⟨fun k p hk => ?_,?_⟩
  ·have hk2:k<2:=by have:=(List.getElem?_eq_some_iff.1 hk).1; omega
   refine leafs_ok (he k p hk) (fun j hj => ?_) (fun b c h1 h2 => ?_)
   ·rw [sy _ (by omega)]
    exact oY_ev (by rw [List.getElem?_map,hk]; rfl) hk2 hj
   ·have h3:=(hinfo' k).2 p hk b c h1 h2
    refine⟨st (33+k),hE.stat _ (by omega) (by omega),?_⟩
    show (if 33+k=32 then iE else (hinfo' (33+k-33)).1).blk=b∧capOf (if 33+k=32 then iE else (hinfo' (33+k-33)).1) 0 _=c
    rw [if_neg (by omega),show 33+k-33=k from by omega]
    exact h3
  ·refine VRL.cons ?_ (VRL.cons ?_ (VRL.cons ?_ (VRL.cons ?_ VRL.nil)))
   ·show m0=E.sym 64
    rw [sy 64 (by omega)]; rfl
   ·show m1=E.sym 65
    rw [sy 65 (by omega)]; rfl
   ·show tv=E.sym 66
    rw [sy 66 (by omega)]; rfl
   ·show fv=E.sym 67
    rw [sy 67 (by omega)]; rfl
 have hevK:∀ E,StatOk w0 E→VRL E (cellsH 0 (evs.map (·.1))) ((evs.map (·.2)).flatten):=fun E hE=>cells_ok fun k p hk=>by rw [Nat.zero_add]; exact (key E hE).1 k p hk
 have h32:32<64:=by omega
 have hsv:∀ E,StatOk w0 E→VR E (evsH (evs.map (·.1))) sv:=fun E hE'=>by
  rcases hE with⟨h0,rfl⟩ | ⟨h0,hsv,_⟩
  ·subst h0; rfl
  ·have e1:evsH (evs.map (·.1)) = .slice 32 0 evs.length (2*evs.length+1):=by
    cases hev:evs with
    | nil=>exact absurd hev h0
    | cons a b=>simp [evsH]
   rw [e1]
   refine⟨iE,?_,hsv⟩
   rw [hE'.stat 32 (by omega) (by omega)]
   rfl
 have vmod:∀ E,StatOk w0 E→VRL E (modY (evs.map (·.1))) [m0,m1,strB [98,97,115,101],sv,tv,fv]:=fun E hE'=>by
  obtain⟨_,_,e0,v0,_,_,e1,v1,_,_,e2,v2,_,_,e3,v3,_⟩:=(key E hE').2
  cases e0; cases e1; cases e2; cases e3
  exact VRL.cons v0 (VRL.cons v1 (VRL.cons rfl (VRL.cons (hsv E hE') (VRL.cons v2 (VRL.cons v3 VRL.nil)))))
 have hmo:Memos Tryz.prog w0 (memoY (evs.map (·.1))):=memos_cons (hq.contract (args:=[.agg (modY (evs.map (·.1)))]) (v:=.int .i64 0) (Mem.Le.refl _) (fun E hE'=>VRL.cons ⟨_,vmod E hE',rfl⟩ VRL.nil) fun E hE'=>rfl)
  (memos_cons (hh.contract (args:=[.agg ((modY (evs.map (·.1))).take 4)]) (v:=.int .i64 0) (Mem.Le.refl _) (fun E hE'=>VRL.cons ⟨_,(vmod E hE').take 4,rfl⟩ VRL.nil) fun E hE'=>rfl) memos_nil)
 have hR:KitOk w0 (fun _=>0) o (kitR (evs.map (·.1))):=by
  refine⟨⟨(fun _ _ _=>rfl),(fun v => ?_),(fun f hf=>by cases hf),(fun r hr=>by cases hr),(fun p hp=>by cases hp),ho,hg.pow _ _,hg.tabs⟩,(fun f args v hv => ?_),(fun f es he => ?_),(fun n cs hn => ?_),(fun p hp=>by cases hp),(fun p hp=>by cases hp),(fun p hp=>by cases hp)⟩
  ·show Iv.has ((T.get .e v).getD (0,0)) 0
   rw [T.get_e]; exact⟨Int.le_refl _,Int.le_refl _⟩
  ·exact tmk_prim hmo hv
  ·simp [kitR,T.get_e] at he
  ·replace hn:(tmk (glH (evs.map fun x=>x.1))).get n=some cs:=hn
   have hmm:=tmk_mem hn
   rcases List.mem_append.1 hmm with hmm | hmm
   ·rcases hE with⟨h0,_⟩ | ⟨_,_,rc,t,fr,rest,hz,h3,h4⟩
    ·rw [h0] at hmm; cases hmm
    ·have hmm:(n,cs)∈[(32,cellsH 0 (evs.map (·.1)))]:=by
      cases he0:evs.map (·.1) with
      | nil=>rw [he0] at hmm; cases hmm
      | cons a b=>rw [he0] at hmm; exact hmm
     cases List.mem_singleton.1 hmm
     have hst:w0.stat 32=iE:=rfl
     refine⟨by omega,by omega,?_,?_,rc,t,fr,?_,fun E hE=>⟨_,rest,hevK E hE,h4⟩⟩
     ·rw [hst]; exact (Array.getElem?_eq_some_iff.1 h3).1
     ·rw [hst]; exact hz
     ·rw [hst]; exact h3
   ·obtain⟨k,sh,h1,h2,h3⟩:=unitsH_mem hmm
    cases h3
    rw [Nat.zero_add]
    rw [List.getElem?_map] at h1
    cases h4:evs[k]? with
    | none=>rw [h4] at h1; cases h1
    | some q=>
     rw [h4] at h1
     cases h1
     have hk2:k<2:=by have:=(List.getElem?_eq_some_iff.1 h4).1; omega
     obtain⟨b,c,rc,t,fr,rest,g1,g2,gz,g3,g4⟩:=(he k q h4).units h2
     obtain⟨hb,_⟩:=(hinfo' k).2 q h4 b c g1 h2
     have hst:(w0.stat (33+k)).blk=b:=by
      show (if 33+k=32 then iE else (hinfo' (33+k-33)).1).blk=b
      rw [if_neg (by omega),show 33+k-33=k from by omega]; exact hb
     refine⟨by omega,by omega,?_,?_,rc,t,fr,?_,fun E hE=>⟨_,rest,strs_ok _,g4⟩⟩
     ·rw [hst]; exact (Array.getElem?_eq_some_iff.1 g3).1
     ·rw [hst]; exact gz
     ·rw [hst]; exact g3
 have hlist:runY (evs.map (·.1))=true:=by
  match evs,hl,hsh with
  | [],_,_=>exact runY_0
  | [p],_,hsh=>exact List.all_eq_true.1 runY_1 p.1 (List.mem_range.2 (hsh p (by simp)))
  | [p,q],_,hsh=>exact runY_2 (hsh p (by simp)) (hsh q (by simp))
  | _::_::_::_,h,_=>exact absurd h (by simp)
 simp only [runY,Bool.and_eq_true] at hlist
 obtain⟨hrank,hlist⟩:=hlist
 have hF0:FnOk tb0 Tryz.prog w0:=fnOk (hg.pow _ _)
 have hmo2:Memos Tryz.prog w0 (memoAsk++(memoY (evs.map (·.1))++[(102,rankRows (evs.map (·.1)))])):=(memoAsk_ok hF0).append (hmo.append (memos_more (fun p hp=>Kit.runs hR (chkR_Y _) hrank p hp) memos_nil))
 have hK:KitOk w0 (fun _=>0) o (kitY (evs.map (·.1))):=⟨hR.case_,(fun f args v hv=>tmk_prim hmo2 hv),(fun f es he e hm=>keptAsk_ok hF0 (f,es) (tmk_mem he) e hm),hR.gl,(fun p hp=>by cases hp),(fun p hp=>by cases hp),(fun p hp=>by cases hp)⟩
 have hck:=chkY (evs.map (·.1))
 generalize kitY (evs.map (·.1))=K at *
 let bs:List Box:=[⟨p3,modY (evs.map (·.1)),[m0,m1,strB [98,97,115,101],sv,tv,fv],47⟩]
 have hbs:BoxesOk w0 w1 bs:=by
  refine⟨hon,fun b hb => ?_,fun b hb E hE' => ?_,fun i j x y hi hj he => ?_,fun b hb => ?_⟩
  ·rw [List.mem_singleton.1 hb]; exact hb3
  ·rw [List.mem_singleton.1 hb]
   exact vmod E hE'
  ·match i,j,hi,hj with
   | 0,0,_,_=>rfl
   | n+1,_,hi,_=>simp [bs] at hi
   | 0,n+1,_,hj=>simp [bs] at hj
  ·rw [List.mem_singleton.1 hb]; exact z3
 have hok:=boxes_ok (h:=hone) hbs
 have hfoot:∀ b,Foot (boxE w0 hone bs) (sY (evs.map (·.1))).h.get b→b=p3:=by
  intro b hf
  obtain⟨x,hx,rfl⟩:=boxes_foot (l:=bs) hf
  rw [List.mem_singleton.1 hx]
 have htr:TR (boxE w0 hone bs) (sY (evs.map (·.1))).t a.tmps:=by
  intro k v hk
  have hk:((T.e:T V).set 3 (.ptr 64 0)).get k=some v:=hk
  rw [T.get_set] at hk
  by_cases c3:k=3
  ·rw [if_pos c3] at hk; cases hk; subst c3; exact⟨_,t3,_,boxE_at (j:=0) rfl,rfl⟩
  ·rw [if_neg c3,T.get_e] at hk; cases hk
 split at hlist
 ·rename_i rs hrs
  refine tail_wp K.tabOk (K.fnOk hK hck) hrs hok htr rfl hdf (by rw [ts]; exact restY_dst) fun r hr x E' w' hx hst => ?_
  have hro:=V.eq_eq _ _ (List.all_eq_true.1 hlist r hr)
  rw [hro] at hx
  refine⟨by rw [show x = .bool true from hx],hgr.trans hst.grew,fun b hb => ?_⟩
  rw [hst.frame b (Nat.lt_of_lt_of_le hb hgr.size) (fun hf=>by have:=hfoot b hf; omega),hfr b hb]
 ·cases hlist
end Go.Proofs.YtkjinnjopoehhaaGreatDoor
