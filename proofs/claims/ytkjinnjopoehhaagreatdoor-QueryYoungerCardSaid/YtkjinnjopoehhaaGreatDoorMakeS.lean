/-
  klippelaw30.Make behind its mesh, at all shapes of at most three deeds.
-/
import Derived.Test.YtkjinnjopoehhaaGreatDoorMakeZ
import Derived.Test.YtkjinnjopoehhaaGreatDoorDealP
import Derived.Test.YtkjinnjopoehhaaGreatDoorSimA
import Derived.Test.YtkjinnjopoehhaaGreatDoorMakeR3A
import Derived.Test.YtkjinnjopoehhaaGreatDoorMakeR3B
import Derived.Test.YtkjinnjopoehhaaGreatDoorMakeR4A
import Derived.Test.YtkjinnjopoehhaaGreatDoorMakeR4B
import Derived.Test.YtkjinnjopoehhaaGreatDoorMakeR5A
import Derived.Test.YtkjinnjopoehhaaGreatDoorMakeR5B
import Derived.Test.YtkjinnjopoehhaaGreatDoorMakeR6A
import Derived.Test.YtkjinnjopoehhaaGreatDoorMakeR6B
set_option linter.unusedSectionVars false
set_option linter.unusedVariables false
set_option linter.unusedSimpArgs false
namespace Go.Proofs.YtkjinnjopoehhaaGreatDoor
open Go Ev Klp
noncomputable def SS (e np:Nat):List DealT:=lA e np++(lB e np++lC e np)
def goodNp (n:Nat):Prop:=n=3∨n=4∨n=5∨n=6
theorem all_app {f:DealT→Bool} {a b c:List DealT} (h1:a.all f=true) (h2:b.all f=true) (h3:c.all f=true):(a++(b++c)).all f=true:=by
 rw [List.all_append,List.all_append,h1,h2,h3]; rfl
theorem SS_ok_all {e np:Nat} (he:e<3) (hn:goodNp np):(SS e np).all DealT.ok=true:=by
 rcases (by omega:e=0∨e=1∨e=2) with rfl | rfl | rfl <;> rcases hn with rfl | rfl | rfl | rfl
 ·exact all_app (okA0 3) (okB0 3) okC0_3
 ·exact all_app (okA0 4) (okB0 4) okC0_4
 ·exact all_app (okA0 5) (okB0 5) okC0_5
 ·exact all_app (okA0 6) (okB0 6) okC0_6
 ·exact all_app (okA1 3) (okB1 3) okC1_3
 ·exact all_app (okA1 4) (okB1 4) okC1_4
 ·exact all_app (okA1 5) (okB1 5) okC1_5
 ·exact all_app (okA1 6) (okB1 6) okC1_6
 ·exact all_app (okA2 3) (okB2 3) okC2_3
 ·exact all_app (okA2 4) (okB2 4) okC2_4
 ·exact all_app (okA2 5) (okB2 5) okC2_5
 ·exact all_app (okA2 6) (okB2 6) okC2_6
theorem SS_x_all {e np:Nat} (he:e<3) (hn:goodNp np):(SS e np).all DealT.okX=true:=by
 rcases (by omega:e=0∨e=1∨e=2) with rfl | rfl | rfl <;> rcases hn with rfl | rfl | rfl | rfl
 ·exact all_app (xA0 3) (xB0 3) xC0_3
 ·exact all_app (xA0 4) (xB0 4) xC0_4
 ·exact all_app (xA0 5) (xB0 5) xC0_5
 ·exact all_app (xA0 6) (xB0 6) xC0_6
 ·exact all_app (xA1 3) (xB1 3) xC1_3
 ·exact all_app (xA1 4) (xB1 4) xC1_4
 ·exact all_app (xA1 5) (xB1 5) xC1_5
 ·exact all_app (xA1 6) (xB1 6) xC1_6
 ·exact all_app (xA2 3) (xB2 3) xC2_3
 ·exact all_app (xA2 4) (xB2 4) xC2_4
 ·exact all_app (xA2 5) (xB2 5) xC2_5
 ·exact all_app (xA2 6) (xB2 6) xC2_6
theorem SS_own {e np:Nat} (hn:goodNp np):∀ d∈SS e np,(d.e=e∧d.np=np)∧shKind (shOf d.kind d.sub)=d.kind:=by
 intro d hd
 simp only [SS,lA,lB,List.mem_append,List.mem_cons,List.not_mem_nil,or_false] at hd
 rcases hd with hd | hd | hd
 ·rcases hd with rfl | rfl | rfl | rfl | rfl | rfl | rfl | rfl <;> exact⟨⟨rfl,rfl⟩,rfl⟩
 ·rcases hd with rfl | rfl | rfl | rfl | rfl | rfl <;> exact⟨⟨rfl,rfl⟩,rfl⟩
 ·rcases hn with rfl | rfl | rfl | rfl <;> simp only [lC,List.mem_cons,List.not_mem_nil,or_false] at hd <;> rcases hd with rfl | rfl | rfl <;> exact⟨⟨rfl,rfl⟩,rfl⟩
theorem SS_has {e np:Nat} (hn:goodNp np) {kind sub:Nat} (h:(kind=2∧sub=0)∨(kind=4∧sub=0)∨(kind=3∧sub<6)∨(kind=5∧sub<6)∨(kind=1∧sub<3)):∃ d∈SS e np,d.kind=kind∧d.sub=sub:=by
 have mem:∀ (i:Nat) (d:DealT),(SS e np)[i]? = some d→d∈SS e np:=fun i d h=>List.mem_of_getElem? h
 rcases h with⟨rfl,rfl⟩ | ⟨rfl,rfl⟩ | ⟨rfl,hs⟩ | ⟨rfl,hs⟩ | ⟨rfl,hs⟩
 ·exact⟨_,mem 0 _ rfl,rfl,rfl⟩
 ·exact⟨_,mem 1 _ rfl,rfl,rfl⟩
 ·rcases (by omega:sub=0∨sub=1∨sub=2∨sub=3∨sub=4∨sub=5) with rfl | rfl | rfl | rfl | rfl | rfl
  ·exact⟨_,mem 8 _ rfl,rfl,rfl⟩
  ·exact⟨_,mem 9 _ rfl,rfl,rfl⟩
  ·exact⟨_,mem 10 _ rfl,rfl,rfl⟩
  ·exact⟨_,mem 11 _ rfl,rfl,rfl⟩
  ·exact⟨_,mem 12 _ rfl,rfl,rfl⟩
  ·exact⟨_,mem 13 _ rfl,rfl,rfl⟩
 ·rcases (by omega:sub=0∨sub=1∨sub=2∨sub=3∨sub=4∨sub=5) with rfl | rfl | rfl | rfl | rfl | rfl
  ·exact⟨_,mem 2 _ rfl,rfl,rfl⟩
  ·exact⟨_,mem 3 _ rfl,rfl,rfl⟩
  ·exact⟨_,mem 4 _ rfl,rfl,rfl⟩
  ·exact⟨_,mem 5 _ rfl,rfl,rfl⟩
  ·exact⟨_,mem 6 _ rfl,rfl,rfl⟩
  ·exact⟨_,mem 7 _ rfl,rfl,rfl⟩
 ·rcases hn with rfl | rfl | rfl | rfl <;> rcases (by omega:sub=0∨sub=1∨sub=2) with rfl | rfl | rfl
  ·exact⟨_,mem 14 _ rfl,rfl,rfl⟩
  ·exact⟨_,mem 15 _ rfl,rfl,rfl⟩
  ·exact⟨_,mem 16 _ rfl,rfl,rfl⟩
  ·exact⟨_,mem 14 _ rfl,rfl,rfl⟩
  ·exact⟨_,mem 15 _ rfl,rfl,rfl⟩
  ·exact⟨_,mem 16 _ rfl,rfl,rfl⟩
  ·exact⟨_,mem 14 _ rfl,rfl,rfl⟩
  ·exact⟨_,mem 15 _ rfl,rfl,rfl⟩
  ·exact⟨_,mem 16 _ rfl,rfl,rfl⟩
  ·exact⟨_,mem 14 _ rfl,rfl,rfl⟩
  ·exact⟨_,mem 15 _ rfl,rfl,rfl⟩
  ·exact⟨_,mem 16 _ rfl,rfl,rfl⟩
theorem RR_has {e np:Nat}:∀ d∈SS e np,∃ d'∈RR e np,simD d d':=by
 intro d hd
 simp only [SS,lA,lB,List.mem_append,List.mem_cons,List.not_mem_nil,or_false] at hd
 have mem:∀ (i:Nat) (d:DealT),(RR e np)[i]? = some d→d∈RR e np:=fun i d h=>List.mem_of_getElem? h
 rcases hd with hd | hd | hd
 ·rcases hd with rfl | rfl | rfl | rfl | rfl | rfl | rfl | rfl
  ·exact⟨_,mem 0 _ rfl,rfl,rfl,rfl⟩
  ·exact⟨_,mem 1 _ rfl,rfl,rfl,rfl⟩
  ·exact⟨_,mem 5 _ rfl,rfl,rfl,rfl⟩
  ·exact⟨_,mem 6 _ rfl,rfl,rfl,rfl⟩
  ·exact⟨_,mem 7 _ rfl,rfl,rfl,rfl⟩
  ·exact⟨_,mem 8 _ rfl,rfl,rfl,rfl⟩
  ·exact⟨_,mem 9 _ rfl,rfl,rfl,rfl⟩
  ·exact⟨_,mem 10 _ rfl,rfl,rfl,rfl⟩
 ·rcases hd with rfl | rfl | rfl | rfl | rfl | rfl
  ·exact⟨_,mem 2 _ rfl,rfl,rfl,rfl⟩
  ·exact⟨_,mem 2 _ rfl,rfl,rfl,rfl⟩
  ·exact⟨_,mem 3 _ rfl,rfl,rfl,rfl⟩
  ·exact⟨_,mem 3 _ rfl,rfl,rfl,rfl⟩
  ·exact⟨_,mem 4 _ rfl,rfl,rfl,rfl⟩
  ·exact⟨_,mem 4 _ rfl,rfl,rfl,rfl⟩
 ·exact⟨d,List.mem_append_right _ hd,rfl,rfl,rfl⟩
theorem runs_of {np:Nat} (h0:runM []=true) (hp:∀ a∈RR 0 np,partM np a=true):∀ {l:List DealT},l.length≤3→(∀ (i:Nat) (d:DealT),l[i]? = some d→d∈SS i np)→runM l=true
 | [],_,_=>h0
 | [a],_,h=>by
  obtain⟨a',ha,sa⟩:=RR_has a (h 0 a rfl)
  have:=hp a' ha
  simp only [partM,Bool.and_eq_true] at this
  rw [(runM_sim sa sa sa).1]; exact this.1
 | [a,b],_,h=>by
  obtain⟨a',ha,sa⟩:=RR_has a (h 0 a rfl)
  obtain⟨b',hb,sb⟩:=RR_has b (h 1 b rfl)
  have:=hp a' ha
  simp only [partM,Bool.and_eq_true] at this
  have:=List.all_eq_true.1 this.2 b' hb
  simp only [rowM,Bool.and_eq_true] at this
  rw [(runM_sim sa sb sb).2.1]; exact this.1
 | [a,b,c],_,h=>by
  obtain⟨a',ha,sa⟩:=RR_has a (h 0 a rfl)
  obtain⟨b',hb,sb⟩:=RR_has b (h 1 b rfl)
  obtain⟨c',hc,sc⟩:=RR_has c (h 2 c rfl)
  have:=hp a' ha
  simp only [partM,Bool.and_eq_true] at this
  have:=List.all_eq_true.1 this.2 b' hb
  simp only [rowM,Bool.and_eq_true] at this
  rw [(runM_sim sa sb sc).2.2]; exact List.all_eq_true.1 this.2 c' hc
 | _::_::_::_::_,h,_=>absurd h (by simp)
theorem parts3:∀ a∈RR 0 3,partM 3 a=true:=by
 intro a ha
 simp only [RR,lC,List.cons_append,List.nil_append,List.mem_cons,List.not_mem_nil,or_false] at ha
 rcases ha with rfl | rfl | rfl | rfl | rfl | rfl | rfl | rfl | rfl | rfl | rfl | rfl | rfl | rfl
 ·exact part3_0
 ·exact part3_1
 ·exact part3_2
 ·exact part3_3
 ·exact part3_4
 ·exact part3_5
 ·exact part3_6
 ·exact part3_7
 ·exact part3_8
 ·exact part3_9
 ·exact part3_10
 ·exact part3_11
 ·exact part3_12
 ·exact part3_13
theorem parts4:∀ a∈RR 0 4,partM 4 a=true:=by
 intro a ha
 simp only [RR,lC,List.cons_append,List.nil_append,List.mem_cons,List.not_mem_nil,or_false] at ha
 rcases ha with rfl | rfl | rfl | rfl | rfl | rfl | rfl | rfl | rfl | rfl | rfl | rfl | rfl | rfl
 ·exact part4_0
 ·exact part4_1
 ·exact part4_2
 ·exact part4_3
 ·exact part4_4
 ·exact part4_5
 ·exact part4_6
 ·exact part4_7
 ·exact part4_8
 ·exact part4_9
 ·exact part4_10
 ·exact part4_11
 ·exact part4_12
 ·exact part4_13
theorem parts5:∀ a∈RR 0 5,partM 5 a=true:=by
 intro a ha
 simp only [RR,lC,List.cons_append,List.nil_append,List.mem_cons,List.not_mem_nil,or_false] at ha
 rcases ha with rfl | rfl | rfl | rfl | rfl | rfl | rfl | rfl | rfl | rfl | rfl | rfl | rfl | rfl
 ·exact part5_0
 ·exact part5_1
 ·exact part5_2
 ·exact part5_3
 ·exact part5_4
 ·exact part5_5
 ·exact part5_6
 ·exact part5_7
 ·exact part5_8
 ·exact part5_9
 ·exact part5_10
 ·exact part5_11
 ·exact part5_12
 ·exact part5_13
theorem parts6:∀ a∈RR 0 6,partM 6 a=true:=by
 intro a ha
 simp only [RR,lC,List.cons_append,List.nil_append,List.mem_cons,List.not_mem_nil,or_false] at ha
 rcases ha with rfl | rfl | rfl | rfl | rfl | rfl | rfl | rfl | rfl | rfl | rfl | rfl | rfl | rfl
 ·exact part6_0
 ·exact part6_1
 ·exact part6_2
 ·exact part6_3
 ·exact part6_4
 ·exact part6_5
 ·exact part6_6
 ·exact part6_7
 ·exact part6_8
 ·exact part6_9
 ·exact part6_10
 ·exact part6_11
 ·exact part6_12
 ·exact part6_13
theorem runs_all {np:Nat} (hn:goodNp np) {l:List DealT} (hl:l.length≤3) (h:∀ (i:Nat) (d:DealT),l[i]? = some d→d∈SS i np):runM l=true:=by
 rcases hn with rfl | rfl | rfl | rfl
 ·exact runs_of runs0 parts3 hl h
 ·exact runs_of runs0 parts4 hl h
 ·exact runs_of runs0 parts5 hl h
 ·exact runs_of runs0 parts6 hl h
end Go.Proofs.YtkjinnjopoehhaaGreatDoor
