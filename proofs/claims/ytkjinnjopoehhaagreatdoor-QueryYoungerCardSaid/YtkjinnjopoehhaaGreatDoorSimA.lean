/-
  Tables of deeds that runs of klippelaw30.Make cannot tell apart.
-/
import Derived.Test.YtkjinnjopoehhaaGreatDoorDealR
import Derived.Test.YtkjinnjopoehhaaGreatDoorEvMemo
import Derived.Test.YtkjinnjopoehhaaGreatDoorDealC
set_option linter.unusedSectionVars false
set_option linter.unusedVariables false
set_option linter.unusedSimpArgs false
namespace Go.Proofs.YtkjinnjopoehhaaGreatDoor
open Go Ev Klp
def sq1:Code→Code | .seq a _=>a | c=>c
def sq2:Code→Code | .seq _ b=>b | c=>c
def bodyOf (f:Func):Code:=f.body.getD .skip
def baseB:List UInt8:=[98,97,115,101]
noncomputable def rest30:Code:=sq2 (sq2 (bodyOf Tryz.f18))
noncomputable def cxM (n:Nat):CX:=⟨.e,.e,[],[],[(774,n),(775,n)]⟩
def insM (n:Nat):Ins:=⟨[(26,774,n,.sym 775)],(List.range n).map fun i=>(26,775,i,.sym (776+i)),(List.range n).map fun i=>(116,776+i,deedV i)⟩
noncomputable def kitM (l:List DealT):Kit:=⟨cxM l.length,[],[],.e,.e,flatK (l.map fun d=>(41,d.rm)),.e,insM l.length⟩
noncomputable def sM:S:=
 {t:=((T.e.set 1 (.ptr 65 0)).set 2 (.ptr 66 0)).set 3 (.ptr 64 0)
  h:=(((T.e:H).set 64 (.cells [.sym 768,.sym 769,.str baseB,.nils] 42 0 false)).set 65 (.cells [.sym 770,.sym 771,.sym 772,.sym 773,.sym 774] 28 0 false)).set 66
   (.cells [.nils,.nils,.str [],.nils] 42 0 false)
  nx:=67
  m:=[] }
noncomputable def okL (r:R3):List V→List DealT→Bool
 | _,[]=>true
 | cs,d::l=>Nat.beq (cs.take 32).length 32&&fits (orderOf r.2.1 1000 (namesL (cs.take 32)) []) [mD,.agg (cs.take 32)] r.2.1 r.2.2 [mD,d.pv] d.ps&&okL r (cs.drop 32) l
noncomputable def okEvs (l:List DealT) (r:R3) (ev:V):Bool:=
 match ev with
 | .slice ne 0 n cap=>Nat.beq n l.length&&Nat.ble n (cap/2)&&Nat.ble 67 ne&&(match r.2.1.get ne with
  | some (.cells cs _ _ _)=>Nat.beq cs.length (32*l.length)&&okL r cs l
  | _=>false)
 | _=>false
noncomputable def okR (l:List DealT) (r:R3):Bool:=
 match r.1 with
 | .agg [a,b,c,ev]=>V.eq a (.sym 768)&&V.eq b (.sym 769)&&V.eq c (.str baseB)&&(match l with
  | []=>V.eq ev .nils
  | _=>okEvs l r ev)
 | _=>false
noncomputable def runM (l:List DealT):Bool:=
 match tailRun (kitM l).tab 10000 60 Tryz.f18 rest30 sM with
 | some rs=>rs.all (okR l)
 | none=>false
def simD (d d':DealT):Prop:=d.rm=d'.rm∧d.pv=d'.pv∧d.ps=d'.ps
theorem okL_sim {r:R3} {a b c a' b' c':DealT} (h:simD a a') (h':simD b b') (h'':simD c c'):(∀ cs,okL r cs [a]=okL r cs [a'])∧(∀ cs,okL r cs [a,b]=okL r cs [a',b']) ∧ ∀ cs,okL r cs [a,b,c]=okL r cs [a',b',c']:=by
 refine⟨fun cs => ?_,fun cs => ?_,fun cs => ?_⟩ <;> simp only [okL,h.2.1,h.2.2,h'.2.1,h'.2.2,h''.2.1,h''.2.2]
theorem runM_sim {a b c a' b' c':DealT} (h:simD a a') (h':simD b b') (h'':simD c c'):runM [a]=runM [a']∧runM [a,b]=runM [a',b']∧runM [a,b,c]=runM [a',b',c']:=by
 have k1:kitM [a]=kitM [a']:=by simp only [kitM,List.map_cons,List.map_nil,List.length_cons,List.length_nil,h.1]
 have k2:kitM [a,b]=kitM [a',b']:=by simp only [kitM,List.map_cons,List.map_nil,List.length_cons,List.length_nil,h.1,h'.1]
 have k3:kitM [a,b,c]=kitM [a',b',c']:=by simp only [kitM,List.map_cons,List.map_nil,List.length_cons,List.length_nil,h.1,h'.1,h''.1]
 have o:∀ r,okR [a] r=okR [a'] r∧okR [a,b] r=okR [a',b'] r∧okR [a,b,c] r=okR [a',b',c'] r:=fun r=>by
  obtain⟨o1,o2,o3⟩:=okL_sim (r:=r) h h' h''
  refine⟨?_,?_,?_⟩ <;> simp only [okR,okEvs,o1,o2,o3,List.length_cons,List.length_nil]
 refine⟨?_,?_,?_⟩
 ·unfold runM; rw [k1,show okR [a]=okR [a'] from funext fun r=>(o r).1]
 ·unfold runM; rw [k2,show okR [a,b]=okR [a',b'] from funext fun r=>(o r).2.1]
 ·unfold runM; rw [k3,show okR [a,b,c]=okR [a',b',c'] from funext fun r=>(o r).2.2]
noncomputable def RR (e np:Nat):List DealT:=[dl2_0 e np,dl4_0 e np,dl3_0 e np,dl3_2 e np,dl3_4 e np,dl5_0 e np,dl5_1 e np,dl5_2 e np,dl5_3 e np,dl5_4 e np,dl5_5 e np]++lC e np
noncomputable def rowM (np:Nat) (a b:DealT):Bool:=runM [a,b]&&(RR 2 np).all fun c=>runM [a,b,c]
noncomputable def partM (np:Nat) (a:DealT):Bool:=runM [a]&&(RR 1 np).all (rowM np a)
noncomputable def partB (np:Nat) (a:DealT) (k:Nat):Bool:=(((RR 1 np).drop k).take 3).all (rowM np a)
noncomputable def partE (np:Nat) (a:DealT):Bool:=((RR 1 np).drop 12).all (rowM np a)
theorem all_cut {α:Type} {f:α→Bool} {l:List α} {n k:Nat} (h:((l.drop n).take k).all f=true) (h':(l.drop (n+k)).all f=true):(l.drop n).all f=true:=by
 rw [← List.take_append_drop k (l.drop n),List.all_append,h,List.drop_drop,h']; rfl
theorem partM_of {np:Nat} {a:DealT} (h:runM [a]=true) (h0:partB np a 0=true) (h1:partB np a 3=true) (h2:partB np a 6=true) (h3:partB np a 9=true) (h4:partE np a=true):partM np a=true:=by
 unfold partM
 rw [h,Bool.true_and]
 exact all_cut (n:=0) h0 (all_cut h1 (all_cut h2 (all_cut h3 h4)))
end Go.Proofs.YtkjinnjopoehhaaGreatDoor
