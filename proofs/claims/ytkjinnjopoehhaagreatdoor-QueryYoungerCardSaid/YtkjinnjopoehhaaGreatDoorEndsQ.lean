/-
  klippelaw53.ends and slices.MinFunc at the heights of a terrain: its least height.
-/
import Derived.Test.YtkjinnjopoehhaaGreatDoorMakeZ
import Derived.Test.YtkjinnjopoehhaaGreatDoorMeshY
import Derived.Test.YtkjinnjopoehhaaGreatDoorEvMemo
import Derived.Test.YtkjinnjopoehhaaGreatDoorWkOf
set_option linter.unusedSectionVars false
set_option linter.unusedVariables false
set_option linter.unusedSimpArgs false
namespace Go.Proofs.YtkjinnjopoehhaaGreatDoor
open Go.RowKit Go Ev Klp
def qV (z:Int) (D:Nat):Value:=strV (canon (((z:Int):Rat)/((D:Int):Rat)))
def bq (l:List (List V × V)):T (List (List V × V)):=.n .e (some l) .e
def syC (i:Nat):V:=.sym i
theorem qV_val (x:Nat→Int) (v D:Nat):strV (canon (Num.val x ⟨P0 v,D⟩))=qV (x v) D:=by
 unfold qV Num.val
 rw [ev_P0]
noncomputable def seEq:SE→SE→Bool
 | .int k p,.int j q=>kindEq k j&&Poly.same p q
 | .opq a,.opq b=>Nat.beq a b
 | _,_=>false
noncomputable def tabHas (tab:T SE):Nat→List SE→Bool
 | _,[]=>true
 | k,e::l=>(match tab.get k with | some x=>seEq x e | none=>false)&&tabHas tab (k+1) l
theorem tabHas_get:∀ {l:List SE} {tab:T SE} {k:Nat},tabHas tab k l=true → ∀ (i:Nat) (e:SE),l[i]? = some e → ∃ x,tab.get (k+i)=some x∧seEq x e=true
 | [],tab,k,h,i,e,hi=>by simp at hi
 | a::l,tab,k,h,i,e,hi=>by
  simp only [tabHas,Bool.and_eq_true] at h
  cases i with
  | zero=>
   simp at hi; subst hi
   have:=h.1
   split at this
   ·rename_i x hx
    exact⟨x,hx,this⟩
   ·cases this
  | succ i=>
   obtain⟨x,hx,he⟩:=tabHas_get h.2 i e (by simpa using hi)
   exact⟨x,by rw [show k+(i+1)=k+1+i from by omega]; exact hx,he⟩
theorem symX_int {x:Nat→Int} {o:Nat→Value} {tab:T SE} {i:Nat} {e:SE} {k:IntKind} {p:Poly} (h:tab.get i=some e) (he:seEq e (.int k p)=true):symX x o tab i = .int k (Poly.ev x p):=by
 unfold symX
 rw [h]
 cases e with
 | int j q=>
  simp only [seEq,Bool.and_eq_true] at he
  rw [kindEq_iff.1 he.1,← Poly.ev_same x he.2]
 | _=>cases he
theorem symX_opq {x:Nat→Int} {o:Nat→Value} {tab:T SE} {i:Nat} {e:SE} {j:Nat} (h:tab.get i=some e) (he:seEq e (.opq j)=true):symX x o tab i=o j:=by
 unfold symX
 rw [h]
 cases e with
 | opq a=>rw [nbeq_true (show Nat.beq a j=true from he)]
 | _=>cases he
noncomputable def seV (x:Nat→Int) (o:Nat→Value):SE→Value
 | .int k p=>.int k (Poly.ev x p)
 | .num a=>strV (canon (a.val x))
 | .sgn q=>.int .i64 (sgnI (Poly.ev x q))
 | .opq j=>o j
theorem symX_get {x:Nat→Int} {o:Nat→Value} {tab:T SE} {i:Nat} {e:SE} (h:tab.get i=some e):symX x o tab i=seV x o e:=by
 unfold symX
 rw [h]
 cases e <;> rfl
theorem two_pos':(0:Nat)<2:=by decide
theorem two_ne':(((2:Nat):Int):Rat)≠0:=by decide
theorem ev_diff {x:Nat→Int} {u v D:Nat}:Poly.ev x (Num.diff ⟨P0 u,D⟩ ⟨P0 v,D⟩)=(D:Int)*(x u-x v):=by
 simp only [Num.diff,Poly.ev_add,Poly.ev_scl,ev_P0,Int.neg_mul,Int.mul_sub]
 omega
def allB (f:Bool→Bool):Bool:=f false&&f true
theorem allB_ok {f:Bool→Bool} (h:allB f=true) (b:Bool):f b=true:=by
 simp only [allB,Bool.and_eq_true] at h
 cases b
 ·exact h.1
 ·exact h.2
set_option maxRecDepth 100000
theorem memos_nil {P:Program} {w0:Base}:Memos P w0 []:=fun _ h=>by cases h
theorem memos_cons {P:Program} {w0:Base} {f:Nat} {a:List V} {v:V} {l:Memo} (h:Contract P w0 f a v) (hl:Memos P w0 l):Memos P w0 ((f,[(a,v)])::l):=fun q hq p hp=>by
 rcases List.mem_cons.1 hq with rfl | hq
 ·rw [List.mem_singleton.1 hp]; exact h
 ·exact hl q hq p hp
theorem memos_more {P:Program} {w0:Base} {f:Nat} {rs:List (List V × V)} {l:Memo} (h:∀ p∈rs,Contract P w0 f p.1 p.2) (hl:Memos P w0 l):Memos P w0 ((f,rs)::l):=fun q hq p hp=>by
 rcases List.mem_cons.1 hq with rfl | hq
 ·exact h p hp
 ·exact hl q hq p hp
theorem kp_call {P:Program} {M:Mem} {f:Nat} {xs:List Value} {y:Value} (hT:∀ w:World,M.heap.size≤w.heap.size→(∀ b,b<M.heap.size→M.frz b→w.heap[b]? = M.heap[b]?)→PTab w) (h:∀ w,PTab w→Calls P f xs.toArray w fun e w'=>e = .returned y∧Kp w w'):CallOk P M f xs y:=
 fun w h1 h2=>(h w (hT w h1 h2)).mono fun e w' ⟨a,k⟩=>⟨a,⟨k.tape,k.os,k.output,k.size⟩,fun b hb=>k.block b hb⟩
theorem right_ok {M:Mem} (hg:Good M) {a:Rat} (ha:Sm a):CallOk Tryz.prog M 29 [strV (canon a)] (.bool true):=
 kp_call hg.tabs fun w h=>right02_rat a w ha h
theorem refcmp_ok {M:Mem} (hg:Good M) {a b:Rat} (ha:Sm a) (hb:Sm b) (ba:Br a) (bb:Br (-b)):CallOk Tryz.prog M 30 [strV (canon a),strV (canon b)] (.int .i64 (sgnI (a-b).num)):=
 kp_call hg.tabs fun w h=>rcmp_rat a b w ha hb ba bb h
def zT (half:Bool) (hv:Nat→Int) (i:Nat):Int:=(cond half 1 2)*(hv i).tmod 20
def htsR (np:Nat) (z:Nat→Int):List Value:=(List.range np).map fun i=>strV (canon ((z i:Rat)/((2:Int):Rat)))
def TerrRaw (M:Mem) (np:Nat) (z:Nat→Int) (tv:Value):Prop := ∃ b c,tv=slV b np c∧np≤c∧M.frz b ∧ ∃ rc t fr rest,M.heap[b]? = some (.cells rc t fr)∧rc.toList=htsR np z++rest
theorem TerrRaw.le {M M':Mem} (hl:M.Le M') {np:Nat} {z:Nat→Int} {tv:Value} (h:TerrRaw M np z tv):TerrRaw M' np z tv:=by
 obtain⟨b,c,g1,g2,z1,rc,t,fr,rest,g3,g4⟩:=h
 obtain⟨z',e'⟩:=hl.same b (Array.getElem?_eq_some_iff.1 g3).1 z1
 exact⟨b,c,g1,g2,z',rc,t,fr,rest,e'.trans g3,g4⟩
structure HeightsOk (hv:Nat→Int):Prop where
 small:∀ i,i<6 → -128≤hv i∧hv i≤127
def htP (half:Bool) (j:Nat):Poly:=[([6+j],cond half 1 2)]
def ngS:SS:=⟨true,false,false⟩
def psS:SS:=⟨false,false,true⟩
def nnS:SS:=⟨false,true,true⟩
def npS:SS:=⟨true,true,false⟩
def sgE (i j:Nat):Poly:=Num.diff ⟨P0 i,2⟩ ⟨P0 j,2⟩
def tabEn:List SE:=((List.range 8).map fun i=>SE.num ⟨P0 i,2⟩)++(List.range 48).map fun k=>SE.sgn (sgE (k/8) (k%8))
def bdEn:List Iv:=List.replicate 6 (-38,38)
noncomputable def cxEn (fs:Facts):CX:=⟨T.ofList .e 0 tabEn,T.ofList .e 0 bdEn,fs,[],[]⟩
def prsE (np:Nat):List (Nat × Nat):=(List.range np).flatMap fun i=>(List.range i).map fun j=>(i,j)
def rwE (np:Nat):List (List V × V):=(prsE np).map fun p=>([syC p.1,syC p.2],syC (8+8*p.1+p.2))
noncomputable def kitEn (np:Nat) (fs:Facts):Kit:=⟨cxEn fs,[],[],(T.e:Rows).set 32 (bq (rwE np)),tmk [(30,rwE np)],.e,tmk [(34,(List.range np).map syC)],⟨[],[],[]⟩⟩
def fsE (g:Nat→Nat→Poly):List Nat→Nat→Nat→Nat→Facts
 | [],_,_,_=>[]
 | 0::p,i,l,h=>(g i l,ngS)::(g i h,ngS)::fsE g p (i+1) i h
 | 1::p,i,l,h=>(g i l,psS)::(g i h,psS)::fsE g p (i+1) l i
 | _::p,i,l,h=>(g i l,nnS)::(g i h,npS)::fsE g p (i+1) l h
def endE:List Nat→Nat→Nat→Nat→Nat × Nat
 | [],_,l,h=>(l,h)
 | 0::p,i,_,h=>endE p (i+1) i h
 | 1::p,i,l,_=>endE p (i+1) l i
 | _::p,i,l,h=>endE p (i+1) l h
def allE:Nat→List (List Nat)
 | 0=>[[]]
 | n+1=>(allE n).flatMap fun p=>[0::p,1::p,2::p]
def tvE (np:Nat):V:=.slice 34 0 np (2*np+1)
def cmpE:V:=.fn 32 [] []
noncomputable def runEn (np:Nat) (p:List Nat):Bool:=(kitEn np (fsE sgE p 1 0 0)).chk&&memoOk (kitEn np (fsE sgE p 1 0 0)).tab 10000 60 20 [tvE np] (.tup [syC (endE p 1 0 0).1,syC (endE p 1 0 0).2]) &&
 memoOk (kitEn np (fsE sgE p 1 0 0)).tab 10000 60 33 [tvE np,cmpE] (syC (endE p 1 0 0).1)
def nEn (v:Nat):Num:=⟨Poly.scl (-1) (P0 v),2⟩
noncomputable def knEn:Bool:=(List.range 6).all fun i=>(⟨P0 i,2⟩:Num).fits (cxEn []).b&&(⟨P0 i,2⟩:Num).br (cxEn []).b&&Num.negOk ⟨P0 i,2⟩ (nEn i)&&(nEn i).br (cxEn []).b
set_option maxRecDepth 100000
theorem knEn_all:knEn=true:=by kernel_rfl
theorem runEn3:(allE 2).all (runEn 3)=true:=by kernel_rfl
theorem runEn4:(allE 3).all (runEn 4)=true:=by kernel_rfl
theorem runEn5:(allE 4).all (runEn 5)=true:=by kernel_rfl
theorem runEn60:(allE 4).all (fun p=>runEn 6 (0::p))=true:=by kernel_rfl
theorem runEn61:(allE 4).all (fun p=>runEn 6 (1::p))=true:=by kernel_rfl
theorem runEn62:(allE 4).all (fun p=>runEn 6 (2::p))=true:=by kernel_rfl
def pathE (z:Nat→Int):Nat→Nat→Nat→Nat→List Nat
 | 0,_,_,_=>[]
 | n+1,i,l,h=>if z i<z l then 0::pathE z n (i+1) i h else if z h<z i then 1::pathE z n (i+1) l i else 2::pathE z n (i+1) l h
theorem path_succ (z:Nat→Int) (n i l h:Nat):pathE z (n+1) i l h=if z i<z l then 0::pathE z n (i+1) i h else if z h<z i then 1::pathE z n (i+1) l i else 2::pathE z n (i+1) l h:=rfl
theorem path_cons (z:Nat→Int) (n i l h:Nat):∃ c p,pathE z (n+1) i l h=c::p∧(c=0∨c=1∨c=2) ∧ ∃ i' l' h',p=pathE z n i' l' h':=by
 rw [path_succ]
 split
 ·exact⟨_,_,rfl,.inl rfl,_,_,_,rfl⟩
 ·split
  ·exact⟨_,_,rfl,.inr (.inl rfl),_,_,_,rfl⟩
  ·exact⟨_,_,rfl,.inr (.inr rfl),_,_,_,rfl⟩
theorem path_mem (z:Nat→Int):∀ n i l h,pathE z n i l h∈allE n
 | 0,_,_,_=>by simp [pathE,allE]
 | n+1,i,l,h=>by
  obtain⟨c,p,e,hc,i',l',h',rfl⟩:=path_cons z n i l h
  rw [e,allE]
  refine List.mem_flatMap.2 ⟨_,path_mem z n i' l' h',?_⟩
  rcases hc with rfl | rfl | rfl <;> simp
def xEn (z:Nat→Int) (v:Nat):Int:=(([z 0,z 1,z 2,z 3,z 4,z 5]:List Int)[v]?).getD 0
theorem xEn_lt (z:Nat→Int) {v:Nat} (h:v<6):xEn z v=z v:=by
 have:v=0∨v=1∨v=2∨v=3∨v=4∨v=5:=by omega
 rcases this with rfl | rfl | rfl | rfl | rfl | rfl <;> rfl
theorem sgE_ev (z:Nat→Int) {i j:Nat} (hi:i<6) (hj:j<6):Poly.ev (xEn z) (sgE i j)=2*(z i-z j):=by
 unfold sgE
 rw [ev_diff,xEn_lt z hi,xEn_lt z hj]; rfl
theorem fsE_hold {x z:Nat→Int} {g:Nat→Nat→Poly} (hgx:∀ i j,i<6→j<6→Poly.ev x (g i j)=2*(z i-z j)):∀ n i l h,l<6→h<6→i+n≤6→z l≤z h→FactsHold x (fsE g (pathE z n i l h) i l h)
 | 0,_,_,_,_,_,_,_=>fact_nil _
 | n+1,i,l,h,hl,hh,hi,hlh=>by
  have e1:=hgx i l (by omega) hl
  have e2:=hgx i h (by omega) hh
  rw [path_succ]
  split
  ·rename_i h1
   refine fact_cons ?_ (fact_cons ?_ (fsE_hold hgx n (i+1) i h (by omega) hh (by omega) (by omega)))
   ·rw [e1]; exact⟨fun _=>rfl,fun e=>by omega,fun e=>by omega⟩
   ·rw [e2]; exact⟨fun _=>rfl,fun e=>by omega,fun e=>by omega⟩
  ·rename_i h1
   split
   ·rename_i h2
    refine fact_cons ?_ (fact_cons ?_ (fsE_hold hgx n (i+1) l i hl (by omega) (by omega) (by omega)))
    ·rw [e1]; exact⟨fun e=>by omega,fun e=>by omega,fun _=>rfl⟩
    ·rw [e2]; exact⟨fun e=>by omega,fun e=>by omega,fun _=>rfl⟩
   ·rename_i h2
    refine fact_cons ?_ (fact_cons ?_ (fsE_hold hgx n (i+1) l h hl hh (by omega) hlh))
    ·rw [e1]; exact⟨fun e=>by omega,fun _=>rfl,fun _=>rfl⟩
    ·rw [e2]; exact⟨fun _=>rfl,fun _=>rfl,fun e=>by omega⟩
theorem endE_min (z:Nat→Int):∀ n i l h,z (endE (pathE z n i l h) i l h).1≤z l∧(∀ k,i≤k→k<i+n→z (endE (pathE z n i l h) i l h).1≤z k)∧((endE (pathE z n i l h) i l h).1=l∨(endE (pathE z n i l h) i l h).1<i+n)∧((endE (pathE z n i l h) i l h).2=h∨(endE (pathE z n i l h) i l h).2<i+n)
 | 0,_,_,_=>⟨Int.le_refl _,fun k h1 h2=>by omega,.inl rfl,.inl rfl⟩
 | n+1,i,l,h=>by
  rw [path_succ]
  split
  ·rename_i h1
   obtain⟨a,b,c,d⟩:=endE_min z n (i+1) i h
   rw [show endE (0::pathE z n (i+1) i h) i l h=endE (pathE z n (i+1) i h) (i+1) i h from rfl]
   refine⟨by omega,fun k h2 h3 => ?_,.inr (by omega),by omega⟩
   by_cases hk:k=i
   ·rw [hk]; exact a
   ·exact b k (by omega) (by omega)
  ·rename_i h1
   split
   ·rename_i h4
    obtain⟨a,b,c,d⟩:=endE_min z n (i+1) l i
    rw [show endE (1::pathE z n (i+1) l i) i l h=endE (pathE z n (i+1) l i) (i+1) l i from rfl]
    refine⟨a,fun k h2 h3 => ?_,by omega,.inr (by omega)⟩
    by_cases hk:k=i
    ·rw [hk]; omega
    ·exact b k (by omega) (by omega)
   ·rename_i h4
    obtain⟨a,b,c,d⟩:=endE_min z n (i+1) l h
    rw [show endE (2::pathE z n (i+1) l h) i l h=endE (pathE z n (i+1) l h) (i+1) l h from rfl]
    refine⟨a,fun k h2 h3 => ?_,by omega,by omega⟩
    by_cases hk:k=i
    ·rw [hk]; omega
    ·exact b k (by omega) (by omega)
theorem runEn_of {np:Nat} (hn:np∈[3,4,5,6]) (z:Nat→Int):runEn np (pathE z (np-1) 1 0 0)=true:=by
 simp only [List.mem_cons,List.not_mem_nil,or_false] at hn
 rcases hn with rfl | rfl | rfl | rfl
 ·exact List.all_eq_true.1 runEn3 _ (path_mem z _ _ _ _)
 ·exact List.all_eq_true.1 runEn4 _ (path_mem z _ _ _ _)
 ·exact List.all_eq_true.1 runEn5 _ (path_mem z _ _ _ _)
 ·show runEn 6 (pathE z (4+1) 1 0 0)=true
  obtain⟨c,p,e,hc,i',l',h',rfl⟩:=path_cons z 4 1 0 0
  rw [e]
  rcases hc with rfl | rfl | rfl
  ·exact List.all_eq_true.1 runEn60 _ (path_mem z _ _ _ _)
  ·exact List.all_eq_true.1 runEn61 _ (path_mem z _ _ _ _)
  ·exact List.all_eq_true.1 runEn62 _ (path_mem z _ _ _ _)
def lowE (np:Nat) (z:Nat→Int):Nat:=(endE (pathE z (np-1) 1 0 0) 1 0 0).1
def hiE (np:Nat) (z:Nat→Int):Nat:=(endE (pathE z (np-1) 1 0 0) 1 0 0).2
noncomputable def baseEn (M:Mem) (z:Nat→Int) (i:Info):Base:={ toMem:=M,sym:=symX (xEn z) (fun _=>.nilFunc) (T.ofList .e 0 tabEn),stat:=fun _=>i }
theorem getEn (k:Nat):(T.ofList .e 0 tabEn:T SE).get k=tabEn[k]? := by
 rw [T.get_ofList]
 split
 ·rw [Nat.sub_zero]
 ·rename_i h
  rw [T.get_e,List.getElem?_eq_none (by omega)]
theorem symEn_n {M:Mem} {z:Nat→Int} {i34:Info} {i:Nat} (h:i<8):(baseEn M z i34).sym i=strV (canon (Num.val (xEn z) ⟨P0 i,2⟩)):=by
 show symX (xEn z) _ (T.ofList .e 0 tabEn) i=_
 unfold symX
 rw [getEn,show tabEn[i]? = some (SE.num ⟨P0 i,2⟩) from by
  unfold tabEn
  rw [List.getElem?_append_left (by simpa using h),List.getElem?_map,List.getElem?_range h]; rfl]
theorem symEn_s {M:Mem} {z:Nat→Int} {i34:Info} {i j:Nat} (hi:i<6) (hj:j<8):(baseEn M z i34).sym (8+8*i+j) = .int .i64 (sgnI (Poly.ev (xEn z) (sgE i j))):=by
 show symX (xEn z) _ (T.ofList .e 0 tabEn) (8+8*i+j)=_
 unfold symX
 rw [getEn,show tabEn[8+8*i+j]? = some (SE.sgn (sgE i j)) from by
  unfold tabEn
  rw [List.getElem?_append_right (by simp; omega),List.getElem?_map,List.length_map,List.length_range,show 8+8*i+j-8=8*i+j from by omega,List.getElem?_range (by omega),Option.map_some,
   show (8*i+j)/8=i from by omega,show (8*i+j)%8=j from by omega]]
section
variable {M:Mem} (hg:Good M) {np:Nat} (hn:np∈[3,4,5,6]) {z:Nat→Int} (hz:∀ i,i<6 → -38≤z i∧z i≤38)
include hg hn hz
theorem memoEn {fs:Facts} {i34:Info} (hC:CXOk (baseEn M z i34) (xEn z) (fun _=>.nilFunc) (cxEn fs)):Memos Tryz.prog (baseEn M z i34) [(30,rwE np)]:=by
 have h6:np≤6:=by simp only [List.mem_cons,List.not_mem_nil,or_false] at hn; omega
 refine memos_more (fun p hp => ?_) memos_nil
 obtain⟨⟨i,j⟩,hij,rfl⟩:=List.mem_map.1 hp
 obtain⟨i',hi',hj'⟩:=List.mem_flatMap.1 hij
 obtain⟨j',hj,e⟩:=List.mem_map.1 hj'
 cases e
 have hi:=List.mem_range.1 hi'
 have hj:=List.mem_range.1 hj
 have kn:∀ i,i<6→((⟨P0 i,2⟩:Num).fits (cxEn []).b=true∧(⟨P0 i,2⟩:Num).br (cxEn []).b=true)∧Num.negOk ⟨P0 i,2⟩ (nEn i)=true∧(nEn i).br (cxEn []).b=true:=fun i hi=>by
  have h:=List.all_eq_true.1 (show (List.range 6).all _=true from knEn_all) i (List.mem_range.2 hi)
  simp only [Bool.and_eq_true] at h
  exact⟨h.1.1,h.1.2,h.2⟩
 obtain⟨⟨fi,bi⟩,_⟩:=kn i (by omega)
 obtain⟨⟨fj,bj⟩,nj,mj⟩:=kn j (by omega)
 have bn:Br (-(Num.val (xEn z) ⟨P0 j,2⟩)):=by
  rw [Num.neg_val (a:=⟨P0 j,2⟩) (u:=nEn j) two_ne' two_ne' nj]
  exact br_ok hC two_pos' mj
 have h:=refcmp_ok hg (hC.sm fi) (hC.sm fj) (br_ok hC two_pos' bi) bn
 refine h.contract (v:=syC (8+8*i+j)) (Mem.Le.refl _) (fun E hE=>VRL.cons ?_ (VRL.cons ?_ VRL.nil)) fun E hE => ?_
 ·show _=E.sym i
  rw [hE.sym,symEn_n (by omega)]
 ·show _=E.sym j
  rw [hE.sym,symEn_n (by omega)]
 ·show _=E.sym (8+8*i+j)
  rw [hE.sym,symEn_s (by omega) (by omega)]
  have hdv:=Num.diff_val (x:=xEn z) (a:=⟨P0 i,2⟩) (c:=⟨P0 j,2⟩) two_pos' two_pos'
  congr 1
  exact sgn_of_iff (z:=Poly.ev (xEn z) (sgE i j)) (by rw [sgE,← hdv.1]; exact sub_neg_rat) (by rw [sgE,← hdv.2]; exact sub_zero_rat)
theorem ends_at {tv:Value} (ht:TerrRaw M np z tv):(lowE np z<np∧hiE np z<np)∧(∀ k,k<np→z (lowE np z)≤z k)∧CallOk Tryz.prog M 20 [tv] (.tuple #[qV (z (lowE np z)) 2,qV (z (hiE np z)) 2]) ∧
  CallOk Tryz.prog M 33 [tv,.func (.func 32) #[] #[]] (qV (z (lowE np z)) 2):=by
 have h36:3≤np∧np≤6:=by simp only [List.mem_cons,List.not_mem_nil,or_false] at hn; omega
 have hrun:=runEn_of hn z
 obtain⟨m1,m2,m3,m4⟩:=endE_min z (np-1) 1 0 0
 have hF:=fsE_hold (x:=xEn z) (g:=sgE) (fun i j hi hj=>sgE_ev z hi hj) (np-1) 1 0 0 (by omega) (by omega) (by omega) (Int.le_refl _)
 unfold lowE hiE
 generalize pathE z (np-1) 1 0 0=p at *
 simp only [runEn,Bool.and_eq_true] at hrun
 obtain⟨⟨hchk,r1⟩,r2⟩:=hrun
 generalize endE p 1 0 0=e at *
 obtain⟨l,h⟩:=e
 simp only at m1 m2 m3 m4 r1 r2
 obtain⟨b,c,rfl,hc,hf,rc,t,fr,rest,g1,g2⟩:=ht
 let i34:Info:={ blk:=b,size:=c,unit:=1 }
 let B:=baseEn M z i34
 have hone:∀ i,oneV (B.sym i):=fun i=>symX_one (o:=fun _=>.nilFunc) (fun _=>trivial) i
 have hC:CXOk B (xEn z) (fun _=>.nilFunc) (cxEn (fsE sgE p 1 0 0)):=by
  refine⟨fun _ _ _=>rfl,fun v => ?_,hF,(fun r hr=>by cases hr),(fun p hp=>by cases hp),(fun _=>trivial),hg.pow _ _,hg.tabs⟩
  exact bd_of (l:=bdEn) (zs:=[z 0,z 1,z 2,z 3,z 4,z 5]) ⟨hz 0 (by omega),hz 1 (by omega),hz 2 (by omega),hz 3 (by omega),hz 4 (by omega),hz 5 (by omega),trivial⟩ v
 have cells:∀ E,StatOk B E→VRL E ((List.range np).map syC) (htsR np z):=fun E hE=>by
  refine VRL.of_get (by simp [htsR]) fun k v y h1 h2 => ?_
  have hk:k<np:=by
   have:=(List.getElem?_eq_some_iff.1 h1).1
   simpa using this
  rw [List.getElem?_map,List.getElem?_range hk,Option.map_some,Option.some.injEq] at h1
  simp only [htsR,List.getElem?_map,List.getElem?_range hk,Option.map_some,Option.some.injEq] at h2
  subst h1; subst h2
  show _=E.sym k
  rw [hE.sym,symEn_n (by omega),qV_val,xEn_lt z (by omega)]; rfl
 have hK:KitOk B (xEn z) (fun _=>.nilFunc) (kitEn np (fsE sgE p 1 0 0)):=by
  refine⟨hC,fun f args v hv=>tmk_prim (memoEn hg hn hz hC) hv,(fun f es he=>by simp [kitEn,T.get_e] at he),(fun n cs hm => ?_),(fun p hp=>by cases hp),(fun p hp=>by cases hp),(fun p hp=>by cases hp)⟩
  have hm:=tmk_mem hm
  cases List.mem_singleton.1 hm
  exact⟨by omega,by omega,(Array.getElem?_eq_some_iff.1 g1).1,hf,rc,t,fr,g1,fun E hE=>⟨_,rest,cells E hE,g2⟩⟩
 have hE0:StatOk B (baseE B hone):=base_stat
 have vt:VR (baseE B hone) (tvE np) (slV b np c):=by
  refine⟨i34,hE0.stat 34 (by omega) (by omega),?_⟩
  show slV b np c = .slice (some ⟨b,0,none⟩) np (capOf { blk:=b,size:=c,unit:=1 } 0 (2*np+1))
  unfold capOf slV
  rw [if_neg (by omega)]
  simp only [Nat.sub_zero,Nat.div_one]
  congr 1
  omega
 have vs:∀ k,k<np→VR (baseE B hone) (syC k) (qV (z k) 2):=fun k hk=>by
  show _=B.sym k
  rw [symEn_n (by omega),qV_val,xEn_lt z (by omega)]
 have hl:l<np:=by omega
 have hh:h<np:=by omega
 refine⟨⟨hl,hh⟩,fun k hk => ?_,(Kit.run hK hchk r1).callOk hE0 (VRL.cons vt VRL.nil) ⟨_,VRL.cons (vs l hl) (VRL.cons (vs h hh) VRL.nil),rfl⟩,
  (Kit.run hK hchk r2).callOk hE0 (VRL.cons vt (VRL.cons ⟨[],[],rfl,rfl,rfl⟩ VRL.nil)) (vs l hl)⟩
 by_cases k0:k=0
 ·rw [k0]; exact m1
 ·exact m2 k (by omega) (by omega)
end
end Go.Proofs.YtkjinnjopoehhaaGreatDoor
