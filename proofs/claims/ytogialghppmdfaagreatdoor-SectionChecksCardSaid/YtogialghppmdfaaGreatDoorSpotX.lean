/-
  klippelaw37.spot: a place between a point of the mesh and the middle of all of them.
-/
import Derived.Test.YtogialghppmdfaaGreatDoorCutsA
set_option linter.unusedSectionVars false
set_option linter.unusedVariables false
set_option linter.unusedSimpArgs false
namespace Go.Proofs.YtogialghppmdfaaGreatDoor
open Go Ev Klp
def qV (z:Int) (D:Nat):Value:=strV (canon (((z:Int):Rat)/((D:Int):Rat)))
def qP (x y:Int) (D:Nat):Value:=.agg #[qV x D,qV y D]
def Big (x:Int):Prop := -2000≤x∧x≤2000
def BigX (x:Int):Prop := -50000≤x∧x≤50000
def dens:List Nat:=[12,16,20,24,32,40,48]
def dfP (v w:Nat):Poly:=psub (P0 v) (P0 w)
def arP:Poly:=psub (Poly.mul (dfP 2 0) (dfP 5 1)) (Poly.mul (dfP 3 1) (dfP 4 0))
def tabTq (D:Nat):List SE:=([P0 0,P0 1,P0 2,P0 3,P0 4,P0 5,dfP 2 0,dfP 3 1,dfP 4 0,dfP 5 1].map fun p=>.num ⟨p,D⟩)++([Poly.mul (dfP 2 0) (dfP 5 1),Poly.mul (dfP 3 1) (dfP 4 0),arP].map fun p=>.num ⟨p,D*D⟩)++[.sgn arP]
def rgTq:Iv:=(-2000,2000)
def bdTq:List Iv:=[rgTq,rgTq,rgTq,rgTq,(-50000,50000),rgTq]
noncomputable def cxTq (D:Nat):CX:=⟨T.ofList .e 0 (tabTq D),T.ofList .e 0 bdTq,[],[],[]⟩
def bq (l:List (List V × V)):T (List (List V × V)):=.n .e (some l) .e
noncomputable def rowsTq:Rows:=((((T.e:Rows).set 53 (bq [([.sym 2,.sym 0],.sym 6),([.sym 3,.sym 1],.sym 7),([.sym 4,.sym 0],.sym 8),([.sym 5,.sym 1],.sym 9),([.sym 10,.sym 11],.sym 12)])).set
 54 (bq [([.sym 6,.sym 9],.sym 10),([.sym 7,.sym 8],.sym 11)])).set 55 (bq [([.sym 12],.sym 13)])).set 36 (bq [([.sym 4],.int .i64 0),([.sym 5],.int .i64 0)])
noncomputable def kitTq (D:Nat):Kit:=⟨cxTq D,[],[],rowsTq,.e,.e,.e,⟨[],[],[]⟩⟩
def qpt (i:Nat):V:=.agg [.sym (2*i),.sym (2*i+1)]
def numsTq (D:Nat):List Num:=[⟨P0 0,D⟩,⟨P0 1,D⟩,⟨P0 2,D⟩,⟨P0 3,D⟩,⟨P0 4,D⟩,⟨P0 5,D⟩]
def symsTq:List V:=[.sym 0,.sym 1,.sym 2,.sym 3,.sym 4,.sym 5]
noncomputable def runQt (D:Nat):Bool:=(kitTq D).chk&&numsEq (cxTq D) (numsTq D) symsTq&&memoOk (kitTq D).tab 10000 60 150 [qpt 0,qpt 1,qpt 2] (.sym 13)&&memoOk (kitTq D).tab 10000 60 125 [qpt 2] (.int .i64 0)
theorem runQt_all:dens.all runQt=true:=by kernel_rfl
def areaQ (a b c d e f:Int):Int:=(c-a)*(f-b)-(d-b)*(e-a)
def xTq (a b c d e f:Int) (v:Nat):Int:=(([a,b,c,d,e,f]:List Int)[v]?).getD 0
theorem qV_val (x:Nat→Int) (v D:Nat):strV (canon (Num.val x ⟨P0 v,D⟩))=qV (x v) D:=by
 unfold qV Num.val
 rw [ev_P0]
theorem ev_arP (a b c d e f:Int):Poly.ev (xTq a b c d e f) arP=areaQ a b c d e f:=by
 unfold arP dfP
 simp only [ev_psub,Poly.ev_mul,ev_P0]
 rfl
theorem runsTq {M:Mem} (hg:Good M) {D:Nat} (hD:D∈dens) {a b c d e f:Int} (ha:Big a) (hb:Big b) (hc:Big c) (hd:Big d) (he:BigX e) (hf:Big f) :
  CallOk Tryz.prog M 150 [qP a b D,qP c d D,qP e f D] (.int .i64 (sgnI (areaQ a b c d e f)))∧CallOk Tryz.prog M 125 [qP e f D] (.int .i64 0):=by
 have hrun:=List.all_eq_true.1 runQt_all D hD
 simp only [runQt,Bool.and_eq_true] at hrun
 obtain⟨⟨⟨h1,h2⟩,h3⟩,h4⟩:=hrun
 let x:=xTq a b c d e f
 let w0:Base:={ toMem:=M,sym:=symX x (fun _=>.nilFunc) (cxTq D).tab }
 have hC:CXOk w0 x (fun _=>.nilFunc) (cxTq D):=by
  refine⟨fun _ _ _=>rfl,fun v => ?_,(fun f hf=>by cases hf),(fun r hr=>by cases hr),(fun p hp=>by cases hp),(fun _=>trivial),hg.pow _ _,hg.tabs⟩
  exact bd_of (l:=bdTq) (zs:=[a,b,c,d,e,f]) ⟨ha,hb,hc,hd,he,hf,trivial⟩ v
 have hK:KitOk w0 x (fun _=>.nilFunc) (kitTq D):=⟨hC,(fun f args v hv=>by simp [kitTq,primOf,T.get_e] at hv),(fun f es he=>by simp [kitTq,T.get_e] at he),
  (fun n cs hn=>by simp [kitTq,T.get_e] at hn),(fun p hp=>by cases hp),(fun p hp=>by cases hp),(fun p hp=>by cases hp)⟩
 have hone:∀ i,oneV (w0.sym i):=fun i=>symX_one (o:=fun _=>.nilFunc) (fun _=>trivial) i
 have hE0:StatOk w0 (baseE w0 hone):=base_stat
 have hn:=numsEq_ok hC hE0 h2
 simp only [numsTq,List.map_cons,List.map_nil,qV_val] at hn
 obtain⟨_,_,e0,v0,_,_,e1,v1,_,_,e2,v2,_,_,e3,v3,_,_,e4,v4,_,_,e5,v5,_⟩:=hn
 cases e0; cases e1; cases e2; cases e3; cases e4; cases e5
 refine⟨(Kit.run hK h1 h3).callOk (hE:=hE0) (VRL.cons ⟨_,VRL.cons v0 (VRL.cons v1 VRL.nil),rfl⟩ (VRL.cons ⟨_,VRL.cons v2 (VRL.cons v3 VRL.nil),rfl⟩ (VRL.cons ⟨_,VRL.cons v4 (VRL.cons v5 VRL.nil),rfl⟩ VRL.nil))) ?_,(Kit.run hK h1 h4).callOk (hE:=hE0) (VRL.cons ⟨_,VRL.cons v4 (VRL.cons v5 VRL.nil),rfl⟩ VRL.nil) rfl⟩
 show _=(baseE w0 hone).sym 13
 rw [hE0.sym,← ev_arP a b c d e f]
 rfl
theorem turnQ_ok {M:Mem} (hg:Good M) {D:Nat} (hD:D∈dens) {a b c d e f:Int} (ha:Big a) (hb:Big b) (hc:Big c) (hd:Big d) (he:BigX e) (hf:Big f) :
  CallOk Tryz.prog M 150 [qP a b D,qP c d D,qP e f D] (.int .i64 (sgnI (areaQ a b c d e f))):=(runsTq hg hD ha hb hc hd he hf).1
theorem pointQ_ok {M:Mem} (hg:Good M) {D:Nat} (hD:D∈dens) {a b:Int} (ha:BigX a) (hb:Big b):CallOk Tryz.prog M 125 [qP a b D] (.int .i64 0):=(runsTq hg hD hb hb hb hb ha hb).2
def turn3 (z:Fin 6→Int) (px py:Int):List Int:=[areaQ (z 0) (z 1) (z 2) (z 3) px py,areaQ (z 2) (z 3) (z 4) (z 5) px py,areaQ (z 4) (z 5) (z 0) (z 1) px py]
def has3 (l:List Int):Bool:=l.all fun z=>decide (0≤z)
def tabIn:List SE:=(List.range 8).map .opq++(List.range 3).map fun k=>.int .i64 (P0 k)
def factIn (j:Nat):Facts:=((List.range 3).take j).map (fun k=>(P0 k,⟨false,true,true⟩))++(((List.range 3).drop j).take 1).map fun k=>(P0 k,⟨true,false,false⟩)
noncomputable def cxIn (j:Nat):CX:=⟨T.ofList .e 0 tabIn,T.ofList .e 0 [(-1,1),(-1,1),(-1,1)],factIn j,[],[]⟩
def memoIn:Memo:=[(150,[([qpt 0,qpt 1,qpt 3],.sym 8),([qpt 1,qpt 2,qpt 3],.sym 9),([qpt 2,qpt 0,qpt 3],.sym 10)])]
noncomputable def kitIn (j:Nat):Kit:=⟨cxIn j,[],[],.e,tmk memoIn,.e,.e,⟨[],[],[]⟩⟩
noncomputable def runIn (j:Nat):Bool:=(kitIn j).chk&&memoOk (kitIn j).tab 10000 60 163 [.agg (symsTq),qpt 3] (.bool (Nat.beq j 3))
theorem runIn_all:([0,1,2,3].all runIn)=true:=by kernel_rfl
def xIn (l:List Int) (v:Nat):Int:=sgnI ((l[v]?).getD 0)
theorem sgnI_rg (z:Int) : -1≤sgnI z∧sgnI z≤1:=by unfold sgnI; split <;> (try split) <;> omega
theorem sgnI_nn (z:Int):0≤sgnI z↔0≤z:=by unfold sgnI; split <;> (try split) <;> constructor <;> omega
theorem firstIn (a b c:Int):∃ j,j∈[0,1,2,3]∧FactsHold (xIn [a,b,c]) (factIn j)∧has3 [a,b,c]=Nat.beq j 3:=by
 have pass:∀ (v:Nat) (z:Int),xIn [a,b,c] v=sgnI z→0≤z→SS.has ⟨false,true,true⟩ (Poly.ev (xIn [a,b,c]) (P0 v)):=fun v z e hz=>by
  rw [ev_P0,e]
  have:=(sgnI_nn z).2 hz
  exact⟨fun h=>by omega,fun _=>rfl,fun _=>rfl⟩
 have fail:∀ (v:Nat) (z:Int),xIn [a,b,c] v=sgnI z → ¬ 0≤z→SS.has ⟨true,false,false⟩ (Poly.ev (xIn [a,b,c]) (P0 v)):=fun v z e hz=>by
  rw [ev_P0,e]
  have:=mt (sgnI_nn z).1 hz
  exact⟨fun _=>rfl,fun h=>by omega,fun h=>by omega⟩
 by_cases ha:0≤a
 ·by_cases hb:0≤b
  ·by_cases hc:0≤c
   ·exact⟨3,by simp,fact_cons (pass 0 a rfl ha) (fact_cons (pass 1 b rfl hb) (fact_cons (pass 2 c rfl hc) (fact_nil _))),by simp [has3,ha,hb,hc]⟩
   ·exact⟨2,by simp,fact_cons (pass 0 a rfl ha) (fact_cons (pass 1 b rfl hb) (fact_cons (fail 2 c rfl hc) (fact_nil _))),by simp [has3,ha,hb,hc]; rfl⟩
  ·exact⟨1,by simp,fact_cons (pass 0 a rfl ha) (fact_cons (fail 1 b rfl hb) (fact_nil _)),by simp [has3,ha,hb]; rfl⟩
 ·exact⟨0,by simp,fact_cons (fail 0 a rfl ha) (fact_nil _),by simp [has3,ha]; rfl⟩
theorem insideQ_ok {M:Mem} (hg:Good M) {D:Nat} (hD:D∈dens) {a b c d e f p q:Int} (ha:Big a) (hb:Big b) (hc:Big c) (hd:Big d) (he:Big e) (hf:Big f) (hp:BigX p) (hq:Big q) :
  CallOk Tryz.prog M 163 [.agg #[qV a D,qV b D,qV c D,qV d D,qV e D,qV f D],qP p q D] (.bool (has3 [areaQ a b c d p q,areaQ c d e f p q,areaQ e f a b p q])):=by
 obtain⟨j,hj,hF,hres⟩:=firstIn (areaQ a b c d p q) (areaQ c d e f p q) (areaQ e f a b p q)
 rw [hres]
 have hrun:=List.all_eq_true.1 runIn_all j hj
 simp only [runIn,Bool.and_eq_true] at hrun
 let x:=xIn [areaQ a b c d p q,areaQ c d e f p q,areaQ e f a b p q]
 let ls:List Value:=[qV a D,qV b D,qV c D,qV d D,qV e D,qV f D,qV p D,qV q D]
 let o:Nat→Value:=fun i=>(ls[i]?).getD .nilFunc
 have oo:∀ i,oneV (o i):=fun i=>by
  show oneV ((ls[i]?).getD .nilFunc)
  cases h:ls[i]? with
  | none=>trivial
  | some y=>
   have:=List.mem_of_getElem? h
   simp only [ls,List.mem_cons,List.not_mem_nil,or_false] at this
   rcases this with rfl | rfl | rfl | rfl | rfl | rfl | rfl | rfl <;> trivial
 let w0:Base:={ toMem:=M,sym:=symX x o (T.ofList .e 0 tabIn) }
 have hone:∀ i,oneV (w0.sym i):=fun i=>symX_one oo i
 have hE0:StatOk w0 (baseE w0 hone):=base_stat
 have vP:∀ E,StatOk w0 E → ∀ i,i<4→VR E (qpt i) (.agg #[(ls[2*i]?).getD .nilFunc,(ls[2*i+1]?).getD .nilFunc]):=fun E hE i hi=>by
  have:i=0∨i=1∨i=2∨i=3:=by omega
  rcases this with rfl | rfl | rfl | rfl <;> exact⟨_,VRL.cons (by show _=E.sym _; rw [hE.sym]; rfl) (VRL.cons (by show _=E.sym _; rw [hE.sym]; rfl) VRL.nil),rfl⟩
 have hmo:Memos Tryz.prog w0 memoIn:=by
  intro r hr s hs
  rw [show memoIn=[(150,_)] from rfl] at hr
  have hr:=List.mem_singleton.1 hr
  subst hr
  simp only [List.mem_cons,List.not_mem_nil,or_false] at hs
  rcases hs with rfl | rfl | rfl
  ·exact (turnQ_ok hg hD ha hb hc hd hp hq).contract (v:=.sym 8) (Mem.Le.refl _) (fun E hE=>VRL.cons (vP E hE 0 (by omega)) (VRL.cons (vP E hE 1 (by omega)) (VRL.cons (vP E hE 3 (by omega)) VRL.nil))) (fun E hE=>by show _=E.sym 8; rw [hE.sym]; show _=symX x o (T.ofList .e 0 tabIn) 8; unfold symX; simp only [show (T.ofList .e 0 tabIn:T SE).get 8=some (.int .i64 (P0 0)) from rfl,ev_P0]; rfl)
  ·exact (turnQ_ok hg hD hc hd he hf hp hq).contract (v:=.sym 9) (Mem.Le.refl _) (fun E hE=>VRL.cons (vP E hE 1 (by omega)) (VRL.cons (vP E hE 2 (by omega)) (VRL.cons (vP E hE 3 (by omega)) VRL.nil))) (fun E hE=>by show _=E.sym 9; rw [hE.sym]; show _=symX x o (T.ofList .e 0 tabIn) 9; unfold symX; simp only [show (T.ofList .e 0 tabIn:T SE).get 9=some (.int .i64 (P0 1)) from rfl,ev_P0]; rfl)
  ·exact (turnQ_ok hg hD he hf ha hb hp hq).contract (v:=.sym 10) (Mem.Le.refl _) (fun E hE=>VRL.cons (vP E hE 2 (by omega)) (VRL.cons (vP E hE 0 (by omega)) (VRL.cons (vP E hE 3 (by omega)) VRL.nil))) (fun E hE=>by show _=E.sym 10; rw [hE.sym]; show _=symX x o (T.ofList .e 0 tabIn) 10; unfold symX; simp only [show (T.ofList .e 0 tabIn:T SE).get 10=some (.int .i64 (P0 2)) from rfl,ev_P0]; rfl)
 have hK:KitOk w0 x o (kitIn j):=⟨⟨(fun _ _ _=>rfl),(fun v=>bd_of (l:=[(-1,1),(-1,1),(-1,1)]) (zs:=[sgnI (areaQ a b c d p q),sgnI (areaQ c d e f p q),sgnI (areaQ e f a b p q)]) ⟨sgnI_rg _,sgnI_rg _,sgnI_rg _,trivial⟩ v |> fun h=>by
   have e:x v=(([sgnI (areaQ a b c d p q),sgnI (areaQ c d e f p q),sgnI (areaQ e f a b p q)]:List Int)[v]?).getD 0:=by
    show xIn _ v=_
    unfold xIn
    match v with
    | 0=>rfl
    | 1=>rfl
    | 2=>rfl
    | v+3=>rfl
   show Iv.has _ (x v)
   rw [e]; exact h),hF,(fun r hr=>by cases hr),(fun p hp=>by cases hp),oo,hg.pow _ _,hg.tabs⟩,(fun f args v hv=>tmk_prim hmo hv),(fun f es he=>by simp [kitIn,T.get_e] at he),
  (fun n cs hn=>by simp [kitIn,T.get_e] at hn),(fun p hp=>by cases hp),(fun p hp=>by cases hp),(fun p hp=>by cases hp)⟩
 refine (Kit.run hK hrun.1 hrun.2).callOk (hE:=hE0) (VRL.cons ⟨_,VRL.cons ?_ (VRL.cons ?_ (VRL.cons ?_ (VRL.cons ?_ (VRL.cons ?_ (VRL.cons ?_ VRL.nil))))),rfl⟩ (VRL.cons (vP _ hE0 3 (by omega)) VRL.nil)) rfl
 all_goals (show _=(baseE w0 hone).sym _; rw [hE0.sym]; rfl)
def kindsC:List (Nat × List Int):=[(4,[0,1,2,0,2,3]),(4,[0,1,3,1,2,3]),(5,[0,1,4,1,2,4,2,3,4,3,0,4]),(3,[2,0,1]),(6,[0,1,4,0,4,3,1,2,5,1,5,4]),(4,[3,2,1,3,1,0]),(5,[0,4,3,4,2,3,4,1,2]),(4,[0,1,3,1,2,3,2,0,3])]
def boolsC:Nat→List (List Bool)
 | 0=>[[]]
 | n+1=>(boolsC n).flatMap fun l=>[true::l,false::l]
def syC (i:Nat):V:=.sym i
def corC (tris:List Int) (i k:Nat):Nat:=((tris[3*i+k]?).getD 0).toNat
def memoLo (np:Nat) (tris:List Int) (β:List Bool):Memo:=[(72,[([.agg [.slice 32 0 np (2*np+1),.slice 33 0 (tris.length/3) (2*(tris.length/3))]],.int .i64 0)]),(125,[([qpt np],.int .i64 0)]),
 (163,(List.range (tris.length/3)).map fun i=>([.agg ((List.range 3).map fun k=>[syC (2*corC tris i k),syC (2*corC tris i k+1)]).flatten,qpt np],.bool ((β[i]?).getD false)))]
noncomputable def cxLo (np:Nat):CX:=⟨T.ofList .e 0 ((List.range (2*np+2)).map .opq),.e,[],[],[]⟩
noncomputable def kitLo (np:Nat) (tris:List Int) (β:List Bool):Kit:=⟨cxLo np,[],[],.e,tmk (memoLo np tris β),.e,tmk [(32,(List.range (2*np)).map syC),(33,tris.map fun n=>.int .i64 n)],⟨[],[],[]⟩⟩
noncomputable def runLo (m:Nat × List Int) (β:List Bool):Bool:=(kitLo m.1 m.2 β).chk&&memoOk (kitLo m.1 m.2 β).tab 10000 60 34 [.agg [.slice 32 0 m.1 (2*m.1+1),.slice 33 0 (m.2.length/3) (2*(m.2.length/3))],qpt m.1] (.tup [.bool (β.any id),.int .i64 0])
theorem runLo_all:(kindsC.all fun m=>(boolsC (m.2.length/3)).all (runLo m))=true:=by kernel_rfl
def corZ (pts:List (Int × Int)) (s0 s1:Int) (g:Nat) (i:Nat):Int × Int:=((((pts[i]?).getD (0,0)).1+s0)*(g:Int),(((pts[i]?).getD (0,0)).2+s1)*(g:Int))
def hasC (pts:List (Int × Int)) (tris:List Int) (s0 s1:Int) (g:Nat) (px py:Int) (i:Nat):Bool:=
 let z:=fun k=>corZ pts s0 s1 g (corC tris i k)
 has3 [areaQ (z 0).1 (z 0).2 (z 1).1 (z 1).2 px py,areaQ (z 1).1 (z 1).2 (z 2).1 (z 2).2 px py,areaQ (z 2).1 (z 2).2 (z 0).1 (z 0).2 px py]
theorem numR_qV {p z:Int} {d g:Nat} (hd:0<d) (hg:0<g):numR p z d=qV ((p+z)*g) (d*g):=by
 unfold numR qV
 congr 2
 have n1:((d:Int):Rat)≠0:=fun e=>by have:=Rat.intCast_eq_zero_iff.1 e; omega
 have n2:((g:Int):Rat)≠0:=fun e=>by have:=Rat.intCast_eq_zero_iff.1 e; omega
 rw [show (((d*g:Nat):Int):Rat)=((d:Int):Rat)*((g:Int):Rat) from by rw [Int.natCast_mul,Rat.intCast_mul],Rat.intCast_mul]
 generalize ((p+z:Int):Rat)=a at *
 generalize ((d:Int):Rat)=u at *
 generalize ((g:Int):Rat)=t at *
 grind
theorem bools_mem:∀ l:List Bool,l∈boolsC l.length
 | []=>by simp [boolsC]
 | b::l=>by
  have:=bools_mem l
  simp only [List.length_cons,boolsC,List.mem_flatMap]
  refine⟨l,this,?_⟩
  cases b <;> simp
theorem ptsR_get {d:Nat} {x y:Int}:∀ (pts:List (Int × Int)) (c:Nat) (p:Int × Int),pts[c]? = some p→(ptsR d x y pts)[2*c]? = some (numR p.1 x d)∧(ptsR d x y pts)[2*c+1]? = some (numR p.2 y d)
 | [],c,p,h=>by simp at h
 | q::pts,0,p,h=>by
  simp at h; subst h; exact⟨rfl,rfl⟩
 | q::pts,c+1,p,h=>by
  have ih:=ptsR_get (d:=d) (x:=x) (y:=y) pts c p (by simpa using h)
  have e:ptsR d x y (q::pts)=numR q.1 x d::numR q.2 y d::ptsR d x y pts:=rfl
  rw [e,show 2*(c+1)=2*c+1+1 from by omega]
  simp only [List.getElem?_cons_succ]
  exact ih
theorem ptsR_len {d:Nat} {x y:Int}:∀ pts:List (Int × Int),(ptsR d x y pts).length=2*pts.length
 | []=>rfl
 | q::pts=>by
  have ih:=ptsR_len (d:=d) (x:=x) (y:=y) pts
  have e:ptsR d x y (q::pts)=numR q.1 x d::numR q.2 y d::ptsR d x y pts:=rfl
  rw [e]
  simp only [List.length_cons,ih]
  omega
theorem ptsR_one {d:Nat} {x y:Int} (pts:List (Int × Int)):∀ v∈ptsR d x y pts,oneV v:=fun v hv=>by
 simp only [ptsR,List.mem_flatMap,List.mem_cons,List.not_mem_nil,or_false] at hv
 obtain⟨p,_,rfl | rfl⟩:=hv <;> trivial
set_option maxHeartbeats 1000000 in
theorem contains_ok {M:Mem} (hg:Good M) {d g nt:Nat} {s0 s1:Int} {pts:List (Int × Int)} {tris:List Int} {b0 c0 b1 c1:Nat} (hraw:MeshRaw d s0 s1 pts tris nt (slV b0 pts.length c0) (slV b1 nt c1) M)
  (hck:CallOk Tryz.prog M 72 [.agg #[slV b0 pts.length c0,slV b1 nt c1]] (.int .i64 0)) (hk:(pts.length,tris)∈kindsC) (hnt:nt=tris.length/3) (hcor:(tris.all fun n=>decide (0≤n)&&decide (n<pts.length))=true) (hd:0<d) (hg0:0<g) (hD:d*g∈dens)
  (hbig:∀ p∈pts,Big ((p.1+s0)*g)∧Big ((p.2+s1)*g)) {px py:Int} (hp:BigX px) (hq:Big py) :
  ∃ b:Bool,CallOk Tryz.prog M 34 [.agg #[slV b0 pts.length c0,slV b1 nt c1],qP px py (d*g)] (.tuple #[.bool b,.int .i64 0]):=by
 let β:=(List.range (tris.length/3)).map (hasC pts tris s0 s1 g px py)
 have hβ:β.length=tris.length/3:=by simp [β]
 have hrun:=List.all_eq_true.1 (List.all_eq_true.1 runLo_all _ hk) β (by have:=bools_mem β; rw [hβ] at this; exact this)
 simp only [runLo,Bool.and_eq_true] at hrun
 obtain⟨b0',c0',b1',c1',y0,y1,hc0,hc1,zf0,zf1,⟨rc0,ty0,fr0,rest0,g0,e0⟩,rc1,ty1,fr1,rest1,g1,e1⟩:=hraw.raw
 obtain⟨rfl,_,rfl⟩:=slV_inj' y0
 obtain⟨rfl,_,rfl⟩:=slV_inj' y1
 let ls:List Value:=ptsR d s0 s1 pts++[qV px (d*g),qV py (d*g)]
 let o:Nat→Value:=fun i=>(ls[i]?).getD .nilFunc
 have hpl:(ptsR d s0 s1 pts).length=2*pts.length:=ptsR_len pts
 have oo:∀ i,oneV (o i):=fun i=>by
  show oneV ((ls[i]?).getD .nilFunc)
  cases h:ls[i]? with
  | none=>trivial
  | some y=>
   have:=List.mem_of_getElem? h
   simp only [ls,List.mem_append,List.mem_cons,List.not_mem_nil,or_false] at this
   rcases this with h | rfl | rfl
   ·exact ptsR_one pts _ h
   ·trivial
   ·trivial
 let w0:Base:={ toMem:=M,sym:=symX (fun _=>0) o (cxLo pts.length).tab,stat:=fun n=>if n=32 then { blk:=b0,size:=c0,unit:=1 } else { blk:=b1,size:=0,unit:=1 } }
 have sy:∀ i,i<2*pts.length+2→w0.sym i=o i:=fun i hi=>by
  show symX _ o (T.ofList .e 0 ((List.range (2*pts.length+2)).map SE.opq)) i=o i
  unfold symX
  rw [T.get_ofList,if_pos ⟨Nat.zero_le _,by simp; omega⟩,Nat.sub_zero,List.getElem?_map,List.getElem?_range hi]; rfl
 have vs:∀ E,StatOk w0 E → ∀ i,i<2*pts.length+2→VR E (syC i) (o i):=fun E hE i hi=>by show o i=E.sym i; rw [hE.sym,sy i hi]
 have o_pt:∀ c p,pts[c]? = some p→o (2*c)=qV ((p.1+s0)*g) (d*g)∧o (2*c+1)=qV ((p.2+s1)*g) (d*g):=fun c p hc=>by
  obtain⟨h1,h2⟩:=ptsR_get (d:=d) (x:=s0) (y:=s1) pts c p hc
  have l1:=(List.getElem?_eq_some_iff.1 h1).1
  have l2:=(List.getElem?_eq_some_iff.1 h2).1
  refine⟨?_,?_⟩
  ·show ((ptsR d s0 s1 pts++[qV px (d*g),qV py (d*g)])[2*c]?).getD .nilFunc=_
   rw [List.getElem?_append_left l1,h1,← numR_qV hd hg0]; rfl
  ·show ((ptsR d s0 s1 pts++[qV px (d*g),qV py (d*g)])[2*c+1]?).getD .nilFunc=_
   rw [List.getElem?_append_left l2,h2,← numR_qV hd hg0]; rfl
 have o_px:o (2*pts.length)=qV px (d*g):=by
  show ((ptsR d s0 s1 pts++[qV px (d*g),qV py (d*g)])[2*pts.length]?).getD .nilFunc=_
  rw [List.getElem?_append_right (by omega),hpl,Nat.sub_self]; rfl
 have o_py:o (2*pts.length+1)=qV py (d*g):=by
  show ((ptsR d s0 s1 pts++[qV px (d*g),qV py (d*g)])[2*pts.length+1]?).getD .nilFunc=_
  rw [List.getElem?_append_right (by omega),hpl,show 2*pts.length+1-2*pts.length=1 from by omega]; rfl
 have vQ:∀ E,StatOk w0 E→VR E (qpt pts.length) (qP px py (d*g)):=fun E hE=>
  ⟨[o (2*pts.length),o (2*pts.length+1)],VRL.cons (vs E hE (2*pts.length) (by omega)) (VRL.cons (vs E hE (2*pts.length+1) (by omega)) VRL.nil),by rw [o_px,o_py]; rfl⟩
 have e32:slV b0 pts.length c0 = .slice (some ⟨b0,0,none⟩) pts.length (capOf { blk:=b0,size:=c0,unit:=1 } 0 (2*pts.length+1)):=by
  unfold capOf slV
  rw [if_neg (by omega)]
  simp only [Nat.sub_zero,Nat.div_one]
  congr 1
  omega
 have e33:slV b1 nt c1 = .slice (some ⟨b1,0,none⟩) (tris.length/3) (capOf { blk:=b1,size:=0,unit:=1 } 0 (2*(tris.length/3))):=by
  unfold capOf slV
  rw [if_pos (by omega),Nat.mul_div_cancel_left _ (by omega),← hnt,hc1]
 have vM:∀ E,StatOk w0 E→VR E (.agg [.slice 32 0 pts.length (2*pts.length+1),.slice 33 0 (tris.length/3) (2*(tris.length/3))]) (.agg #[slV b0 pts.length c0,slV b1 nt c1]):=fun E hE=>
  ⟨[_,_],VRL.cons ⟨_,hE.stat 32 (by omega) (by omega),e32⟩ (VRL.cons ⟨_,hE.stat 33 (by omega) (by omega),e33⟩ VRL.nil),rfl⟩
 have hmo:Memos Tryz.prog w0 (memoLo pts.length tris β):=by
  intro r hr s hs
  simp only [memoLo,List.mem_cons,List.not_mem_nil,or_false] at hr
  rcases hr with rfl | rfl | rfl
  ·simp only [List.mem_cons,List.not_mem_nil,or_false] at hs
   subst hs
   exact hck.contract (v:=.int .i64 0) (Mem.Le.refl _) (fun E hE=>VRL.cons (vM E hE) VRL.nil) (fun E hE=>rfl)
  ·simp only [List.mem_cons,List.not_mem_nil,or_false] at hs
   subst hs
   exact (pointQ_ok hg hD hp hq).contract (v:=.int .i64 0) (Mem.Le.refl _) (fun E hE=>VRL.cons (vQ E hE) VRL.nil) (fun E hE=>rfl)
  ·simp only [List.mem_map,List.mem_range] at hs
   obtain⟨i,hi,rfl⟩:=hs
   have hc:∀ k,k<3 → ∃ p,pts[corC tris i k]? = some p∧p∈pts∧corC tris i k<pts.length:=fun k hk=>by
    have hik:3*i+k<tris.length:=by omega
    have:=List.all_eq_true.1 hcor tris[3*i+k] (List.getElem_mem hik)
    simp only [Bool.and_eq_true,decide_eq_true_eq] at this
    have hlt:corC tris i k<pts.length:=by
     unfold corC
     rw [List.getElem?_eq_getElem hik]
     simp only [Option.getD_some]
     omega
    exact⟨pts[corC tris i k],List.getElem?_eq_getElem hlt,List.getElem_mem hlt,hlt⟩
   obtain⟨p,hp0,mp,lp⟩:=hc 0 (by omega)
   obtain⟨q,hq0,mq,lq⟩:=hc 1 (by omega)
   obtain⟨r,hr0,mr,lr⟩:=hc 2 (by omega)
   have h:=insideQ_ok hg hD (hbig p mp).1 (hbig p mp).2 (hbig q mq).1 (hbig q mq).2 (hbig r mr).1 (hbig r mr).2 hp hq
   have hb:(β[i]?).getD false=has3 [areaQ ((p.1+s0)*g) ((p.2+s1)*g) ((q.1+s0)*g) ((q.2+s1)*g) px py,areaQ ((q.1+s0)*g) ((q.2+s1)*g) ((r.1+s0)*g) ((r.2+s1)*g) px py,areaQ ((r.1+s0)*g) ((r.2+s1)*g) ((p.1+s0)*g) ((p.2+s1)*g) px py]:=by
    show (((List.range (tris.length/3)).map (hasC pts tris s0 s1 g px py))[i]?).getD false=_
    rw [List.getElem?_map,List.getElem?_range hi]
    show hasC pts tris s0 s1 g px py i=_
    unfold hasC corZ
    simp only [hp0,hq0,hr0,Option.getD_some]
   rw [hb]
   refine h.contract (v:=.bool _) (Mem.Le.refl _) (fun E hE=>VRL.cons ⟨[o (2*corC tris i 0),o (2*corC tris i 0+1),o (2*corC tris i 1),o (2*corC tris i 1+1),o (2*corC tris i 2),o (2*corC tris i 2+1)],?_,?_⟩ (VRL.cons (vQ E hE) VRL.nil)) (fun E hE=>rfl)
   ·show VRL E [syC (2*corC tris i 0),syC (2*corC tris i 0+1),syC (2*corC tris i 1),syC (2*corC tris i 1+1),syC (2*corC tris i 2),syC (2*corC tris i 2+1)] _
    exact VRL.cons (vs E hE _ (by omega)) (VRL.cons (vs E hE _ (by omega)) (VRL.cons (vs E hE _ (by omega)) (VRL.cons (vs E hE _ (by omega)) (VRL.cons (vs E hE _ (by omega)) (VRL.cons (vs E hE _ (by omega)) VRL.nil)))))
   ·rw [(o_pt _ _ hp0).1,(o_pt _ _ hp0).2,(o_pt _ _ hq0).1,(o_pt _ _ hq0).2,(o_pt _ _ hr0).1,(o_pt _ _ hr0).2]
 have hC:CXOk w0 (fun _=>0) o (cxLo pts.length):=by
  refine⟨fun _ _ _=>rfl,fun v => ?_,(fun f hf=>by cases hf),(fun r hr=>by cases hr),(fun p hp=>by cases hp),oo,hg.pow _ _,hg.tabs⟩
  show Iv.has (((T.e:T Iv).get v).getD (0,0)) 0
  rw [T.get_e]
  exact⟨Int.le_refl _,Int.le_refl _⟩
 have hK:KitOk w0 (fun _=>0) o (kitLo pts.length tris β):=by
  refine⟨hC,(fun f args v hv=>tmk_prim hmo hv),(fun f es he=>by simp [kitLo,T.get_e] at he),fun n cs hn => ?_,(fun p hp=>by cases hp),(fun p hp=>by cases hp),(fun p hp=>by cases hp)⟩
  have hn:=tmk_mem hn
  simp only [List.mem_cons,List.not_mem_nil,or_false] at hn
  rcases hn with hn | hn
  ·cases hn
   refine⟨by omega,by omega,(Array.getElem?_eq_some_iff.1 g0).1,zf0,rc0,ty0,fr0,g0,fun E hE=>⟨_,rest0,VRL.of_get (by simp [hpl]) fun k v y h2 h3 => ?_,e0⟩⟩
   have hk:=(List.getElem?_eq_some_iff.1 h3).1
   rw [hpl] at hk
   simp only [List.getElem?_map,List.getElem?_range hk,Option.map_some,Option.some.injEq] at h2
   subst h2
   show y=E.sym k
   rw [hE.sym,sy k (by omega)]
   show y=((ptsR d s0 s1 pts++[qV px (d*g),qV py (d*g)])[k]?).getD .nilFunc
   rw [List.getElem?_append_left (by omega),h3]; rfl
  ·cases hn
   exact⟨by omega,by omega,(Array.getElem?_eq_some_iff.1 g1).1,zf1,rc1,ty1,fr1,g1,fun E hE=>⟨_,rest1,ints_ok' _,e1⟩⟩
 have hone:∀ i,oneV (w0.sym i):=fun i=>symX_one oo i
 have hE0:StatOk w0 (baseE w0 hone):=base_stat
 exact⟨β.any id,(Kit.run hK hrun.1 hrun.2).callOk (hE:=hE0) (VRL.cons (vM _ hE0) (VRL.cons (vQ _ hE0) VRL.nil)) ⟨[.bool (β.any id),.int .i64 0],VRL.cons rfl (VRL.cons rfl VRL.nil),rfl⟩⟩
noncomputable def seEq:SE→SE→Bool
 | .int k p,.int j q=>kindEq k j&&Poly.same p q
 | .opq a,.opq b=>Nat.beq a b
 | _,_=>false
noncomputable def tabHas (tab:T SE):Nat→List SE→Bool
 | _,[]=>true
 | k,e::l=>(match tab.get k with | some x=>seEq x e | none=>false)&&tabHas tab (k+1) l
theorem tabHas_get:∀ {l:List SE} {tab:T SE} {k:Nat},tabHas tab k l=true → ∀ (i:Nat) (e:SE),l[i]? = some e → ∃ x,tab.get (k+i)=some x∧seEq x e=true
 | [],tab,k,h,i,e,hi=>by simp at hi
 | a::l,tab,k,h,i,e,hi=>by
  simp only [tabHas,Bool.and_eq_true] at h
  cases i with
  | zero=>
   simp at hi; subst hi
   have:=h.1
   split at this
   ·rename_i x hx
    exact⟨x,hx,this⟩
   ·cases this
  | succ i=>
   obtain⟨x,hx,he⟩:=tabHas_get h.2 i e (by simpa using hi)
   exact⟨x,by rw [show k+(i+1)=k+1+i from by omega]; exact hx,he⟩
theorem symX_int {x:Nat→Int} {o:Nat→Value} {tab:T SE} {i:Nat} {e:SE} {k:IntKind} {p:Poly} (h:tab.get i=some e) (he:seEq e (.int k p)=true):symX x o tab i = .int k (Poly.ev x p):=by
 unfold symX
 rw [h]
 cases e with
 | int j q=>
  simp only [seEq,Bool.and_eq_true] at he
  rw [kindEq_iff.1 he.1,← Poly.ev_same x he.2]
 | _=>cases he
theorem symX_opq {x:Nat→Int} {o:Nat→Value} {tab:T SE} {i:Nat} {e:SE} {j:Nat} (h:tab.get i=some e) (he:seEq e (.opq j)=true):symX x o tab i=o j:=by
 unfold symX
 rw [h]
 cases e with
 | opq a=>rw [nbeq_true (show Nat.beq a j=true from he)]
 | _=>cases he
def sumP (c:Nat):Nat→Poly
 | 0=>[]
 | m+1=>Poly.add (sumP c m) (P0 (8*c+m))
def wayP (c np i:Nat):Poly:=psub (sumP c np) (Poly.scl (np:Int) (P0 (8*c+i)))
def atP (c np i k:Nat):Poly:=Poly.add (Poly.scl ((4*np:Nat):Int) (P0 (8*c+i))) (Poly.scl (k:Int) (wayP c np i))
def numsSp (c np d i k:Nat):List SE:=((List.range 6).map fun j=>SE.num ⟨P0 (8*c+j),d⟩)++[.opq 0]++((List.range 6).map fun m=>SE.num ⟨sumP c (m+1),d⟩) ++
 [.num ⟨sumP c np,d*np⟩,.num ⟨Poly.scl (-1) (P0 (8*c+i)),d⟩,.num ⟨wayP c np i,d*np⟩,.num ⟨Poly.scl (k:Int) (wayP c np i),d*(4*np)⟩,.num ⟨atP c np i k,d*(4*np)⟩]++(List.range 14).map fun _=>.opq 0
def tailSp:List SE:=[.int .u8 (P0 16),.int .i64 (P0 16),.int .u8 (P0 17),.opq 1]
def tabSp (np d i k:Nat):List SE:=numsSp 0 np d i k++numsSp 1 np d i k++tailSp
def rgSp:Iv:=(-20,20)
def bdSp:List Iv:=List.replicate 16 rgSp++[(0,255),(0,255)]
noncomputable def cxSp (np d i k:Nat):CX:=⟨T.ofList .e 0 (tabSp np d i k),T.ofList .e 0 bdSp,[],[(P0 16,np,[([],(i:Int))]),(P0 17,4,[([],(k:Int))])],[]⟩
def overS (np:Nat):V:=.str [49,47,UInt8.ofNat (48+np)]
def partS (k:Nat):V:=match k with | 0=>.str [48] | 1=>.str [49,47,52] | 2=>.str [49,47,50] | _=>.str [51,47,52]
def addsSp (c np i:Nat):List (List V × V):=([.str [48],syC (32*c)],syC (32*c+7))::((List.range (np-1)).map fun m=>([syC (32*c+7+m),syC (32*c+1+m)],syC (32*c+8+m)))++[([syC (32*c+13),syC (32*c+14)],syC (32*c+15)),([syC (32*c+i),syC (32*c+16)],syC (32*c+17))]
def mulsSp (c np k:Nat):List (List V × V):=[([syC (32*c+6+np),overS np],syC (32*c+13)),([partS k,syC (32*c+15)],syC (32*c+16))]
noncomputable def rowsSp (np i k:Nat):Rows:=((((T.e:Rows).set 66 (bq (addsSp 0 np i++addsSp 1 np i))).set 67 (bq (mulsSp 0 np k++mulsSp 1 np k))).set 165 (bq [([syC i],syC 14),([syC (32+i)],syC 46)])).set
 27 (bq [([.int .i64 0,.int .i64 1],.str [48]),([.int .i64 1,.int .i64 (Int.ofNat np)],overS np),([.int .i64 (Int.ofNat k),.int .i64 4],partS k)])
def ptsSp (np:Nat):List V:=((List.range' 0 np).map fun j=>[syC j,syC (32+j)]).flatten
def ptsNs (d k np:Nat):List Num:=((List.range' k np).map fun j=>[(⟨P0 j,d⟩:Num),⟨P0 (8+j),d⟩]).flatten
def ans (np d i k:Nat):List Num:=[⟨atP 0 np i k,d*(4*np)⟩,⟨atP 1 np i k,d*(4*np)⟩]
noncomputable def smallP (c:CX) (p:Poly):Bool:=ile (-2000) (ivP c.b p).1&&ile (ivP c.b p).2 2000
noncomputable def kitSp (np d i k:Nat):Kit:=⟨cxSp np d i k,[⟨.rem,syC 65,.int .i64 (Int.ofNat np),.int .i64 (Int.ofNat i)⟩,⟨.rem,syC 66,.int .u8 4,.int .u8 (Int.ofNat k)⟩],[⟨64,.i64,syC 65⟩],rowsSp np i k,.e,.e,tmk [(32,ptsSp np)],⟨[],[],[]⟩⟩
noncomputable def runSp (np d i k:Nat):Bool:=(kitSp np d i k).chk&&numsEq (cxSp np d i k) (ptsNs d 0 np) (ptsSp np)&&numsEq (cxSp np d i k) (ans np d i k) [syC 17,syC 49]&&tabHas (T.ofList .e 0 (tabSp np d i k)) 64 tailSp&&smallP (cxSp np d i k) (atP 0 np i k)&&smallP (cxSp np d i k) (atP 1 np i k)&&memoOk (kitSp np d i k).tab 10000 60 26 [.agg [.slice 32 0 np (2*np+1),syC 67],.agg [syC 64,syC 66]] (.agg [syC 17,syC 49])
theorem runSp3:([1,2].all fun d=>(List.range 3).all fun i=>(List.range 4).all fun k=>runSp 3 d i k)=true:=by kernel_rfl
theorem runSp4:([1,2].all fun d=>(List.range 4).all fun i=>(List.range 4).all fun k=>runSp 4 d i k)=true:=by kernel_rfl
theorem runSp5:([1,2].all fun d=>(List.range 5).all fun i=>(List.range 4).all fun k=>runSp 5 d i k)=true:=by kernel_rfl
theorem runSp6:([1,2].all fun d=>(List.range 6).all fun i=>(List.range 4).all fun k=>runSp 6 d i k)=true:=by kernel_rfl
theorem runSp_all {np d i k:Nat} (hn:np=3∨np=4∨np=5∨np=6) (hd:d=1∨d=2) (hi:i<np) (hk:k<4):runSp np d i k=true:=by
 have hd:d∈[1,2]:=by simp only [List.mem_cons,List.not_mem_nil,or_false]; exact hd
 rcases hn with rfl | rfl | rfl | rfl
 ·exact List.all_eq_true.1 (List.all_eq_true.1 (List.all_eq_true.1 runSp3 d hd) i (List.mem_range.2 hi)) k (List.mem_range.2 hk)
 ·exact List.all_eq_true.1 (List.all_eq_true.1 (List.all_eq_true.1 runSp4 d hd) i (List.mem_range.2 hi)) k (List.mem_range.2 hk)
 ·exact List.all_eq_true.1 (List.all_eq_true.1 (List.all_eq_true.1 runSp5 d hd) i (List.mem_range.2 hi)) k (List.mem_range.2 hk)
 ·exact List.all_eq_true.1 (List.all_eq_true.1 (List.all_eq_true.1 runSp6 d hd) i (List.mem_range.2 hi)) k (List.mem_range.2 hk)
def xSp (pts:List (Int × Int)) (s0 s1 x0 x1:Int) (v:Nat):Int:=if v<8 then ((pts[v]?).map fun p=>p.1+s0).getD 0 else if v<16 then ((pts[v-8]?).map fun p=>p.2+s1).getD 0 else if v=16 then x0 else if v=17 then x1 else 0
theorem ptsNs_val {x:Nat→Int} {d:Nat} {s0 s1:Int}:∀ (pts:List (Int × Int)) (k:Nat),(∀ j p,pts[j]? = some p→x (k+j)=p.1+s0∧x (8+(k+j))=p.2+s1)→(ptsNs d k pts.length).map (fun e=>strV (canon (e.val x)))=ptsR d s0 s1 pts
 | [],k,h=>rfl
 | q::pts,k,h=>by
  have ih:=ptsNs_val (x:=x) (d:=d) (s0:=s0) (s1:=s1) pts (k+1) fun j p hj=>by
   have:=h (j+1) p (by simpa using hj)
   rw [show k+1+j=k+(j+1) from by omega]
   exact this
  have e:ptsR d s0 s1 (q::pts)=numR q.1 s0 d::numR q.2 s1 d::ptsR d s0 s1 pts:=rfl
  have e':ptsNs d k (q::pts).length=⟨P0 k,d⟩::⟨P0 (8+k),d⟩::ptsNs d (k+1) pts.length:=rfl
  obtain⟨h1,h2⟩:=h 0 q rfl
  rw [e,e',List.map_cons,List.map_cons,ih]
  have v1:strV (canon (Num.val x ⟨P0 k,d⟩))=numR q.1 s0 d:=by
   unfold numR Num.val
   rw [ev_P0,show x k=q.1+s0 from h1]
  have v2:strV (canon (Num.val x ⟨P0 (8+k),d⟩))=numR q.2 s1 d:=by
   unfold numR Num.val
   rw [ev_P0,show x (8+k)=q.2+s1 from h2]
  rw [v1,v2]
set_option maxHeartbeats 1000000 in
theorem spot_ok {M:Mem} (hg:Good M) {d nt:Nat} {s0 s1:Int} {pts:List (Int × Int)} {tris:List Int} {b0 c0:Nat} {m1:Value} (hm1:oneV m1) (hraw:MeshRaw d s0 s1 pts tris nt (slV b0 pts.length c0) m1 M) (hn:pts.length=3∨pts.length=4∨pts.length=5∨pts.length=6) (hd:d=1∨d=2)
  (hb:∀ p∈pts,(-20≤p.1+s0∧p.1+s0≤20)∧(-20≤p.2+s1∧p.2+s1≤20)) {x0 x1:Int} (h0:0≤x0∧x0≤255) (h1:0≤x1∧x1≤255) :
  ∃ zx zy:Int,Big zx∧Big zy∧CallOk Tryz.prog M 26 [.agg #[slV b0 pts.length c0,m1],.agg #[.int .u8 x0,.int .u8 x1]] (qP zx zy (d*(4*pts.length))):=by
 obtain⟨b0',c0',b1',c1',y0,y1,hc0,hc1,zf0,zf1,⟨rc0,ty0,fr0,rest0,g0,e0⟩,_⟩:=hraw.raw
 obtain⟨rfl,_,rfl⟩:=slV_inj' y0
 have hnp:0<pts.length:=by omega
 obtain⟨ir1,ir2⟩:=tmod_rn (z:=x0) hnp h0.1
 obtain⟨i,hi⟩:∃ i:Nat,x0.tmod pts.length=i:=⟨(x0.tmod pts.length).toNat,by omega⟩
 have hin:i<pts.length:=by omega
 obtain⟨kr1,kr2⟩:=tmod_rn (z:=x1) (n:=4) (by omega) h1.1
 obtain⟨k,hk⟩:∃ k:Nat,x1.tmod (4:Nat)=k:=⟨(x1.tmod (4:Nat)).toNat,by omega⟩
 have hkn:k<4:=by omega
 have hrun:=runSp_all hn hd hin hkn
 simp only [runSp,Bool.and_eq_true] at hrun
 obtain⟨⟨⟨⟨⟨⟨r1,r2⟩,r3⟩,r4⟩,r5⟩,r6⟩,r7⟩:=hrun
 let x:=xSp pts s0 s1 x0 x1
 let o:Nat→Value:=fun j=>if j=1 then m1 else .nilFunc
 have oo:∀ j,oneV (o j):=fun j=>by
  show oneV (if j=1 then m1 else .nilFunc)
  split
  ·exact hm1
  ·trivial
 let w0:Base:={ toMem:=M,sym:=symX x o (cxSp pts.length d i k).tab,stat:=fun _=>{ blk:=b0,size:=c0,unit:=1 } }
 have hx16:∀ v,v<16 → -20≤x v∧x v≤20:=fun v hv=>by
  show -20≤xSp pts s0 s1 x0 x1 v∧xSp pts s0 s1 x0 x1 v≤20
  unfold xSp
  by_cases hv8:v<8
  ·rw [if_pos hv8]
   cases hp:pts[v]? with
   | none=>exact⟨show (-20:Int)≤0 by decide,show (0:Int)≤20 by decide⟩
   | some p=>exact (hb p (List.mem_of_getElem? hp)).1
  ·rw [if_neg hv8,if_pos hv]
   cases hp:pts[v-8]? with
   | none=>exact⟨show (-20:Int)≤0 by decide,show (0:Int)≤20 by decide⟩
   | some p=>exact (hb p (List.mem_of_getElem? hp)).2
 have hC:CXOk w0 x o (cxSp pts.length d i k):=by
  refine⟨fun _ _ _=>rfl,fun v => ?_,(fun f hf=>by cases hf),(fun r hr => ?_),(fun p hp=>by cases hp),oo,hg.pow _ _,hg.tabs⟩
  ·show Iv.has (((T.ofList .e 0 bdSp).get v).getD (0,0)) (x v)
   rw [T.get_ofList]
   by_cases hv:v<18
   ·rw [if_pos ⟨Nat.zero_le _,by simp [bdSp]; omega⟩,Nat.sub_zero]
    by_cases hv16:v<16
    ·rw [show bdSp=List.replicate 16 rgSp++[(0,255),(0,255)] from rfl,List.getElem?_append_left (by simpa using hv16),List.getElem?_replicate,if_pos hv16]
     exact hx16 v hv16
    ·have:v=16∨v=17:=by omega
     rcases this with rfl | rfl
     ·exact h0
     ·exact h1
   ·rw [if_neg (by simp [bdSp]; omega),T.get_e]
    have:x v=0:=by
     show xSp pts s0 s1 x0 x1 v=0
     unfold xSp
     rw [if_neg (by omega),if_neg (by omega),if_neg (by omega),if_neg (by omega)]
    rw [this]
    exact⟨Int.le_refl _,Int.le_refl _⟩
  ·have hr:r∈[(P0 16,pts.length,[(([]:Mono),(i:Int))]),(P0 17,4,[([],(k:Int))])]:=hr
   simp only [List.mem_cons,List.not_mem_nil,or_false] at hr
   rcases hr with rfl | rfl
   ·rw [ev_P0]
    show x0.tmod pts.length=(i:Int)*1+0
    rw [hi]; omega
   ·rw [ev_P0]
    show x1.tmod (4:Nat)=(k:Int)*1+0
    rw [hk]; omega
 have hpts:∀ E,StatOk w0 E→VRL E (ptsSp pts.length) (ptsR d s0 s1 pts):=fun E hE=>by
  have:=numsEq_ok hC hE r2
  rwa [ptsNs_val (x:=x) pts 0 fun j p hj => ?_] at this
  have hlt:=(List.getElem?_eq_some_iff.1 hj).1
  refine⟨?_,?_⟩
  ·show xSp pts s0 s1 x0 x1 (0+j)=_
   unfold xSp
   rw [if_pos (by omega),Nat.zero_add,hj]; rfl
  ·show xSp pts s0 s1 x0 x1 (8+(0+j))=_
   unfold xSp
   rw [if_neg (by omega),if_pos (by omega),show 8+(0+j)-8=j from by omega,hj]; rfl
 have hK:KitOk w0 x o (kitSp pts.length d i k):=by
  refine⟨hC,(fun f args v hv=>by simp [kitSp,primOf,T.get_e] at hv),(fun f es he=>by simp [kitSp,T.get_e] at he),fun n cs hn => ?_,(fun p hp=>by cases hp),(fun p hp=>by cases hp),(fun p hp=>by cases hp)⟩
  have hn:=tmk_mem hn
  cases List.mem_singleton.1 hn
  exact⟨by omega,by omega,(Array.getElem?_eq_some_iff.1 g0).1,zf0,rc0,ty0,fr0,g0,fun E hE=>⟨_,rest0,hpts E hE,e0⟩⟩
 have hone:∀ i,oneV (w0.sym i):=fun i=>symX_one oo i
 have hE0:StatOk w0 (baseE w0 hone):=base_stat
 have s64:∀ j kd v,tailSp[j]? = some (.int kd (P0 v))→w0.sym (64+j) = .int kd (x v):=fun j kd v hj=>by
  obtain⟨e,he,hs⟩:=tabHas_get r4 j _ hj
  show symX x o (T.ofList .e 0 (tabSp pts.length d i k)) (64+j)=_
  rw [symX_int he hs,ev_P0]
 have s67:w0.sym 67=m1:=by
  obtain⟨e,he,hs⟩:=tabHas_get r4 3 (.opq 1) rfl
  show symX x o (T.ofList .e 0 (tabSp pts.length d i k)) (64+3)=_
  rw [symX_opq he hs]; rfl
 have hans:=numsEq_ok hC hE0 r3
 have sm:∀ p,smallP (cxSp pts.length d i k) p=true→Big (Poly.ev x p):=fun p hp=>by
  simp only [smallP,Bool.and_eq_true] at hp
  have h:=ivP_ok hC.bd p
  have l1:=of_decide_eq_true hp.1
  have l2:=of_decide_eq_true hp.2
  exact⟨Int.le_trans l1 h.1,Int.le_trans h.2 l2⟩
 refine⟨Poly.ev x (atP 0 pts.length i k),Poly.ev x (atP 1 pts.length i k),sm _ r5,sm _ r6,(Kit.run hK r1 r7).callOk (hE:=hE0) (VRL.cons ⟨[_,_],VRL.cons ⟨_,hE0.stat 32 (by omega) (by omega),?_⟩ (VRL.cons ?_ VRL.nil),rfl⟩ (VRL.cons ⟨[_,_],VRL.cons ?_ (VRL.cons ?_ VRL.nil),rfl⟩ VRL.nil)) ⟨_,hans,rfl⟩⟩
 ·show slV b0 pts.length c0 = .slice (some ⟨b0,0,none⟩) pts.length (capOf { blk:=b0,size:=c0,unit:=1 } 0 (2*pts.length+1))
  unfold capOf slV
  rw [if_neg (by omega)]
  simp only [Nat.sub_zero,Nat.div_one]
  congr 1
  omega
 ·show m1=(baseE w0 hone).sym 67
  rw [hE0.sym,s67]
 ·show _=(baseE w0 hone).sym 64
  rw [hE0.sym,s64 0 .u8 16 rfl]; rfl
 ·show _=(baseE w0 hone).sym 66
  rw [hE0.sym,s64 2 .u8 17 rfl]; rfl
end Go.Proofs.YtogialghppmdfaaGreatDoor
