/-
  klippelaw37.SectionChecks behind klippelaw37.Make: its answers, by the evaluator.
-/
import Derived.Test.YtogialghppmdfaaGreatDoorSecX
import Derived.Test.YtogialghppmdfaaGreatDoorWkOf
set_option linter.unusedSectionVars false
set_option linter.unusedVariables false
set_option linter.unusedSimpArgs false
namespace Go.Proofs.YtogialghppmdfaaGreatDoor
open Go.RowKit Go Ev Klp
def PairOk (M:Mem) (l:List Value) (z:Int):Prop:=CallOk Tryz.prog M 8 [.agg l.toArray] (.int .i64 z)∧CallOk Tryz.prog M 9 [.agg l.toArray] (.int .i64 z)
def lineV:List V:=[syC 0,syC 1,syC 2,syC 3,syC 4,syC 5,syC 6,syC 7,syC 8,syC 9,syC 10]
def histM:V:=.agg [syC 0,syC 1,syC 2,syC 3]
def meshM:V:=.agg [syC 0,syC 1]
def mHm (v:V):Nat × List (List V × V):=(30,[([histM],v)])
def mFm (v:V):Nat × List (List V × V):=(31,[([meshM,syC 4],v)])
noncomputable def pairOk (k:Kit) (cells:List V) (v:V):Bool:=memoOk k.tab 10000 60 8 [.agg cells] v&&memoOk k.tab 10000 60 9 [.agg cells] v
noncomputable def cxPa:CX:=⟨T.ofList .e 0 ((List.range 11).map .opq++[.int .i64 (P0 0)]),T.ofList .e 0 [(0,40)],[(P0 0,⟨false,false,true⟩)],[],[]⟩
noncomputable def kitPa (m:Memo):Kit:=⟨cxPa,[],[],.e,tmk m,.e,.e,⟨[],[],[]⟩⟩
theorem runPa1:pairOk (kitPa [mHm (syC 11)]) lineV (syC 11)=true:=by kernel_rfl
theorem runPa2:pairOk (kitPa [mHm (.int .i64 0),mFm (syC 11)]) lineV (syC 11)=true:=by kernel_rfl
theorem memos_nil {P:Program} {w0:Base}:Memos P w0 []:=fun _ h=>by cases h
theorem memos_cons {P:Program} {w0:Base} {f:Nat} {a:List V} {v:V} {l:Memo} (h:Contract P w0 f a v) (hl:Memos P w0 l):Memos P w0 ((f,[(a,v)])::l):=fun q hq p hp=>by
 rcases List.mem_cons.1 hq with rfl | hq
 ·rw [List.mem_singleton.1 hp]; exact h
 ·exact hl q hq p hp
theorem memos_more {P:Program} {w0:Base} {f:Nat} {rs:List (List V × V)} {l:Memo} (h:∀ p∈rs,Contract P w0 f p.1 p.2) (hl:Memos P w0 l):Memos P w0 ((f,rs)::l):=fun q hq p hp=>by
 rcases List.mem_cons.1 hq with rfl | hq
 ·exact h p hp
 ·exact hl q hq p hp
def oPa (l:List Value) (j:Nat):Value:=(l[j]?).getD .nilFunc
def xPa (z:Int) (v:Nat):Int:=if v=0 then z else 0
noncomputable def basePa (M:Mem) (l:List Value) (z:Int):Base:={ toMem:=M,sym:=symX (xPa z) (oPa l) cxPa.tab }
section
variable {M:Mem} (hg:Good M) {l:List Value} (hl:l.length=11) (h1:∀ x∈l,oneV x) {z:Int} (hz:0<z∧z≤40)
include h1 in
theorem oPa_one (j:Nat):oneV (oPa l j):=by
 unfold oPa
 cases h:l[j]? with
 | none=>trivial
 | some x=>exact h1 x (List.mem_of_getElem? h)
theorem getPa (j:Nat):cxPa.tab.get j=(((List.range 11).map SE.opq++[.int .i64 (P0 0)]):List SE)[j]? := by
 show (T.ofList .e 0 _).get j=_
 rw [T.get_ofList]
 split
 ·rw [Nat.sub_zero]
 ·rename_i hi
  rw [T.get_e,List.getElem?_eq_none (by omega)]
theorem symPa_c {j:Nat} (hj:j<11):(basePa M l z).sym j=oPa l j:=by
 show symX (xPa z) (oPa l) cxPa.tab j=_
 unfold symX
 rw [getPa,List.getElem?_append_left (by simpa using hj),List.getElem?_map,List.getElem?_range hj]; rfl
theorem symPa_z:(basePa M l z).sym 11 = .int .i64 z:=by
 show symX (xPa z) (oPa l) cxPa.tab 11=_
 unfold symX
 rw [getPa,show (((List.range 11).map SE.opq++[.int .i64 (P0 0)]):List SE)[11]? = some (.int .i64 (P0 0)) from rfl]
 simp only [ev_P0]; rfl
include hl in
theorem cellsPa {E:Env} (hE:StatOk (basePa M l z) E):VRL E lineV l:=by
 refine VRL.of_get (by rw [hl]; rfl) fun k v y h2 h3 => ?_
 have hk:k<11:=by
  have:=(List.getElem?_eq_some_iff.1 h3).1
  rw [hl] at this; exact this
 have e:lineV=(List.range 11).map syC:=rfl
 rw [e,List.getElem?_map,List.getElem?_range hk,Option.map_some,Option.some.injEq] at h2
 subst h2
 show y=E.sym k
 rw [hE.sym,symPa_c hk]
 unfold oPa
 rw [h3]; rfl
theorem vzPa {E:Env} (hE:StatOk (basePa M l z) E):VR E (syC 11) (.int .i64 z):=by show _=E.sym 11; rw [hE.sym,symPa_z]
include hg h1 hz in
theorem kitPa_ok {m:Memo} (hm:Memos Tryz.prog (basePa M l z) m):KitOk (basePa M l z) (xPa z) (oPa l) (kitPa m):=by
 refine⟨⟨fun _ _ _=>rfl,fun v => ?_,fact_cons ?_ (fact_nil _),(fun r hr=>by cases hr),(fun p hp=>by cases hp),oPa_one h1,hg.pow _ _,hg.tabs⟩,fun f args v hv=>tmk_prim hm hv,(fun f es he=>by simp [kitPa,T.get_e] at he),
  (fun n cs hn=>by simp [kitPa,T.get_e] at hn),(fun p hp=>by cases hp),(fun p hp=>by cases hp),(fun p hp=>by cases hp)⟩
 ·show Iv.has (((T.ofList .e 0 [(0,40)]:T Iv).get v).getD (0,0)) (xPa z v)
  rw [T.get_ofList]
  by_cases hv:v=0
  ·subst hv
   exact⟨Int.le_of_lt hz.1,hz.2⟩
  ·rw [if_neg (by simp; omega),T.get_e]
   show Iv.has (0,0) (if v=0 then z else 0)
   rw [if_neg hv]
   exact⟨Int.le_refl _,Int.le_refl _⟩
 ·rw [ev_P0]
  exact⟨fun e=>by have:xPa z 0=z:=rfl; omega,fun e=>by have:xPa z 0=z:=rfl; omega,fun _=>rfl⟩
include hg h1 hl hz in
theorem pair_run {m:Memo} (hm:Memos Tryz.prog (basePa M l z) m) (hrun:pairOk (kitPa m) lineV (syC 11)=true):PairOk M l z:=by
 simp only [pairOk,Bool.and_eq_true] at hrun
 have hK:=kitPa_ok hg h1 hz hm
 have hone:∀ i,oneV ((basePa M l z).sym i):=fun i=>symX_one (oPa_one h1) i
 have hE0:StatOk (basePa M l z) (baseE _ hone):=base_stat
 exact⟨(Kit.run hK rfl hrun.1).callOk (hE:=hE0) (VRL.cons ⟨_,cellsPa hl hE0,rfl⟩ VRL.nil) (vzPa hE0),(Kit.run hK rfl hrun.2).callOk (hE:=hE0) (VRL.cons ⟨_,cellsPa hl hE0,rfl⟩ VRL.nil) (vzPa hE0)⟩
include hg h1 hl hz in
theorem pair_hist (hh:CallOk Tryz.prog M 30 [.agg (l.take 4).toArray] (.int .i64 z)):PairOk M l z:=
 pair_run hg hl h1 hz (memos_cons (hh.contract (args:=[histM]) (v:=syC 11) (Mem.Le.refl _) (fun E hE=>VRL.cons ⟨_,(cellsPa hl hE).take 4,rfl⟩ VRL.nil) fun E hE=>vzPa hE) memos_nil) runPa1
include hg h1 hl hz in
theorem pair_field (hh:CallOk Tryz.prog M 30 [.agg (l.take 4).toArray] (.int .i64 0)) {tv:Value} (htv:l[4]? = some tv) (hf:CallOk Tryz.prog M 31 [.agg (l.take 2).toArray,tv] (.int .i64 z)):PairOk M l z:=
 pair_run hg hl h1 hz (memos_cons (hh.contract (args:=[histM]) (v:=.int .i64 0) (Mem.Le.refl _) (fun E hE=>VRL.cons ⟨_,(cellsPa hl hE).take 4,rfl⟩ VRL.nil) fun E hE=>rfl) (memos_cons (hf.contract (args:=[meshM,syC 4]) (v:=syC 11) (Mem.Le.refl _) (fun E hE=>VRL.cons ⟨_,(cellsPa hl hE).take 2,rfl⟩ (VRL.cons (by
  show tv=E.sym 4
  rw [hE.sym,symPa_c (by omega)]
  unfold oPa
  rw [htv]; rfl) VRL.nil)) fun E hE=>vzPa hE) memos_nil)) runPa2
end
def tabPn (D:Nat):List SE:=(List.range 5).map .opq++[.num ⟨P0 0,D⟩,.num ⟨P0 1,D⟩,.num ⟨P0 2,D⟩,.num ⟨P0 3,D⟩,.num ⟨P0 4,2⟩,.num ⟨P0 5,2⟩]
def bdPn:List Iv:=[rgQ,rgQ,rgQ,rgQ,(-40,40),(-40,40)]
def fsPn (D:Nat):Nat→Facts
 | 0=>[(Num.diff ⟨P0 0,D⟩ ⟨P0 2,D⟩,ne0),(Num.diff ⟨P0 4,2⟩ ⟨P0 5,2⟩,⟨true,false,false⟩)]
 | _=>[(Num.diff ⟨P0 0,D⟩ ⟨P0 2,D⟩,ze0),(Num.diff ⟨P0 1,D⟩ ⟨P0 3,D⟩,ne0),(Num.diff ⟨P0 4,2⟩ ⟨P0 5,2⟩,⟨true,false,false⟩)]
noncomputable def cxPn (D cs:Nat):CX:=⟨T.ofList .e 0 (tabPn D),T.ofList .e 0 bdPn,fsPn D cs,[],[]⟩
def rowsPnC:List (List V × V):=[([syC 5],.int .i64 0),([syC 6],.int .i64 0),([syC 7],.int .i64 0),([syC 8],.int .i64 0),([syC 9],.int .i64 0),([syC 10],.int .i64 0)]
noncomputable def rowsPn:Rows:=((T.e:Rows).set 36 (bq rowsPnC)).set 37 (bq [([syC 9,syC 10],.int .i64 (-1)),([syC 9,syC 9],.int .i64 0)])
def mRm:Nat × List (List V × V):=(33,[([syC 5],.bool true),([syC 6],.bool true),([syC 7],.bool true),([syC 8],.bool true),([syC 9],.bool true),([syC 10],.bool true)])
def mCm:Nat × List (List V × V):=(35,[([syC 9,syC 10],.int .i64 (-1)),([syC 9,syC 9],.int .i64 0)])
def str999:List UInt8:=[57,57,57]
def farV:List V:=[.str str999,.str [48]]
def rowA (a:Bool):List V × V:=([meshM,.agg [syC 5,syC 6]],.tup [.bool a,.int .i64 0])
def rowB (b:Bool):List V × V:=([meshM,.agg [syC 7,syC 8]],.tup [.bool b,.int .i64 0])
def rowF (f:Bool):List V × V:=([meshM,.agg farV],.tup [.bool f,.int .i64 0])
def mIm (rs:List (List V × V)):Nat × List (List V × V):=(34,rs)
def memoPn (rs:List (List V × V)):Memo:=[mHm (.int .i64 0),mFm (.int .i64 0),mRm,mCm,mIm rs]
noncomputable def kitPn (D cs:Nat) (rs:List (List V × V)):Kit:=⟨cxPn D cs,[],[],rowsPn,tmk (memoPn rs),.e,.e,⟨[],[],[]⟩⟩
def headM:List V:=[syC 0,syC 1,syC 2,syC 3,syC 4]
def cellsJ:Nat→List V
 | 2=>headM++[.str [120],syC 6,syC 7,syC 8,syC 9,syC 10]
 | 3=>headM++[syC 5,syC 6,syC 5,syC 6,syC 9,syC 10]
 | 4=>headM++[syC 5,syC 6,.str str999,.str [48],syC 9,syC 10]
 | 5=>headM++[syC 5,syC 6,syC 7,syC 8,syC 9,syC 9]
 | 6=>headM++[syC 5,syC 6,syC 7,syC 8,.str [],syC 10]
 | _=>headM++[syC 5,syC 6,syC 7,syC 8,syC 9,syC 10]
def numsPn (D:Nat):List Num:=[⟨P0 0,D⟩,⟨P0 1,D⟩,⟨P0 2,D⟩,⟨P0 3,D⟩,⟨P0 4,2⟩,⟨P0 5,2⟩]
def nPn (v:Nat):Num:=⟨Poly.scl (-1) (P0 v),2⟩
noncomputable def brPn (b:Nat→Iv):Bool:=(Num.negOk ⟨P0 4,2⟩ (nPn 4)&&(nPn 4).br b)&&(Num.negOk ⟨P0 5,2⟩ (nPn 5)&&(nPn 5).br b)
noncomputable def knPn (D cs:Nat):Bool:=numsEq (cxPn D cs) (numsPn D) [syC 5,syC 6,syC 7,syC 8,syC 9,syC 10]&&tabHas (T.ofList .e 0 (tabPn D)) 0 ((List.range 5).map .opq)&&(numsPn D).all (fun a=>a.fits (cxPn D cs).b)&&(⟨P0 4,2⟩:Num).br (cxPn D cs).b&&(⟨P0 5,2⟩:Num).br (cxPn D cs).b&&brPn (cxPn D cs).b
noncomputable def runPn (D cs:Nat) (rs:List (List V × V)) (j:Nat) (z:Int):Bool:=(kitPn D cs rs).chk&&knPn D cs&&pairOk (kitPn D cs rs) (cellsJ j) (.int .i64 z)
noncomputable def two (f:Nat→Bool):Bool:=f 0&&f 1
theorem twoP_ok {f:Nat→Bool} (h:two f=true) {cs:Nat} (hc:cs<2):f cs=true:=by
 simp only [two,Bool.and_eq_true] at h
 have:cs=0∨cs=1:=by omega
 rcases this with rfl | rfl
 ·exact h.1
 ·exact h.2
set_option maxRecDepth 100000
theorem runPn0:(dens.all fun D=>two fun cs=>allB fun a=>allB fun b=>runPn D cs [rowA a,rowB b] 0 (cond (a&&b) 0 28))=true:=by kernel_rfl
theorem runPn2:(dens.all fun D=>two fun cs=>runPn D cs [] 2 2)=true:=by kernel_rfl
theorem runPn3:(dens.all fun D=>two fun cs=>runPn D cs [] 3 17)=true:=by kernel_rfl
theorem runPn4:(dens.all fun D=>two fun cs=>allB fun a=>allB fun b=>runPn D cs [rowA a,rowF b] 4 (cond (a&&b) 0 28))=true:=by kernel_rfl
theorem runPn5:(dens.all fun D=>two fun cs=>allB fun a=>allB fun b=>runPn D cs [rowA a,rowB b] 5 (cond (a&&b) 6 28))=true:=by kernel_rfl
theorem runPn6:(dens.all fun D=>two fun cs=>runPn D cs [] 6 2)=true:=by kernel_rfl
theorem kp_call {P:Program} {M:Mem} {f:Nat} {xs:List Value} {y:Value} (hT:∀ w:World,M.heap.size≤w.heap.size→(∀ b,b<M.heap.size→M.frz b→w.heap[b]? = M.heap[b]?)→PTab w) (h:∀ w,PTab w→Calls P f xs.toArray w fun e w'=>e = .returned y∧Kp w w'):CallOk P M f xs y:=
 fun w h1 h2=>(h w (hT w h1 h2)).mono fun e w' ⟨a,k⟩=>⟨a,⟨k.tape,k.os,k.output,k.size⟩,fun b hb=>k.block b hb⟩
theorem right_ok {M:Mem} (hg:Good M) {a:Rat} (ha:Sm a):CallOk Tryz.prog M 33 [strV (canon a)] (.bool true):=
 kp_call hg.tabs fun w h=>right02_rat a w ha h
theorem refcmp_ok {M:Mem} (hg:Good M) {a b:Rat} (ha:Sm a) (hb:Sm b) (ba:Br a) (bb:Br (-b)):CallOk Tryz.prog M 35 [strV (canon a),strV (canon b)] (.int .i64 (sgnI (a-b).num)):=
 kp_call hg.tabs fun w h=>rcmp_rat a b w ha hb ba bb h
def cellsR (hd:List Value) (ax ay bx by_ lo up:Value):Nat→List Value
 | 2=>hd++[strV [120],ay,bx,by_,lo,up]
 | 3=>hd++[ax,ay,ax,ay,lo,up]
 | 4=>hd++[ax,ay,strV str999,strV [48],lo,up]
 | 5=>hd++[ax,ay,bx,by_,lo,lo]
 | 6=>hd++[ax,ay,bx,by_,strV [],up]
 | _=>hd++[ax,ay,bx,by_,lo,up]
theorem sgn_lt {z:Int} (h:z<0):sgnI z = -1:=sgnI_neg h
section
variable {M:Mem} (hg:Good M) {m0 m1 bs sv tv:Value} (o0:oneV m0) (o1:oneV m1) (o2:oneV bs) (o3:oneV sv) (o4:oneV tv) {D:Nat} (hD:D∈dens) {ax ay bx by_ lo up:Int} (hax:Big ax) (hay:Big ay) (hbx:Big bx) (hby:Big by_)
 (hlo : -40≤lo∧lo≤40) (hup : -40≤up∧up≤40) (hlt:lo<up) (hne:¬ (ax=bx∧ay=by_)) (hhist:CallOk Tryz.prog M 30 [.agg #[m0,m1,bs,sv]] (.int .i64 0)) (hfield:CallOk Tryz.prog M 31 [.agg #[m0,m1],tv] (.int .i64 0))
include hg o0 o1 o2 o3 o4 hD hax hay hbx hby hlo hup hlt hne hhist hfield
set_option maxHeartbeats 1000000 in
theorem pair_any {rs:List (List V × V)} {j:Nat} {z:Int} (hrun:∀ cs,cs<2→runPn D cs rs j z=true)
  (hrs:∀ p∈rs,(∃ a,p=rowA a∧CallOk Tryz.prog M 34 [.agg #[m0,m1],qP ax ay D] (.tuple #[.bool a,.int .i64 0]))∨(∃ b,p=rowB b∧CallOk Tryz.prog M 34 [.agg #[m0,m1],qP bx by_ D] (.tuple #[.bool b,.int .i64 0])) ∨
   (∃ f,p=rowF f∧CallOk Tryz.prog M 34 [.agg #[m0,m1],.agg #[strV str999,strV [48]]] (.tuple #[.bool f,.int .i64 0]))) :
  PairOk M (cellsR [m0,m1,bs,sv,tv] (qV ax D) (qV ay D) (qV bx D) (qV by_ D) (qV lo 2) (qV up 2) j) z:=by
 let cs:=if ax=bx then 1 else 0
 have hcs:cs<2:=by show (if ax=bx then 1 else 0)<2; split <;> omega
 have hrun:=hrun cs hcs
 simp only [runPn,knPn,Bool.and_eq_true] at hrun
 obtain⟨⟨hchk,⟨⟨⟨⟨⟨k1,k2⟩,k3⟩,k4⟩,k5⟩,k6⟩⟩,hpair⟩:=hrun
 simp only [brPn,Bool.and_eq_true] at k6
 simp only [pairOk,Bool.and_eq_true] at hpair
 have hDpos:0<D:=by
  simp only [dens,List.mem_cons,List.not_mem_nil,or_false] at hD
  omega
 let hd:List Value:=[m0,m1,bs,sv,tv]
 let x:Nat→Int:=fun v=>(([ax,ay,bx,by_,lo,up]:List Int)[v]?).getD 0
 let o:Nat→Value:=fun j=>(hd[j]?).getD .nilFunc
 have oo:∀ j,oneV (o j):=fun j=>by
  show oneV ((hd[j]?).getD .nilFunc)
  cases h:hd[j]? with
  | none=>trivial
  | some y=>
   have:=List.mem_of_getElem? h
   simp only [hd,List.mem_cons,List.not_mem_nil,or_false] at this
   rcases this with rfl | rfl | rfl | rfl | rfl
   ·exact o0
   ·exact o1
   ·exact o2
   ·exact o3
   ·exact o4
 let B:Base:={ toMem:=M,sym:=symX x o (T.ofList .e 0 (tabPn D)) }
 have hone:∀ i,oneV (B.sym i):=fun i=>symX_one oo i
 have hneg:SS.has ⟨true,false,false⟩ (Poly.ev x (Num.diff ⟨P0 4,2⟩ ⟨P0 5,2⟩)):=by
  rw [ev_diff]
  have:x 4-x 5<0:=by show lo-up<0; omega
  exact⟨fun _=>rfl,fun h=>by omega,fun h=>by omega⟩
 have hF:FactsHold x (fsPn D cs):=by
  have hz:∀ {u v:Nat},x u=x v→SS.has ze0 (Poly.ev x (Num.diff ⟨P0 u,D⟩ ⟨P0 v,D⟩)):=fun {u v} h=>by
   rw [ev_diff,h,Int.sub_self,Int.mul_zero]
   exact⟨fun h=>absurd h (by omega),fun _=>rfl,fun h=>absurd h (by omega)⟩
  have hn:∀ {u v:Nat},x u≠x v→SS.has ne0 (Poly.ev x (Num.diff ⟨P0 u,D⟩ ⟨P0 v,D⟩)):=fun {u v} h=>by
   rw [ev_diff]
   refine⟨fun _=>rfl,fun h0 => ?_,fun _=>rfl⟩
   rcases Int.mul_eq_zero.1 h0 with h0 | h0 <;> omega
  show FactsHold x (fsPn D (if ax=bx then 1 else 0))
  by_cases h1:ax=bx
  ·rw [if_pos h1]
   exact fact_cons (hz (u:=0) (v:=2) h1) (fact_cons (hn (u:=1) (v:=3) fun h=>hne ⟨h1,h⟩) (fact_cons hneg (fact_nil _)))
  ·rw [if_neg h1]
   exact fact_cons (hn (u:=0) (v:=2) h1) (fact_cons hneg (fact_nil _))
 have hC:CXOk B x o (cxPn D cs):=by
  refine⟨fun _ _ _=>rfl,fun v => ?_,hF,(fun r hr=>by cases hr),(fun p hp=>by cases hp),oo,hg.pow _ _,hg.tabs⟩
  exact bd_of (l:=bdPn) (zs:=[ax,ay,bx,by_,lo,up]) ⟨hax,hay,hbx,hby,hlo,hup,trivial⟩ v
 have so:∀ j,j<5→B.sym j=o j:=fun j hj=>by
  obtain⟨e,he,hs⟩:=tabHas_get k2 j (.opq j) (by rw [List.getElem?_map,List.getElem?_range hj]; rfl)
  rw [Nat.zero_add] at he
  exact symX_opq he hs
 have vo:∀ E,StatOk B E → ∀ j,j<5→VR E (syC j) (o j):=fun E hE j hj=>by show o j=E.sym j; rw [hE.sym,so j hj]
 have nums:∀ E,StatOk B E→VRL E [syC 5,syC 6,syC 7,syC 8,syC 9,syC 10] [qV ax D,qV ay D,qV bx D,qV by_ D,qV lo 2,qV up 2]:=fun E hE=>by
  have h:=numsEq_ok hC hE k1
  have e:(numsPn D).map (fun e=>strV (canon (e.val x)))=[qV ax D,qV ay D,qV bx D,qV by_ D,qV lo 2,qV up 2]:=by
   simp only [numsPn,List.map_cons,List.map_nil,Num.val,ev_P0]
   rfl
  rwa [e] at h
 have vN:∀ E,StatOk B E→VR E (syC 5) (qV ax D)∧VR E (syC 6) (qV ay D)∧VR E (syC 7) (qV bx D)∧VR E (syC 8) (qV by_ D)∧VR E (syC 9) (qV lo 2)∧VR E (syC 10) (qV up 2):=fun E hE=>by
  obtain⟨_,_,e0,v0,_,_,e1,v1,_,_,e2,v2,_,_,e3,v3,_,_,e4,v4,_,_,e5,v5,_⟩:=nums E hE
  cases e0; cases e1; cases e2; cases e3; cases e4; cases e5
  exact⟨v0,v1,v2,v3,v4,v5⟩
 have vHd:∀ E,StatOk B E→VRL E headM [m0,m1,bs,sv,tv]:=fun E hE=>VRL.cons (vo E hE 0 (by omega)) (VRL.cons (vo E hE 1 (by omega)) (VRL.cons (vo E hE 2 (by omega)) (VRL.cons (vo E hE 3 (by omega)) (VRL.cons (vo E hE 4 (by omega)) VRL.nil))))
 have vMe:∀ E,StatOk B E→VR E meshM (.agg #[m0,m1]):=fun E hE=>⟨_,(vHd E hE).take 2,rfl⟩
 have vHi:∀ E,StatOk B E→VR E histM (.agg #[m0,m1,bs,sv]):=fun E hE=>⟨_,(vHd E hE).take 4,rfl⟩
 have sm:∀ a∈numsPn D,Sm (a.val x):=fun a ha=>hC.sm (List.all_eq_true.1 k3 a ha)
 have br4:Br (Num.val x ⟨P0 4,2⟩):=br_ok hC (by decide) k4
 have br5:Br (Num.val x ⟨P0 5,2⟩):=br_ok hC (by decide) k5
 have bn4:Br (-(Num.val x ⟨P0 4,2⟩)):=by
  rw [Num.neg_val (a:=⟨P0 4,2⟩) (u:=nPn 4) (by decide) (by decide) k6.1.1]
  exact br_ok hC (by decide) k6.1.2
 have bn5:Br (-(Num.val x ⟨P0 5,2⟩)):=by
  rw [Num.neg_val (a:=⟨P0 5,2⟩) (u:=nPn 5) (by decide) (by decide) k6.2.1]
  exact br_ok hC (by decide) k6.2.2
 have vv:∀ v d,Num.val x ⟨P0 v,d⟩=((x v:Int):Rat)/((d:Int):Rat):=fun v d=>by unfold Num.val; rw [ev_P0]
 have hmo:Memos Tryz.prog B (memoPn rs):=by
  refine memos_cons (hhist.contract (v:=.int .i64 0) (Mem.Le.refl _) (fun E hE=>VRL.cons (vHi E hE) VRL.nil) fun E hE=>rfl) (memos_cons (hfield.contract (v:=.int .i64 0) (Mem.Le.refl _) (fun E hE=>VRL.cons (vMe E hE) (VRL.cons (vo E hE 4 (by omega)) VRL.nil)) fun E hE=>rfl)
   (memos_more (fun p hp => ?_) (memos_more (fun p hp => ?_) (memos_more (fun p hp => ?_) memos_nil))))
  ·have go:∀ {i:Nat} {v d:Nat} {y:Value},(⟨P0 v,d⟩:Num)∈numsPn D→strV (canon (((x v:Int):Rat)/((d:Int):Rat)))=y→(∀ E,StatOk B E→VR E (syC i) y)→Contract Tryz.prog B 33 [syC i] (.bool true):=fun {i v d y} hm hy hv=>
    (right_ok hg (sm _ hm)).contract (v:=.bool true) (Mem.Le.refl _) (fun E hE=>VRL.cons (by rw [vv,hy]; exact hv E hE) VRL.nil) fun E hE=>rfl
   simp only [List.mem_cons,List.not_mem_nil,or_false] at hp
   rcases hp with rfl | rfl | rfl | rfl | rfl | rfl
   ·exact go (v:=0) (d:=D) (by simp [numsPn]) rfl fun E hE=>(vN E hE).1
   ·exact go (v:=1) (d:=D) (by simp [numsPn]) rfl fun E hE=>(vN E hE).2.1
   ·exact go (v:=2) (d:=D) (by simp [numsPn]) rfl fun E hE=>(vN E hE).2.2.1
   ·exact go (v:=3) (d:=D) (by simp [numsPn]) rfl fun E hE=>(vN E hE).2.2.2.1
   ·exact go (v:=4) (d:=2) (by simp [numsPn]) rfl fun E hE=>(vN E hE).2.2.2.2.1
   ·exact go (v:=5) (d:=2) (by simp [numsPn]) rfl fun E hE=>(vN E hE).2.2.2.2.2
  ·have h4:(⟨P0 4,2⟩:Num)∈numsPn D:=by simp [numsPn]
   have h5:(⟨P0 5,2⟩:Num)∈numsPn D:=by simp [numsPn]
   have e4:strV (canon (Num.val x ⟨P0 4,2⟩))=qV lo 2:=by rw [vv]; rfl
   have e5:strV (canon (Num.val x ⟨P0 5,2⟩))=qV up 2:=by rw [vv]; rfl
   simp only [List.mem_cons,List.not_mem_nil,or_false] at hp
   rcases hp with rfl | rfl
   ·have h:=refcmp_ok hg (sm _ h4) (sm _ h5) br4 bn5
    rw [e4,e5] at h
    refine h.contract (v:=.int .i64 (-1)) (Mem.Le.refl _) (fun E hE=>VRL.cons (vN E hE).2.2.2.2.1 (VRL.cons (vN E hE).2.2.2.2.2 VRL.nil)) fun E hE => ?_
    have hdv:=Num.diff_val (x:=x) (a:=⟨P0 4,2⟩) (c:=⟨P0 5,2⟩) (by decide) (by decide)
    show _=Value.int .i64 (-1)
    rw [sgn_of_iff (z:=Poly.ev x (Num.diff ⟨P0 4,2⟩ ⟨P0 5,2⟩)) (by rw [← hdv.1]; exact sub_neg_rat) (by rw [← hdv.2]; exact sub_zero_rat)]
    congr 1
    refine sgnI_neg ?_
    rw [ev_diff]
    have:x 4-x 5<0:=by show lo-up<0; omega
    omega
   ·have h:=refcmp_ok hg (sm _ h4) (sm _ h4) br4 bn4
    rw [e4] at h
    refine h.contract (v:=.int .i64 0) (Mem.Le.refl _) (fun E hE=>VRL.cons (vN E hE).2.2.2.2.1 (VRL.cons (vN E hE).2.2.2.2.1 VRL.nil)) fun E hE => ?_
    show _=Value.int .i64 0
    rw [Rat.sub_self]; rfl
  ·rcases hrs p hp with⟨a,rfl,h⟩ | ⟨b,rfl,h⟩ | ⟨f,rfl,h⟩
   ·exact h.contract (v:=.tup [.bool a,.int .i64 0]) (Mem.Le.refl _) (fun E hE=>VRL.cons (vMe E hE) (VRL.cons ⟨_,VRL.cons (vN E hE).1 (VRL.cons (vN E hE).2.1 VRL.nil),rfl⟩ VRL.nil)) fun E hE=>⟨_,VRL.cons rfl (VRL.cons rfl VRL.nil),rfl⟩
   ·exact h.contract (v:=.tup [.bool b,.int .i64 0]) (Mem.Le.refl _) (fun E hE=>VRL.cons (vMe E hE) (VRL.cons ⟨_,VRL.cons (vN E hE).2.2.1 (VRL.cons (vN E hE).2.2.2.1 VRL.nil),rfl⟩ VRL.nil)) fun E hE=>⟨_,VRL.cons rfl (VRL.cons rfl VRL.nil),rfl⟩
   ·exact h.contract (v:=.tup [.bool f,.int .i64 0]) (Mem.Le.refl _) (fun E hE=>VRL.cons (vMe E hE) (VRL.cons ⟨_,VRL.cons rfl (VRL.cons rfl VRL.nil),rfl⟩ VRL.nil)) fun E hE=>⟨_,VRL.cons rfl (VRL.cons rfl VRL.nil),rfl⟩
 have hK:KitOk B x o (kitPn D cs rs):=⟨hC,(fun f args v hv=>tmk_prim hmo hv),(fun f es he=>by simp [kitPn,T.get_e] at he),(fun n cs hn=>by simp [kitPn,T.get_e] at hn),(fun p hp=>by cases hp),(fun p hp=>by cases hp),(fun p hp=>by cases hp)⟩
 have hE0:StatOk B (baseE B hone):=base_stat
 obtain⟨v0,v1,v2,v3,v4,v5⟩:=vN _ hE0
 have hcells:VRL (baseE B hone) (cellsJ j) (cellsR [m0,m1,bs,sv,tv] (qV ax D) (qV ay D) (qV bx D) (qV by_ D) (qV lo 2) (qV up 2) j):=by
  have hh:=vHd _ hE0
  have pr:∀ {vs:List V} {ys:List Value},VRL (baseE B hone) vs ys→VRL (baseE B hone) (headM++vs) ([m0,m1,bs,sv,tv]++ys):=fun h=>hh.append h
  unfold cellsJ cellsR
  split
  ·exact pr (VRL.cons rfl (VRL.cons v1 (VRL.cons v2 (VRL.cons v3 (VRL.cons v4 (VRL.cons v5 VRL.nil))))))
  ·exact pr (VRL.cons v0 (VRL.cons v1 (VRL.cons v0 (VRL.cons v1 (VRL.cons v4 (VRL.cons v5 VRL.nil))))))
  ·exact pr (VRL.cons v0 (VRL.cons v1 (VRL.cons rfl (VRL.cons rfl (VRL.cons v4 (VRL.cons v5 VRL.nil))))))
  ·exact pr (VRL.cons v0 (VRL.cons v1 (VRL.cons v2 (VRL.cons v3 (VRL.cons v4 (VRL.cons v4 VRL.nil))))))
  ·exact pr (VRL.cons v0 (VRL.cons v1 (VRL.cons v2 (VRL.cons v3 (VRL.cons rfl (VRL.cons v5 VRL.nil))))))
  ·first | exact pr (VRL.cons v0 (VRL.cons v1 (VRL.cons v2 (VRL.cons v3 (VRL.cons v4 (VRL.cons v5 VRL.nil)))))) | split <;> first | exact pr (VRL.cons v0 (VRL.cons v1 (VRL.cons v2 (VRL.cons v3 (VRL.cons v4 (VRL.cons v5 VRL.nil)))))) | contradiction
 exact⟨(Kit.run hK hchk hpair.1).callOk (hE:=hE0) (VRL.cons ⟨_,hcells,rfl⟩ VRL.nil) rfl,(Kit.run hK hchk hpair.2).callOk (hE:=hE0) (VRL.cons ⟨_,hcells,rfl⟩ VRL.nil) rfl⟩
theorem pair_line {a b f:Bool} (ha:CallOk Tryz.prog M 34 [.agg #[m0,m1],qP ax ay D] (.tuple #[.bool a,.int .i64 0])) (hb:CallOk Tryz.prog M 34 [.agg #[m0,m1],qP bx by_ D] (.tuple #[.bool b,.int .i64 0]))
  (hf:CallOk Tryz.prog M 34 [.agg #[m0,m1],.agg #[strV str999,strV [48]]] (.tuple #[.bool f,.int .i64 0])) {j:Nat} (hj:j∈[0,2,3,4,5,6]) :
  ∃ z:Int,(0≤z∧z≤40)∧PairOk M (cellsR [m0,m1,bs,sv,tv] (qV ax D) (qV ay D) (qV bx D) (qV by_ D) (qV lo 2) (qV up 2) j) z:=by
 have go:=fun {rs j z} hrun hrs=>pair_any (rs:=rs) (j:=j) (z:=z) hg o0 o1 o2 o3 o4 hD hax hay hbx hby hlo hup hlt hne hhist hfield hrun hrs
 have cd:∀ c:Bool,∀ u v:Int,(0≤u∧u≤40)→(0≤v∧v≤40)→0≤cond c u v∧cond c u v≤40:=fun c u v hu hv=>by cases c <;> assumption
 have hAB:∀ p∈[rowA a,rowB b],(∃ a,p=rowA a∧CallOk Tryz.prog M 34 [.agg #[m0,m1],qP ax ay D] (.tuple #[.bool a,.int .i64 0]))∨(∃ b,p=rowB b∧CallOk Tryz.prog M 34 [.agg #[m0,m1],qP bx by_ D] (.tuple #[.bool b,.int .i64 0])) ∨
   (∃ f,p=rowF f∧CallOk Tryz.prog M 34 [.agg #[m0,m1],.agg #[strV str999,strV [48]]] (.tuple #[.bool f,.int .i64 0])):=fun p hp=>by
  simp only [List.mem_cons,List.not_mem_nil,or_false] at hp
  rcases hp with rfl | rfl
  ·exact .inl ⟨a,rfl,ha⟩
  ·exact .inr (.inl ⟨b,rfl,hb⟩)
 have hAF:∀ p∈[rowA a,rowF f],(∃ a,p=rowA a∧CallOk Tryz.prog M 34 [.agg #[m0,m1],qP ax ay D] (.tuple #[.bool a,.int .i64 0]))∨(∃ b,p=rowB b∧CallOk Tryz.prog M 34 [.agg #[m0,m1],qP bx by_ D] (.tuple #[.bool b,.int .i64 0])) ∨
   (∃ f,p=rowF f∧CallOk Tryz.prog M 34 [.agg #[m0,m1],.agg #[strV str999,strV [48]]] (.tuple #[.bool f,.int .i64 0])):=fun p hp=>by
  simp only [List.mem_cons,List.not_mem_nil,or_false] at hp
  rcases hp with rfl | rfl
  ·exact .inl ⟨a,rfl,ha⟩
  ·exact .inr (.inr ⟨f,rfl,hf⟩)
 simp only [List.mem_cons,List.not_mem_nil,or_false] at hj
 rcases hj with rfl | rfl | rfl | rfl | rfl | rfl
 ·exact⟨_,cd _ _ _ (by omega) (by omega),go (fun cs hc=>allB_ok (allB_ok (twoP_ok (List.all_eq_true.1 runPn0 D hD) hc) a) b) hAB⟩
 ·exact⟨2,by omega,go (fun cs hc=>twoP_ok (List.all_eq_true.1 runPn2 D hD) hc) fun p hp=>by cases hp⟩
 ·exact⟨17,by omega,go (fun cs hc=>twoP_ok (List.all_eq_true.1 runPn3 D hD) hc) fun p hp=>by cases hp⟩
 ·exact⟨_,cd _ _ _ (by omega) (by omega),go (fun cs hc=>allB_ok (allB_ok (twoP_ok (List.all_eq_true.1 runPn4 D hD) hc) a) f) hAF⟩
 ·exact⟨_,cd _ _ _ (by omega) (by omega),go (fun cs hc=>allB_ok (allB_ok (twoP_ok (List.all_eq_true.1 runPn5 D hD) hc) a) b) hAB⟩
 ·exact⟨2,by omega,go (fun cs hc=>twoP_ok (List.all_eq_true.1 runPn6 D hD) hc) fun p hp=>by cases hp⟩
end
def bdFL:List Iv:=[(0,0),(0,0),(0,0),(0,0),(0,0),(-38,38),(-38,38),(-38,38),(-38,38),(-38,38),(-38,38)]
noncomputable def cxF (np:Nat) (ls:List (Nat × Nat)):CX:=⟨T.ofList .e 0 ([.opq 0,.opq 1,.opq 2]++(List.range np).map fun i=>.num ⟨[([5+i],1)],2⟩),T.ofList .e 0 bdFL,[],[],ls⟩
noncomputable def rowsF (np:Nat):Rows:=(T.e).set 36 (.n .e (some ((List.range np).map fun i=>([.sym (3+i)],.int .i64 0))) .e)
def cellsF (np:Nat):List V:=(List.range np).map fun i=>.sym (3+i)
noncomputable def kitF (np:Nat) (ls:List (Nat × Nat)) (gl:List (Nat × List V)):Kit:=⟨cxF np ls,[],[],rowsF np,tmk [(72,[([.agg [.sym 0,.sym 1]],.int .i64 0)])],.e,tmk gl,⟨[],[],[]⟩⟩
noncomputable def runF (np:Nat) (ls:List (Nat × Nat)) (gl:List (Nat × List V)) (tv:V) (z:Int):Bool:=(kitF np ls gl).chk&&memoOk (kitF np ls gl).tab 10000 60 31 [.agg [.sym 0,.sym 1],tv] (.int .i64 z)
def badB:List UInt8:=[50,47,50]
noncomputable def runF0 (np:Nat):Bool:=runF np [(0,np)] [(34,cellsF np)] (.slice 34 0 np (2*np+1)) 0
noncomputable def runF1 (np k:Nat):Bool:=runF np [(0,np)] [(34,(cellsF np).set k (.str badB))] (.slice 34 0 np (2*np+1)) 2
noncomputable def runF2 (np:Nat):Bool:=runF np [(0,np),(2,np-1)] [] (.sym 2) 5
theorem runF0_all:([3,4,5,6].all runF0)=true:=by kernel_rfl
theorem runF1_all:([3,4,5,6].all fun np=>(List.range np).all (runF1 np))=true:=by kernel_rfl
theorem runF2_all:([3,4,5,6].all runF2)=true:=by kernel_rfl
def TextsRaw (M:Mem) (l:List Value) (tv:Value):Prop := ∃ b c rc t fr rest,tv=slV b l.length c∧l.length≤c∧M.frz b∧M.heap[b]? = some (.cells rc t fr)∧rc.toList=l++rest
def xF (z:Nat→Int) (v:Nat):Int:=(([0,0,0,0,0,z 0,z 1,z 2,z 3,z 4,z 5]:List Int)[v]?).getD 0
def oF (m0 m1 tv:Value) (j:Nat):Value:=if j=0 then m0 else if j=1 then m1 else if j=2 then tv else .nilFunc
noncomputable def baseF (M:Mem) (np:Nat) (z:Nat→Int) (m0 m1 tv:Value) (i:Info):Base:={ toMem:=M,sym:=symX (xF z) (oF m0 m1 tv) (cxF np []).tab,stat:=fun _=>i }
def htsF (np:Nat):List Num:=(List.range np).map fun i=>⟨[([5+i],1)],2⟩
theorem htsF_val (z:Nat→Int) (np:Nat) (hn:np≤6):(htsF np).map (fun e=>strV (canon (e.val (xF z))))=htsR np z:=by
 simp only [htsF,htsR,List.map_map]
 refine List.map_congr_left fun i hi => ?_
 have hi:=List.mem_range.1 hi
 simp only [Function.comp]
 unfold Num.val
 have e:Poly.ev (xF z) [([5+i],1)]=z i:=by
  have:xF z (5+i)=z i:=by
   have:i=0∨i=1∨i=2∨i=3∨i=4∨i=5:=by omega
   rcases this with rfl | rfl | rfl | rfl | rfl | rfl <;> rfl
  simp only [Poly.ev,Poly.evM,this,Int.mul_one,Int.one_mul,Int.add_zero]
 rw [e]; rfl
theorem numsF_all:([3,4,5,6].all fun np=>numsEq (cxF np []) (htsF np) (cellsF np))=true:=by kernel_rfl
section
variable {M:Mem} (hg:Good M) {np:Nat} (hn:np∈[3,4,5,6]) {z:Nat→Int} (hz:∀ i,i<6 → -38≤z i∧z i≤38) {m0 m1 tv:Value} (hm0:∃ a k,m0=Value.slice a np k) (hm1:oneV m1) (htv:oneV tv) {i34:Info}
include hg hn hz hm0 hm1 htv
theorem oneF (j:Nat):oneV (oF m0 m1 tv j):=by
 unfold oF
 split
 ·obtain⟨_,_,rfl⟩:=hm0; trivial
 ·split
  ·exact hm1
  ·split
   ·exact htv
   ·trivial
theorem symF {j:Nat} (hj:j<3):(baseF M np z m0 m1 tv i34).sym j=oF m0 m1 tv j:=by
 have e:(cxF np []).tab.get j=some (.opq j):=by
  show (T.ofList .e 0 _).get j=_
  rw [T.get_ofList,if_pos ⟨Nat.zero_le _,by simp; omega⟩]
  have:j=0∨j=1∨j=2:=by omega
  rcases this with rfl | rfl | rfl <;> rfl
 show symX (xF z) (oF m0 m1 tv) (cxF np []).tab j=_
 unfold symX
 rw [e]
theorem cxF_ok {ls:List (Nat × Nat)} (hls:∀ p∈ls,∃ a k,(baseF M np z m0 m1 tv i34).sym p.1 = .slice a p.2 k):CXOk (baseF M np z m0 m1 tv i34) (xF z) (oF m0 m1 tv) (cxF np ls):=by
 refine⟨fun _ _ _=>rfl,fun v => ?_,(fun f hf=>by cases hf),(fun r hr=>by cases hr),hls,oneF hg hn hz hm0 hm1 htv,hg.pow _ _,hg.tabs⟩
 show Iv.has (((T.ofList .e 0 bdFL).get v).getD (0,0)) _
 exact bd_of (l:=bdFL) (zs:=[0,0,0,0,0,z 0,z 1,z 2,z 3,z 4,z 5]) ⟨⟨Int.le_refl _,Int.le_refl _⟩,⟨Int.le_refl _,Int.le_refl _⟩,⟨Int.le_refl _,Int.le_refl _⟩,⟨Int.le_refl _,Int.le_refl _⟩,⟨Int.le_refl _,Int.le_refl _⟩,hz 0 (by omega),hz 1 (by omega),hz 2 (by omega),hz 3 (by omega),hz 4 (by omega),hz 5 (by omega),trivial⟩ v
theorem field_run (hm:CallOk Tryz.prog M 72 [.agg #[m0,m1]] (.int .i64 0)) {ls:List (Nat × Nat)} (hls:∀ p∈ls,∃ a k,(baseF M np z m0 m1 tv i34).sym p.1 = .slice a p.2 k) {gl:List (Nat × List V)} (hgl:∀ n cs,(n,cs)∈gl→Lies (baseF M np z m0 m1 tv i34) n cs)
  {tvV:V} (hv:∀ E,StatOk (baseF M np z m0 m1 tv i34) E→VR E tvV tv) {u:Int} (hrun:runF np ls gl tvV u=true):CallOk Tryz.prog M 31 [.agg #[m0,m1],tv] (.int .i64 u):=by
 simp only [runF,Bool.and_eq_true] at hrun
 obtain⟨hchk,hrun⟩:=hrun
 have hC:=cxF_ok hg hn hz hm0 hm1 htv (i34:=i34) hls
 have hone:∀ i,oneV ((baseF M np z m0 m1 tv i34).sym i):=fun i=>symX_one (oneF hg hn hz hm0 hm1 htv) i
 have vM:∀ E,StatOk (baseF M np z m0 m1 tv i34) E→VR E (.agg [.sym 0,.sym 1]) (.agg #[m0,m1]):=fun E hE=>by
  refine⟨[m0,m1],VRL.cons ?_ (VRL.cons ?_ VRL.nil),rfl⟩
  ·show m0=E.sym 0
   rw [hE.sym,symF hg hn hz hm0 hm1 htv (by omega)]; rfl
  ·show m1=E.sym 1
   rw [hE.sym,symF hg hn hz hm0 hm1 htv (by omega)]; rfl
 have hK:KitOk (baseF M np z m0 m1 tv i34) (xF z) (oF m0 m1 tv) (kitF np ls gl):=by
  refine⟨hC,fun f args v hv=>tmk_prim (l:=[(72,[([.agg [.sym 0,.sym 1]],.int .i64 0)])]) ?_ hv,(fun f es he=>by simp [kitF,T.get_e] at he),(fun n cs hn=>hgl n cs (tmk_mem hn)),(fun p hp=>by cases hp),(fun p hp=>by cases hp),(fun p hp=>by cases hp)⟩
  exact memos_cons (hm.contract (Mem.Le.refl _) (fun E hE=>VRL.cons (vM E hE) VRL.nil) (fun E hE=>rfl)) memos_nil
 exact (Kit.run hK hchk hrun).callOk (hE:=base_stat (h:=hone)) (VRL.cons (vM _ base_stat) (VRL.cons (hv _ base_stat) VRL.nil)) rfl
theorem cells_F {E:Env} (hE:StatOk (baseF M np z m0 m1 tv i34) E):VRL E (cellsF np) (htsR np z):=by
 have hC:=cxF_ok hg hn hz hm0 hm1 htv (i34:=i34) (ls:=[]) (fun p hp=>by cases hp)
 have h6:np≤6:=by simp only [List.mem_cons,List.not_mem_nil,or_false] at hn; omega
 have:=numsEq_ok hC hE (List.all_eq_true.1 numsF_all np hn)
 rwa [htsF_val z np h6] at this
theorem len_F:∀ p∈[(0,np)],∃ a k,(baseF M np z m0 m1 tv i34).sym p.1 = .slice a p.2 k:=fun p hp=>by
 obtain⟨a,k,e⟩:=hm0
 rw [List.mem_singleton.1 hp]
 exact⟨a,k,by rw [symF hg hn hz ⟨a,k,e⟩ hm1 htv (by omega)]; exact e⟩
end
section
variable {M:Mem} (hg:Good M) {np:Nat} (hn:np∈[3,4,5,6]) {z:Nat→Int} (hz:∀ i,i<6 → -38≤z i∧z i≤38) {m0 m1 tv:Value} (hm0:∃ a k,m0=Value.slice a np k) (hm1:oneV m1) (hm:CallOk Tryz.prog M 72 [.agg #[m0,m1]] (.int .i64 0))
include hg hn hz hm0 hm1 hm
theorem field_texts {l:List Value} (hl:l.length=np) {cs:List V} (ht:TextsRaw M l tv) (hcs:∀ E i,StatOk (baseF M np z m0 m1 tv i) E→VRL E cs l) {u:Int} (hrun:runF np [(0,np)] [(34,cs)] (.slice 34 0 np (2*np+1)) u=true):CallOk Tryz.prog M 31 [.agg #[m0,m1],tv] (.int .i64 u):=by
 obtain⟨b,c,rc,t,fr,rest,rfl,h2,hf,h3,h4⟩:=ht
 rw [hl] at h2
 refine field_run hg hn hz hm0 hm1 (show oneV (slV _ _ _) from trivial) (i34:={ blk:=b,size:=c,unit:=1 }) hm (len_F hg hn hz hm0 hm1 (show oneV (slV _ _ _) from trivial)) (gl:=[(34,cs)]) (fun n ds hm => ?_) (tvV:=.slice 34 0 np (2*np+1)) (fun E hE=>⟨_,hE.stat 34 (by omega) (by omega),?_⟩) hrun
 ·cases List.mem_singleton.1 hm
  exact⟨by omega,by omega,(Array.getElem?_eq_some_iff.1 h3).1,hf,rc,t,fr,h3,fun E hE=>⟨_,rest,hcs E _ hE,h4⟩⟩
 ·rw [hl]
  show slV b np c = .slice (some ⟨b,0,none⟩) np (capOf { blk:=b,size:=c,unit:=1 } 0 (2*np+1))
  unfold capOf slV
  rw [if_neg (by omega)]
  simp only [Nat.sub_zero,Nat.div_one]
  congr 1
  omega
theorem field_0 (ht:TextsRaw M (htsR np z) tv):CallOk Tryz.prog M 31 [.agg #[m0,m1],tv] (.int .i64 0):=by
 have htv:oneV tv:=by obtain⟨_,_,_,_,_,_,rfl,_⟩:=ht; trivial
 exact field_texts hg hn hz hm0 hm1 hm (by simp [htsR]) ht (fun E i hE=>cells_F hg hn hz hm0 hm1 htv hE) (List.all_eq_true.1 runF0_all np hn)
theorem field_1 {k:Nat} (hk:k<np) (ht:TextsRaw M ((htsR np z).set k (strB badB)) tv):CallOk Tryz.prog M 31 [.agg #[m0,m1],tv] (.int .i64 2):=by
 have htv:oneV tv:=by obtain⟨_,_,_,_,_,_,rfl,_⟩:=ht; trivial
 exact field_texts hg hn hz hm0 hm1 hm (by simp [htsR]) ht (fun E i hE=>VRL.setG k (cells_F hg hn hz hm0 hm1 htv hE) (show VR E (.str badB) (strB badB) from rfl)) (List.all_eq_true.1 (List.all_eq_true.1 runF1_all np hn) k (List.mem_range.2 hk))
theorem field_2 (ht:∃ a k,tv=Value.slice a (np-1) k):CallOk Tryz.prog M 31 [.agg #[m0,m1],tv] (.int .i64 5):=by
 have htv:oneV tv:=by obtain⟨_,_,rfl⟩:=ht; trivial
 refine field_run hg hn hz hm0 hm1 htv (i34:={ blk:=0,size:=0,unit:=0 }) hm (ls:=[(0,np),(2,np-1)]) (fun p hp => ?_) (gl:=[]) (fun n ds hm=>by cases hm) (tvV:=.sym 2) (fun E hE => ?_) (List.all_eq_true.1 runF2_all np hn)
 ·rcases List.mem_cons.1 hp with rfl | hp
  ·exact len_F hg hn hz hm0 hm1 htv _ (List.mem_singleton.2 rfl)
  ·rw [List.mem_singleton.1 hp]
   obtain⟨a,k,e⟩:=ht
   exact⟨a,k,by rw [symF hg hn hz hm0 hm1 htv (by omega)]; exact e⟩
 ·show tv=E.sym 2
  rw [hE.sym,symF hg hn hz hm0 hm1 htv (by omega)]; rfl
end
def sqA:Code→Code | .seq a _=>a | c=>c
def sqB:Code→Code | .seq _ b=>b | c=>c
noncomputable def bodyM:Code:=Tryz.f3.body.getD .skip
noncomputable def head1:Code:=sqA bodyM
noncomputable def head2:Code:=sqA (sqB bodyM)
noncomputable def head3:Code:=sqA (sqB (sqB bodyM))
noncomputable def restM:Code:=sqB (sqB (sqB bodyM))
noncomputable def swM:Code:=sqA restM
noncomputable def tailM:Code:=sqB restM
def LawP (w:World) (e:Ending) (w':World):Prop:=e = .returned (.bool true)∧Grew w w' ∧ ∀ b,b<w.heap.size→w'.heap[b]? = w.heap[b]?
noncomputable def cxTm (j:Nat):CX:=⟨T.ofList .e 0 ((List.range 11).map .opq++[.int .i64 (P0 0),.int .u8 (P0 1)]),T.ofList .e 0 [(0,40),(0,255)],[(P0 0,⟨false,false,true⟩)],[(P0 1,9,[([],Int.ofNat j)])],[]⟩
def errM (ok:Bool):V:=cond ok (.int .i64 0) (syC 11)
def memoTm (cells:List V) (ok:Bool):Memo:=[(8,[([.agg cells],errM ok)]),(9,[([.agg cells],errM ok)])]
noncomputable def kitTm (j:Nat) (cells:List V) (ok:Bool):Kit:=⟨cxTm j,[⟨.rem,syC 12,.int .u8 9,.int .u8 (Int.ofNat j)⟩],[],.e,tmk (memoTm cells ok),.e,.e,⟨[],[],[]⟩⟩
def cellsB (j np:Nat):List V:=lineV
def cellsE (j np:Nat):List V:=match j with
 | 2=>[syC 0,syC 1,syC 2,syC 3,syC 4,.str [120],syC 6,syC 7,syC 8,syC 9,syC 10]
 | 3=>[syC 0,syC 1,syC 2,syC 3,syC 4,syC 5,syC 6,syC 5,syC 6,syC 9,syC 10]
 | 4=>[syC 0,syC 1,syC 2,syC 3,syC 4,syC 5,syC 6,.str str999,.str [48],syC 9,syC 10]
 | 5=>[syC 0,syC 1,syC 2,syC 3,syC 4,syC 5,syC 6,syC 7,syC 8,syC 9,syC 9]
 | 6=>[syC 0,syC 1,syC 2,syC 3,syC 4,syC 5,syC 6,syC 7,syC 8,.str [],syC 10]
 | _=>lineV
noncomputable def sTm (j np:Nat):S:={ t:=(T.e.set 2 (syC 12)).set 7 (.ptr 64 0),h:=boxH 64 [(cellsB j np,52)],nx:=65,m:=[] }
noncomputable def runTm (rest:Code) (j np:Nat) (ok:Bool):Bool:=(kitTm j (cellsE j np) ok).chk&&(match tailRun (kitTm j (cellsE j np) ok).tab 10000 60 Tryz.f3 rest (sTm j np) with
 | some rs=>rs.all fun r=>V.eq r.1 (.bool true)
 | none=>false)
set_option maxRecDepth 100000
theorem runTm0:allB (runTm tailM 0 0)=true:=by kernel_rfl
theorem runTm1:allB (runTm tailM 1 0)=true:=by kernel_rfl
theorem runTm2:([2,3,4,5,6,7,8].all fun j=>allB (runTm restM j 0))=true:=by kernel_rfl
theorem restM_dst:dstOk 238 restM=true:=by kernel_rfl
theorem tailM_dst:dstOk 238 tailM=true:=by kernel_rfl
def xTm (z how:Int) (v:Nat):Int:=(([z,how]:List Int)[v]?).getD 0
noncomputable def baseTm (M:Mem) (l:List Value) (z how:Int) (j:Nat) (i34:Info):Base:={ toMem:=M,sym:=symX (xTm z how) (oPa l) (cxTm j).tab,stat:=fun _=>i34 }
section
variable {M:Mem} (hg:Good M) {l:List Value} (hl:l.length=11) (h1:∀ x∈l,oneV x) {z how:Int} (hz:0<z∧z≤40) (hh:0≤how∧how≤255) {j:Nat} {i34:Info}
theorem getTm (k:Nat):(cxTm j).tab.get k=(((List.range 11).map SE.opq++[.int .i64 (P0 0),.int .u8 (P0 1)]):List SE)[k]? := by
 show (T.ofList .e 0 _).get k=_
 rw [T.get_ofList]
 split
 ·rw [Nat.sub_zero]
 ·rename_i hi
  rw [T.get_e,List.getElem?_eq_none (by omega)]
theorem symTm_c {k:Nat} (hk:k<11):(baseTm M l z how j i34).sym k=oPa l k:=by
 show symX (xTm z how) (oPa l) (cxTm j).tab k=_
 unfold symX
 rw [getTm,List.getElem?_append_left (by simpa using hk),List.getElem?_map,List.getElem?_range hk]; rfl
theorem symTm_z:(baseTm M l z how j i34).sym 11 = .int .i64 z:=by
 show symX (xTm z how) (oPa l) (cxTm j).tab 11=_
 unfold symX
 rw [getTm,show (((List.range 11).map SE.opq++[.int .i64 (P0 0),.int .u8 (P0 1)]):List SE)[11]? = some (.int .i64 (P0 0)) from rfl]
 simp only [ev_P0]; rfl
theorem symTm_h:(baseTm M l z how j i34).sym 12 = .int .u8 how:=by
 show symX (xTm z how) (oPa l) (cxTm j).tab 12=_
 unfold symX
 rw [getTm,show (((List.range 11).map SE.opq++[.int .i64 (P0 0),.int .u8 (P0 1)]):List SE)[12]? = some (.int .u8 (P0 1)) from rfl]
 simp only [ev_P0]; rfl
theorem vTm {E:Env} (hE:StatOk (baseTm M l z how j i34) E) {k:Nat} {y:Value} (hk:k<11) (hy:l[k]? = some y):VR E (syC k) y:=by
 show y=E.sym k
 rw [hE.sym,symTm_c hk]
 unfold oPa
 rw [hy]; rfl
theorem veTm {E:Env} (hE:StatOk (baseTm M l z how j i34) E) {ok:Bool}:VR E (errM ok) (.int .i64 (cond ok 0 z)):=by
 cases ok
 ·show _=E.sym 11; rw [hE.sym,symTm_z]; rfl
 ·rfl
variable {w w1:World} {a:Act} {p7:Nat} (hon:M.On w1) (ts:a.tmps.size=238) (t2:a.tmps[2]? = some (.int .u8 how)) (t7:a.tmps[7]? = some (.pointer (some ⟨p7,0,none⟩))) (hdf:a.defers=[])
 (hb7:w1.heap[p7]? = some (.cells l.toArray 52 (0,0))) (z7:¬ (p7<M.heap.size∧M.frz p7)) (hgr:Grew w w1) (hfr:∀ b,b<w.heap.size→w1.heap[b]? = w.heap[b]?) (q7:w.heap.size≤p7)
include hg hl h1 hz hh hon ts t2 t7 hdf hb7 z7 hgr hfr q7
theorem tailM_run {rest:Code} (hdst:dstOk 238 rest=true) {np:Nat} {ok:Bool} {le:List Value} (hcb:∀ E,StatOk (baseTm M l z how j i34) E→VRL E (cellsB j np) l) (hce:∀ E,StatOk (baseTm M l z how j i34) E→VRL E (cellsE j np) le)
  (hp:PairOk M le (cond ok 0 z)) (hrun:runTm rest j np ok=true) (hj:how.tmod 9=(j:Int)):rest.wp Tryz.prog (bodyPost Tryz.prog Tryz.f3 (LawP w)) a w1:=by
 have hone:∀ i,oneV ((baseTm M l z how j i34).sym i):=fun i=>symX_one (oPa_one h1) i
 have hmo:Memos Tryz.prog (baseTm M l z how j i34) (memoTm (cellsE j np) ok):=
  memos_cons (hp.1.contract (v:=errM ok) (Mem.Le.refl _) (fun E hE=>VRL.cons ⟨_,hce E hE,rfl⟩ VRL.nil) fun E hE=>veTm hE) (memos_cons (hp.2.contract (v:=errM ok) (Mem.Le.refl _) (fun E hE=>VRL.cons ⟨_,hce E hE,rfl⟩ VRL.nil) fun E hE=>veTm hE) memos_nil)
 have hK:KitOk (baseTm M l z how j i34) (xTm z how) (oPa l) (kitTm j (cellsE j np) ok):=by
  refine⟨⟨fun _ _ _=>rfl,fun v => ?_,fact_cons ?_ (fact_nil _),(fun r hr => ?_),(fun p hp=>by cases hp),oPa_one h1,hg.pow _ _,hg.tabs⟩,fun f args v hv=>tmk_prim hmo hv,(fun f es he=>by simp [kitTm,T.get_e] at he),
   (fun n cs hn=>by simp [kitTm,T.get_e] at hn),(fun p hp=>by cases hp),(fun p hp=>by cases hp),(fun p hp=>by cases hp)⟩
  ·exact bd_of (l:=[(0,40),(0,255)]) (zs:=[z,how]) ⟨⟨Int.le_of_lt hz.1,hz.2⟩,hh,trivial⟩ v
  ·rw [ev_P0]
   exact⟨fun e=>by have:xTm z how 0=z:=rfl; omega,fun e=>by have:xTm z how 0=z:=rfl; omega,fun _=>rfl⟩
  ·have hr:r∈[(P0 1,9,[(([]:Mono),Int.ofNat j)])]:=hr
   rw [List.mem_singleton.1 hr,ev_P0]
   show how.tmod 9=Int.ofNat j*1+0
   rw [hj]; simp
 let bs:List Box:=[⟨p7,cellsB j np,l,52⟩]
 have hbs:BoxesOk (baseTm M l z how j i34) w1 bs:=by
  refine⟨hon,fun b hb => ?_,fun b hb E hE => ?_,fun i j x y hi hj he => ?_,fun b hb => ?_⟩
  ·rw [List.mem_singleton.1 hb]; exact hb7
  ·rw [List.mem_singleton.1 hb]
   exact hcb E hE
  ·match i,j,hi,hj with
   | 0,0,_,_=>rfl
   | n+1,_,hi,_=>simp [bs] at hi
   | 0,n+1,_,hj=>simp [bs] at hj
  ·rw [List.mem_singleton.1 hb]; exact z7
 have hok:=boxes_ok (h:=hone) hbs
 have hfoot:∀ b,Foot (boxE (baseTm M l z how j i34) hone bs) (sTm j np).h.get b→b=p7:=by
  intro b hf
  obtain⟨x,hx,rfl⟩:=boxes_foot (l:=bs) hf
  rw [List.mem_singleton.1 hx]
 have htr:TR (boxE (baseTm M l z how j i34) hone bs) (sTm j np).t a.tmps:=by
  intro k v hk
  have hk:(((T.e:T V).set 2 (syC 12)).set 7 (.ptr 64 0)).get k=some v:=hk
  rw [T.get_set] at hk
  by_cases c7:k=7
  ·rw [if_pos c7] at hk; cases hk; subst c7; exact⟨_,t7,_,boxE_at (j:=0) rfl,rfl⟩
  ·rw [if_neg c7,T.get_set] at hk
   by_cases c2:k=2
   ·rw [if_pos c2] at hk; cases hk; subst c2; exact⟨_,t2,by show _=(baseTm M l z how j i34).sym 12; rw [symTm_h]⟩
   ·rw [if_neg c2,T.get_e] at hk; cases hk
 simp only [runTm,Bool.and_eq_true] at hrun
 obtain⟨hchk,hrun⟩:=hrun
 split at hrun
 ·rename_i rs hrs
  refine tail_wp (kitTm j (cellsE j np) ok).tabOk ((kitTm j (cellsE j np) ok).fnOk hK hchk) hrs hok htr rfl hdf (by rw [ts]; exact hdst) fun r hr x E' w' hx hst => ?_
  have hro:=V.eq_eq _ _ (List.all_eq_true.1 hrun r hr)
  rw [hro] at hx
  refine⟨by rw [show x = .bool true from hx],hgr.trans hst.grew,fun b hb => ?_⟩
  rw [hst.frame b (Nat.lt_of_lt_of_le hb hgr.size) (fun hf=>by have:=hfoot b hf; omega),hfr b hb]
 ·cases hrun
end
end Go.Proofs.YtogialghppmdfaaGreatDoor
