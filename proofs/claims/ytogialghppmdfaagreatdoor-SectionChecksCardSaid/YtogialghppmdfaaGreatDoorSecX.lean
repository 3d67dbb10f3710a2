/-
  klippelaw37.Make at a plan: a line.
-/
import Derived.Test.YtogialghppmdfaaGreatDoorSpotX
import Derived.Test.YtogialghppmdfaaGreatDoorMakeZ
import Derived.Test.YtogialghppmdfaaGreatDoorEvMemo
set_option linter.unusedSectionVars false
set_option linter.unusedVariables false
set_option linter.unusedSimpArgs false
namespace Go.Proofs.YtogialghppmdfaaGreatDoor
open Go Ev Klp
noncomputable def rest37:Code:=sq2 (sq2 (bodyOf Tryz.f6))
def hiP (neg:Bool):Poly:=cond neg (Poly.add (P0 13) [([],256)]) (P0 13)
def loP:Poly:=P0 14
def upP:Poly:=Poly.add (Poly.add (P0 14) [([],1)]) (P0 15)
def htP (half:Bool) (j:Nat):Poly:=[([6+j],cond half 1 2)]
def tabSe (D:Nat) (half neg:Bool):List SE:=((List.range 6).map fun j=>SE.int .i8 (P0 j))++((List.range 6).map fun j=>SE.int .i64 (P0 j))++((List.range 6).map fun j=>SE.int .i64 (P0 (6+j)))++((List.range 6).map fun j=>SE.num ⟨htP half j,2⟩)++(List.range 11).map .opq ++
 [.int .i8 (P0 12),.int .i8 (P0 13),.int .i64 (P0 12),.int .i64 (P0 14),.int .u8 (hiP neg),.int .u8 (P0 15),.int .i64 (P0 15),.int .i64 (Poly.add (P0 14) [([],1)]),.int .i64 upP,.num ⟨loP,2⟩,.num ⟨upP,2⟩]++((List.range 4).map fun j=>SE.num ⟨P0 (16+j),D⟩)++(List.range 4).map fun j=>.opq (11+j)
def rgQ:Iv:=(-2000,2000)
def bdSe (neg:Bool):List Iv:=List.replicate 6 (-128,127)++List.replicate 6 (-19,19)++[(-128,127),cond neg (-128,-1) (0,127),(-7,7),(0,13),rgQ,rgQ,rgQ,rgQ]
def dxSe (D:Nat):Poly:=Num.diff ⟨P0 16,D⟩ ⟨P0 18,D⟩
def dySe (D:Nat):Poly:=Num.diff ⟨P0 17,D⟩ ⟨P0 19,D⟩
def fsSe (D:Nat):Nat→Facts
 | 0=>[(dxSe D,ne0)]
 | 1=>[(dxSe D,ze0),(dySe D,ne0)]
 | _=>[(dxSe D,ze0),(dySe D,ze0)]
def remsSe (neg:Bool):List (Poly × Nat × Poly):=((List.range 6).map fun j=>(P0 j,20,P0 (6+j)))++[(P0 12,8,P0 14),(hiP neg,14,P0 15)]
noncomputable def cxSe (D:Nat) (half neg:Bool) (cs:Nat):CX:=⟨T.ofList .e 0 (tabSe D half neg),T.ofList .e 0 (bdSe neg),fsSe D cs,remsSe neg,[]⟩
def binsSe:List BinRow:=((List.range 6).map fun j=>⟨.rem,syC (6+j),.int .i64 20,syC (12+j)⟩)++[⟨.rem,syC 37,.int .i64 8,syC 38⟩,⟨.rem,syC 39,.int .u8 14,syC 40⟩,⟨.add,syC 38,.int .i64 1,syC 42⟩,⟨.add,syC 42,syC 41,syC 43⟩]
def convsSe:List ConvRow:=((List.range 6).map fun j=>⟨j,.i64,syC (6+j)⟩)++[⟨35,.i64,syC 37⟩,⟨36,.u8,syC 39⟩,⟨40,.i64,syC 41⟩]
noncomputable def rowsSe (half:Bool):Rows:=(T.e:Rows).set 27 (bq (((List.range 6).map fun j=>([syC (12+j),.int .i64 (cond half 2 1)],syC (18+j)))++[([syC 38,.int .i64 2],syC 44),([syC 43,.int .i64 2],syC 45)]))
def meV (np:Nat):V:=.slice 32 0 np (2*np+1)
def memoSe (np:Nat):Memo:=[(26,[([.agg [meV np,syC 24],.agg [syC 31,syC 32]],.agg [syC 46,syC 47]),([.agg [meV np,syC 24],.agg [syC 33,syC 34]],.agg [syC 48,syC 49])])]
noncomputable def kitSe (np D:Nat) (half neg:Bool) (cs:Nat):Kit:=⟨cxSe D half neg cs,binsSe,convsSe,rowsSe half,tmk (memoSe np),.e,tmk [(32,[syC 50,syC 51,syC 52,syC 53])],⟨[],[],[]⟩⟩
def planSe (half:Bool):List V:=[syC 26,syC 27,syC 28,syC 29,syC 30,syC 0,syC 1,syC 2,syC 3,syC 4,syC 5,.bool half,syC 31,syC 32,syC 33,syC 34,syC 35,syC 36]
def lineZ:List V:=[.nils,.nils,.str [],.nils,.nils,.str [],.str [],.str [],.str [],.str [],.str []]
def histSe (np:Nat):List V:=[meV np,syC 24,.str baseB,syC 25]
def boxesSe (np:Nat) (half:Bool):List (List V × Nat):=[(histSe np,45),(planSe half,34),(lineZ,52)]
noncomputable def sSe (np:Nat) (half:Bool):S:={ t:=((T.e.set 1 (.ptr 65 0)).set 2 (.ptr 66 0)).set 3 (.ptr 64 0),h:=boxH 64 (boxesSe np half),nx:=67,m:=[] }
def abSe:Nat→List V
 | 0 | 1=>[syC 46,syC 47,syC 48,syC 49]
 | _=>[syC 50,syC 51,syC 52,syC 53]
noncomputable def okSe (np D:Nat) (half neg:Bool) (cs:Nat) (r:R3):Bool:=
 match r.1 with
 | .agg [a,b,c,d,.slice n 0 k cap,x0,x1,x2,x3,lo,hi]=>V.eqL [a,b,c,d,x0,x1,x2,x3,lo,hi] (histSe np++abSe cs++[syC 44,syC 45])&&Nat.beq k np&&Nat.ble k (cap/2)&&(match r.2.1.get n with
  | some (.cells cs' _ _ _)=>numsEq (cxSe D half neg cs) ((List.range np).map fun j=>⟨htP half j,2⟩) cs'
  | _=>false)
 | _=>false
noncomputable def knSe (D:Nat) (half neg:Bool) (cs:Nat):Bool:=tabHas (T.ofList .e 0 (tabSe D half neg)) 0 ((List.range 6).map fun j=>SE.int .i8 (P0 j))&&tabHas (T.ofList .e 0 (tabSe D half neg)) 24 ((List.range 11).map .opq++[.int .i8 (P0 12),.int .i8 (P0 13)])&&tabHas (T.ofList .e 0 (tabSe D half neg)) 50 ((List.range 4).map fun j=>.opq (11+j)) &&
 numsEq (cxSe D half neg cs) [⟨loP,2⟩,⟨upP,2⟩,⟨P0 16,D⟩,⟨P0 17,D⟩,⟨P0 18,D⟩,⟨P0 19,D⟩] [syC 44,syC 45,syC 46,syC 47,syC 48,syC 49]
noncomputable def runSe (np D:Nat) (half neg:Bool) (cs:Nat):Bool:=(kitSe np D half neg cs).chk&&knSe D half neg cs&&(match tailRun (kitSe np D half neg cs).tab 10000 60 Tryz.f6 rest37 (sSe np half) with
 | some rs=>rs.all (okSe np D half neg cs)
 | none=>false)
def allB (f:Bool→Bool):Bool:=f false&&f true
theorem allB_ok {f:Bool→Bool} (h:allB f=true) (b:Bool):f b=true:=by
 simp only [allB,Bool.and_eq_true] at h
 cases b
 ·exact h.1
 ·exact h.2
set_option maxRecDepth 100000
theorem runSe3:([12,24].all fun D=>allB fun half=>allB fun neg=>[0,1,2].all (runSe 3 D half neg))=true:=by kernel_rfl
theorem runSe4:([16,32].all fun D=>allB fun half=>allB fun neg=>[0,1,2].all (runSe 4 D half neg))=true:=by kernel_rfl
theorem runSe5:([20,40].all fun D=>allB fun half=>allB fun neg=>[0,1,2].all (runSe 5 D half neg))=true:=by kernel_rfl
theorem runSe6:([24,48].all fun D=>allB fun half=>allB fun neg=>[0,1,2].all (runSe 6 D half neg))=true:=by kernel_rfl
theorem runSe_all {np d:Nat} (hn:np=3∨np=4∨np=5∨np=6) (hd:d=1∨d=2) (half neg:Bool) {cs:Nat} (hc:cs<3):runSe np (d*(4*np)) half neg cs=true:=by
 have h3:cs∈[0,1,2]:=by
  have:cs=0∨cs=1∨cs=2:=by omega
  rcases this with rfl | rfl | rfl <;> decide
 have go:∀ {l:List Nat} {np D:Nat},(l.all fun D=>allB fun half=>allB fun neg=>[0,1,2].all (runSe np D half neg))=true→D∈l→runSe np D half neg cs=true:=fun h hD=>
  List.all_eq_true.1 (allB_ok (allB_ok (List.all_eq_true.1 h _ hD) half) neg) cs h3
 rcases hn with rfl | rfl | rfl | rfl <;> rcases hd with rfl | rfl
 ·exact go runSe3 (D:=12) (by decide)
 ·exact go runSe3 (D:=24) (by decide)
 ·exact go runSe4 (D:=16) (by decide)
 ·exact go runSe4 (D:=32) (by decide)
 ·exact go runSe5 (D:=20) (by decide)
 ·exact go runSe5 (D:=40) (by decide)
 ·exact go runSe6 (D:=24) (by decide)
 ·exact go runSe6 (D:=48) (by decide)
theorem rest37_dst:dstOk 61 rest37=true:=by kernel_rfl
end Go.Proofs.YtogialghppmdfaaGreatDoor
namespace Go.Proofs.YtogialghppmdfaaGreatDoor
open Go.RowKit Go Ev Klp
def zT (half:Bool) (hv:Nat→Int) (i:Nat):Int:=(cond half 1 2)*(hv i).tmod 20
def htsR (np:Nat) (z:Nat→Int):List Value:=(List.range np).map fun i=>strV (canon ((z i:Rat)/((2:Int):Rat)))
def TerrRaw (M:Mem) (np:Nat) (z:Nat→Int) (tv:Value):Prop := ∃ b c,tv=slV b np c∧np≤c∧M.frz b ∧ ∃ rc t fr rest,M.heap[b]? = some (.cells rc t fr)∧rc.toList=htsR np z++rest
theorem TerrRaw.le {M M':Mem} (hl:M.Le M') {np:Nat} {z:Nat→Int} {tv:Value} (h:TerrRaw M np z tv):TerrRaw M' np z tv:=by
 obtain⟨b,c,g1,g2,z1,rc,t,fr,rest,g3,g4⟩:=h
 obtain⟨z',e'⟩:=hl.same b (Array.getElem?_eq_some_iff.1 g3).1 z1
 exact⟨b,c,g1,g2,z',rc,t,fr,rest,e'.trans g3,g4⟩
structure HeightsOk (hv:Nat→Int):Prop where
 small:∀ i,i<6 → -128≤hv i∧hv i≤127
def hV (z:Int):Value:=qV z 2
def loZ (lo:Int):Int:=lo.tmod 8
def upZ (lo hi:Int):Int:=lo.tmod 8+1+(cond (decide (hi<0)) (hi+256) hi).tmod 14
def xSe (hv:Nat→Int) (lo hi ax ay bx by_:Int) (v:Nat):Int:=
 if v<6 then hv v else if v<12 then (hv (v-6)).tmod 20 else (([lo,hi,lo.tmod 8,(cond (decide (hi<0)) (hi+256) hi).tmod 14,ax,ay,bx,by_]:List Int)[v-12]?).getD 0
theorem htsN_val (half:Bool) (hv:Nat→Int) (lo hi ax ay bx by_:Int) (np:Nat) (hn:np≤6):((List.range np).map fun j=>(⟨htP half j,2⟩:Num)).map (fun e=>strV (canon (e.val (xSe hv lo hi ax ay bx by_))))=htsR np (zT half hv):=by
 simp only [htsR,List.map_map]
 refine List.map_congr_left fun i hil => ?_
 have hil:=List.mem_range.1 hil
 simp only [Function.comp]
 unfold Num.val
 have e:Poly.ev (xSe hv lo hi ax ay bx by_) (htP half i)=zT half hv i:=by
  have:xSe hv lo hi ax ay bx by_ (6+i)=(hv i).tmod 20:=by unfold xSe; rw [if_neg (by omega),if_pos (by omega),show 6+i-6=i from by omega]
  simp only [htP,Poly.ev,Poly.evM,this,zT,Int.mul_one,Int.add_zero]
 rw [e]; rfl
def caseOf (ax ay bx by_:Int):Nat:=if ax=bx then (if ay=by_ then 2 else 1) else 0
theorem ev_diff {x:Nat→Int} {u v D:Nat}:Poly.ev x (Num.diff ⟨P0 u,D⟩ ⟨P0 v,D⟩)=(D:Int)*(x u-x v):=by
 simp only [Num.diff,Poly.ev_add,Poly.ev_scl,ev_P0,Int.neg_mul,Int.mul_sub]
 omega
theorem facts_case {x:Nat→Int} {D:Nat} (hD:0<D):FactsHold x (fsSe D (caseOf (x 16) (x 17) (x 18) (x 19))):=by
 have hz:∀ {u v:Nat},x u=x v→SS.has ze0 (Poly.ev x (Num.diff ⟨P0 u,D⟩ ⟨P0 v,D⟩)):=fun {u v} h=>by
  rw [ev_diff,h,Int.sub_self,Int.mul_zero]
  exact⟨fun h=>absurd h (by omega),fun _=>rfl,fun h=>absurd h (by omega)⟩
 have hn:∀ {u v:Nat},x u≠x v→SS.has ne0 (Poly.ev x (Num.diff ⟨P0 u,D⟩ ⟨P0 v,D⟩)):=fun {u v} h=>by
  rw [ev_diff]
  refine⟨fun _=>rfl,fun h0 => ?_,fun _=>rfl⟩
  rcases Int.mul_eq_zero.1 h0 with h0 | h0 <;> omega
 unfold caseOf
 by_cases h1:x 16=x 18
 ·rw [if_pos h1]
  by_cases h2:x 17=x 19
  ·rw [if_pos h2]; exact fact_cons (hz h1) (fact_cons (hz h2) (fact_nil _))
  ·rw [if_neg h2]; exact fact_cons (hz h1) (fact_cons (hn h2) (fact_nil _))
 ·rw [if_neg h1]; exact fact_cons (hn h1) (fact_nil _)
def olSe (m1 sv:Value) (pl:List Value) (a0 a1 b0 b1:Int) (ts:List Value):List Value:=m1::sv::(pl++([.int .u8 a0,.int .u8 a1,.int .u8 b0,.int .u8 b1]++ts))
section
variable {M1:Mem} (hg:Good M1) {np d:Nat} {half:Bool} (hn:np=3∨np=4∨np=5∨np=6) (hd:d=1∨d=2) {b0 c0:Nat} {m1 sv:Value} (hm1:oneV m1) (hsv:oneV sv) {hv:Nat→Int} (hh:HeightsOk hv)
 {lo hi:Int} (hlo : -128≤lo∧lo≤127) (hhi : -128≤hi∧hi≤127) {a0 a1 q0 q1 ax ay bx by_:Int} (hax:Big ax) (hay:Big ay) (hbx:Big bx) (hby:Big by_)
 {t0 t1 t2 t3:Value} (ot0:oneV t0) (ot1:oneV t1) (ot2:oneV t2) (ot3:oneV t3)
 (hraw:np≤c0∧M1.frz b0 ∧ ∃ rc t fr rest,M1.heap[b0]? = some (.cells rc t fr)∧rc.toList=[t0,t1,t2,t3]++rest)
 (hsa:CallOk Tryz.prog M1 26 [.agg #[slV b0 np c0,m1],.agg #[.int .u8 a0,.int .u8 a1]] (qP ax ay (d*(4*np)))) (hsb:CallOk Tryz.prog M1 26 [.agg #[slV b0 np c0,m1],.agg #[.int .u8 q0,.int .u8 q1]] (qP bx by_ (d*(4*np))))
include hg hn hd hm1 hsv hh hlo hhi hax hay hbx hby ot0 ot1 ot2 ot3 hraw hsa hsb
set_option maxHeartbeats 2000000 in
theorem make37_tail {pl:List Value} (hpl:pl.length=5) (hp1:∀ x∈pl,oneV x) {M:Mem} {w w1:World} {a:Act} {p1 p2 p3:Nat} (hon:M1.On w1) (ts:a.tmps.size=61)
  (t1_:a.tmps[1]? = some (.pointer (some ⟨p1,0,none⟩))) (t2_:a.tmps[2]? = some (.pointer (some ⟨p2,0,none⟩))) (t3_:a.tmps[3]? = some (.pointer (some ⟨p3,0,none⟩))) (hdf:a.defers=[])
  (h1:w1.heap[p1]? = some (.cells (pl++[Value.int .i8 (hv 0),.int .i8 (hv 1),.int .i8 (hv 2),.int .i8 (hv 3),.int .i8 (hv 4),.int .i8 (hv 5),.bool half,.int .u8 a0,.int .u8 a1,.int .u8 q0,.int .u8 q1,.int .i8 lo,.int .i8 hi]).toArray 34 (0,0)))
  (h2:w1.heap[p2]? = some (.cells #[.slice none 0 0,.slice none 0 0,.string ⟨#[]⟩,.slice none 0 0,.slice none 0 0,.string ⟨#[]⟩,.string ⟨#[]⟩,.string ⟨#[]⟩,.string ⟨#[]⟩,.string ⟨#[]⟩,.string ⟨#[]⟩] 52 (0,0)))
  (h3:w1.heap[p3]? = some (.cells #[slV b0 np c0,m1,strB baseB,sv] 45 (0,0))) (n12:p1≠p2) (n13:p1≠p3) (n23:p2≠p3)
  (z1:¬ (p1<M1.heap.size∧M1.frz p1)) (z2:¬ (p2<M1.heap.size∧M1.frz p2)) (z3:¬ (p3<M1.heap.size∧M1.frz p3)) (hle:M.Le M1) (hfrz:∀ b,M1.frz b→(b<M.heap.size∧M.frz b)∨(w.heap.size≤b∧b<w1.heap.size))
  (hgr:Grew w w1) (hfr:∀ b,b<w.heap.size→w1.heap[b]? = w.heap[b]?) (q1_:w.heap.size≤p1) (q2_:w.heap.size≤p2) (q3_:w.heap.size≤p3) :
  rest37.wp Tryz.prog (bodyPost Tryz.prog Tryz.f6 (RetM M w fun y M' => ∃ tv x0 x1 x2 x3,y = .agg #[slV b0 np c0,m1,strB baseB,sv,tv,x0,x1,x2,x3,hV (loZ lo),hV (upZ lo hi)]∧M1.Le M'∧TerrRaw M' np (zT half hv) tv ∧
   ((¬ (ax=bx∧ay=by_)∧x0=qV ax (d*(4*np))∧x1=qV ay (d*(4*np))∧x2=qV bx (d*(4*np))∧x3=qV by_ (d*(4*np)))∨(x0=t0∧x1=t1∧x2=t2∧x3=t3)))) a w1:=by
 have hn6:np≤6:=by omega
 have hDpos:0<d*(4*np):=Nat.mul_pos (by omega) (by omega)
 generalize hDD:d*(4*np)=D at *
 obtain⟨hc0,zf0,rc0,ty0,fr0,rest0,g0,e0⟩:=hraw
 have hcs:caseOf ax ay bx by_<3:=by unfold caseOf; split <;> (try split) <;> omega
 have hrun:=runSe_all (np:=np) (d:=d) hn hd half (decide (hi<0)) hcs
 rw [hDD] at hrun
 simp only [runSe,knSe,Bool.and_eq_true] at hrun
 obtain⟨⟨hchk,⟨⟨k1,k2⟩,k3⟩,k4⟩,hrun⟩:=hrun
 let neg:=decide (hi<0)
 let cs:=caseOf ax ay bx by_
 let x:=xSe hv lo hi ax ay bx by_
 let ol:=olSe m1 sv pl a0 a1 q0 q1 [t0,t1,t2,t3]
 let o:Nat→Value:=fun j=>(ol[j]?).getD .nilFunc
 have hol:∀ y∈ol,oneV y:=fun y hy=>by
  simp only [ol,olSe,List.mem_cons,List.mem_append,List.not_mem_nil,or_false] at hy
  rcases hy with rfl | rfl | hy | (rfl | rfl | rfl | rfl) | rfl | rfl | rfl | rfl
  ·exact hm1
  ·exact hsv
  ·exact hp1 _ hy
  ·trivial
  ·trivial
  ·trivial
  ·trivial
  ·exact ot0
  ·exact ot1
  ·exact ot2
  ·exact ot3
 have oo:∀ j,oneV (o j):=fun j=>by
  show oneV ((ol[j]?).getD .nilFunc)
  cases h:ol[j]? with
  | none=>trivial
  | some y=>exact hol y (List.mem_of_getElem? h)
 obtain⟨l0,l1,l2,l3,l4,rfl⟩:∃ a b c d e,pl=[a,b,c,d,e]:=by
  match pl,hpl with
  | [a,b,c,d,e],_=>exact⟨a,b,c,d,e,rfl⟩
 let B:Base:={ toMem:=M1,sym:=symX x o (T.ofList .e 0 (tabSe D half neg)),stat:=fun _=>{ blk:=b0,size:=c0,unit:=1 } }
 have hone:∀ i,oneV (B.sym i):=fun i=>symX_one oo i
 have hC:CXOk B x o (cxSe D half neg cs):=by
  refine⟨fun _ _ _=>rfl,fun v => ?_,facts_case hDpos,(fun r hr => ?_),(fun p hp=>by cases hp),oo,hg.pow _ _,hg.tabs⟩
  ·have t:=fun z:Int=>tmod_rg (z:=z) (n:=20) (by omega)
   have s:=hh.small
   have e:x v=(([hv 0,hv 1,hv 2,hv 3,hv 4,hv 5,(hv 0).tmod 20,(hv 1).tmod 20,(hv 2).tmod 20,(hv 3).tmod 20,(hv 4).tmod 20,(hv 5).tmod 20,lo,hi,lo.tmod 8,(cond neg (hi+256) hi).tmod 14,ax,ay,bx,by_]:List Int)[v]?).getD 0:=by
    by_cases h12:v<12
    ·have:v=0∨v=1∨v=2∨v=3∨v=4∨v=5∨v=6∨v=7∨v=8∨v=9∨v=10∨v=11:=by omega
     rcases this with rfl | rfl | rfl | rfl | rfl | rfl | rfl | rfl | rfl | rfl | rfl | rfl <;> rfl
    ·obtain⟨u,rfl⟩:∃ u,v=12+u:=⟨v-12,by omega⟩
     show xSe hv lo hi ax ay bx by_ (12+u)=_
     unfold xSe
     rw [if_neg (by omega),if_neg (by omega),show 12+u-12=u from by omega]
     by_cases h8:u<8
     ·have:u=0∨u=1∨u=2∨u=3∨u=4∨u=5∨u=6∨u=7:=by omega
      rcases this with rfl | rfl | rfl | rfl | rfl | rfl | rfl | rfl <;> rfl
     ·rw [List.getElem?_eq_none (by simp; omega),List.getElem?_eq_none (by simp; omega)]
   show Iv.has (((T.ofList .e 0 (bdSe neg)).get v).getD (0,0)) (x v)
   rw [e]
   have hneg:Iv.has (cond neg (-128,-1) (0,127)) hi:=by
    by_cases h:hi<0
    ·rw [show neg=true from decide_eq_true h]; exact⟨hhi.1,by show hi ≤ -1; omega⟩
    ·rw [show neg=false from decide_eq_false h]; exact⟨by show 0≤hi; omega,hhi.2⟩
   have hr14:0≤(cond neg (hi+256) hi).tmod 14∧(cond neg (hi+256) hi).tmod 14≤13:=by
    refine tmod_rn (n:=14) (by omega) ?_
    by_cases h:hi<0
    ·rw [show neg=true from decide_eq_true h]; show 0≤hi+256; omega
    ·rw [show neg=false from decide_eq_false h]; show 0≤hi; omega
   refine bd_of (l:=bdSe neg) ?_ v
   exact⟨s 0 (by omega),s 1 (by omega),s 2 (by omega),s 3 (by omega),s 4 (by omega),s 5 (by omega),t _,t _,t _,t _,t _,t _,hlo,hneg,tmod_rg (n:=8) (by omega),hr14,hax,hay,hbx,hby,trivial⟩
  ·have hr:r∈remsSe neg:=hr
   simp only [remsSe,List.mem_append,List.mem_map,List.mem_range,List.mem_cons,List.not_mem_nil,or_false] at hr
   rcases hr with⟨j,hj,rfl⟩ | rfl | rfl
   ·simp only [ev_P0]
    show (xSe hv lo hi ax ay bx by_ j).tmod 20=xSe hv lo hi ax ay bx by_ (6+j)
    unfold xSe
    rw [if_pos hj,if_neg (by omega),if_pos (by omega),show 6+j-6=j from by omega]
   ·simp only [ev_P0]; rfl
   ·rw [ev_P0]
    have:Poly.ev x (hiP neg)=cond neg (hi+256) hi:=by
     unfold hiP
     cases neg
     ·rw [cond_false,cond_false,ev_P0]; rfl
     ·rw [cond_true,cond_true,Poly.ev_add,ev_P0]; rfl
    rw [this]; rfl
 have si:∀ j,j<6→B.sym j = .int .i8 (hv j):=fun j hj=>by
  obtain⟨e,he,hs⟩:=tabHas_get k1 j (.int .i8 (P0 j)) (by rw [List.getElem?_map,List.getElem?_range hj]; rfl)
  rw [Nat.zero_add] at he
  show symX x o (T.ofList .e 0 (tabSe D half neg)) j=_
  rw [symX_int he hs,ev_P0]
  show Value.int .i8 (xSe hv lo hi ax ay bx by_ j)=_
  unfold xSe
  rw [if_pos hj]
 have so:∀ j,j<11→B.sym (24+j)=o j:=fun j hj=>by
  obtain⟨e,he,hs⟩:=tabHas_get k2 j (.opq j) (by rw [List.getElem?_append_left (by simpa using hj),List.getElem?_map,List.getElem?_range hj]; rfl)
  exact symX_opq he hs
 have sl:B.sym 35 = .int .i8 lo:=by
  obtain⟨e,he,hs⟩:=tabHas_get k2 11 (.int .i8 (P0 12)) rfl
  show symX x o (T.ofList .e 0 (tabSe D half neg)) (24+11)=_
  rw [symX_int he hs,ev_P0]; rfl
 have sh:B.sym 36 = .int .i8 hi:=by
  obtain⟨e,he,hs⟩:=tabHas_get k2 12 (.int .i8 (P0 13)) rfl
  show symX x o (T.ofList .e 0 (tabSe D half neg)) (24+12)=_
  rw [symX_int he hs,ev_P0]; rfl
 have sq:∀ j,j<4→B.sym (50+j)=o (11+j):=fun j hj=>by
  obtain⟨e,he,hs⟩:=tabHas_get k3 j (.opq (11+j)) (by rw [List.getElem?_map,List.getElem?_range hj]; rfl)
  exact symX_opq he hs
 have nums:∀ E,StatOk B E→VRL E [syC 44,syC 45,syC 46,syC 47,syC 48,syC 49] [hV (loZ lo),hV (upZ lo hi),qV ax D,qV ay D,qV bx D,qV by_ D]:=fun E hE=>by
  have h:=numsEq_ok hC hE k4
  have e:(([⟨loP,2⟩,⟨upP,2⟩,⟨P0 16,D⟩,⟨P0 17,D⟩,⟨P0 18,D⟩,⟨P0 19,D⟩]:List Num).map fun e=>strV (canon (e.val x)))=[hV (loZ lo),hV (upZ lo hi),qV ax D,qV ay D,qV bx D,qV by_ D]:=by
   simp only [List.map_cons,List.map_nil,Num.val,loP,upP,Poly.ev_add,ev_P0]
   have e1:Poly.ev x [([],1)]=1:=rfl
   rw [e1]; rfl
  rwa [e] at h
 have vy:∀ E,StatOk B E → ∀ {i:Nat} {v:Value},B.sym i=v→VR E (syC i) v:=fun E hE i v h=>by show v=E.sym i; rw [hE.sym,h]
 have vM:∀ E,StatOk B E→VR E (meV np) (slV b0 np c0):=fun E hE=>⟨_,hE.stat 32 (by omega) (by omega),by
  show slV b0 np c0 = .slice (some ⟨b0,0,none⟩) np (capOf { blk:=b0,size:=c0,unit:=1 } 0 (2*np+1))
  unfold capOf slV
  rw [if_neg (by omega)]
  simp only [Nat.sub_zero,Nat.div_one]
  congr 1
  omega⟩
 have vMM:∀ E,StatOk B E→VR E (.agg [meV np,syC 24]) (.agg #[slV b0 np c0,m1]):=fun E hE=>⟨_,VRL.cons (vM E hE) (VRL.cons (vy E hE (so 0 (by omega))) VRL.nil),rfl⟩
 have vA:∀ E,StatOk B E→VR E (.agg [syC 31,syC 32]) (.agg #[.int .u8 a0,.int .u8 a1]):=fun E hE=>⟨_,VRL.cons (vy E hE (so 7 (by omega))) (VRL.cons (vy E hE (so 8 (by omega))) VRL.nil),rfl⟩
 have vB:∀ E,StatOk B E→VR E (.agg [syC 33,syC 34]) (.agg #[.int .u8 q0,.int .u8 q1]):=fun E hE=>⟨_,VRL.cons (vy E hE (so 9 (by omega))) (VRL.cons (vy E hE (so 10 (by omega))) VRL.nil),rfl⟩
 have hmo:Memos Tryz.prog B (memoSe np):=by
  intro r hr s hs
  have hr:=List.mem_singleton.1 hr
  subst hr
  simp only [List.mem_cons,List.not_mem_nil,or_false] at hs
  rcases hs with rfl | rfl
  ·exact hsa.contract (v:=.agg [syC 46,syC 47]) (Mem.Le.refl _) (fun E hE=>VRL.cons (vMM E hE) (VRL.cons (vA E hE) VRL.nil)) (fun E hE=>⟨_,((nums E hE).drop 2).take 2,rfl⟩)
  ·exact hsb.contract (v:=.agg [syC 48,syC 49]) (Mem.Le.refl _) (fun E hE=>VRL.cons (vMM E hE) (VRL.cons (vB E hE) VRL.nil)) (fun E hE=>⟨_,(nums E hE).drop 4,rfl⟩)
 have vT:∀ E,StatOk B E→VRL E [syC 50,syC 51,syC 52,syC 53] [t0,t1,t2,t3]:=fun E hE=>
  VRL.cons (vy E hE (sq 0 (by omega))) (VRL.cons (vy E hE (sq 1 (by omega))) (VRL.cons (vy E hE (sq 2 (by omega))) (VRL.cons (vy E hE (sq 3 (by omega))) VRL.nil)))
 have hK:KitOk B x o (kitSe np D half neg cs):=by
  refine⟨hC,(fun f args v hv=>tmk_prim hmo hv),(fun f es he=>by simp [kitSe,T.get_e] at he),fun n cs' hn' => ?_,(fun p hp=>by cases hp),(fun p hp=>by cases hp),(fun p hp=>by cases hp)⟩
  have hn':=tmk_mem hn'
  cases List.mem_singleton.1 hn'
  exact⟨by omega,by omega,(Array.getElem?_eq_some_iff.1 g0).1,zf0,rc0,ty0,fr0,g0,fun E hE=>⟨_,rest0,vT E hE,e0⟩⟩
 have vH:∀ E,StatOk B E→VRL E (histSe np) [slV b0 np c0,m1,strB baseB,sv]:=fun E hE=>VRL.cons (vM E hE) (VRL.cons (vy E hE (so 0 (by omega))) (VRL.cons rfl (VRL.cons (vy E hE (so 1 (by omega))) VRL.nil)))
 let bs:List Box:=[⟨p3,histSe np,[slV b0 np c0,m1,strB baseB,sv],45⟩,
  ⟨p1,planSe half,[l0,l1,l2,l3,l4]++[.int .i8 (hv 0),.int .i8 (hv 1),.int .i8 (hv 2),.int .i8 (hv 3),.int .i8 (hv 4),.int .i8 (hv 5),.bool half,.int .u8 a0,.int .u8 a1,.int .u8 q0,.int .u8 q1,.int .i8 lo,.int .i8 hi],34⟩,
  ⟨p2,lineZ,[.slice none 0 0,.slice none 0 0,.string ⟨#[]⟩,.slice none 0 0,.slice none 0 0,.string ⟨#[]⟩,.string ⟨#[]⟩,.string ⟨#[]⟩,.string ⟨#[]⟩,.string ⟨#[]⟩,.string ⟨#[]⟩],52⟩]
 have hbs:BoxesOk B w1 bs:=by
  refine⟨hon,fun b hb => ?_,fun b hb E hE => ?_,fun i j x y hi hj he => ?_,fun b hb => ?_⟩
  ·simp only [bs,List.mem_cons,List.not_mem_nil,or_false] at hb
   rcases hb with rfl | rfl | rfl
   ·exact h3
   ·exact h1
   ·exact h2
  ·simp only [bs,List.mem_cons,List.not_mem_nil,or_false] at hb
   rcases hb with rfl | rfl | rfl
   ·exact vH E hE
   ·exact VRL.cons (vy E hE (so 2 (by omega))) (VRL.cons (vy E hE (so 3 (by omega))) (VRL.cons (vy E hE (so 4 (by omega))) (VRL.cons (vy E hE (so 5 (by omega))) (VRL.cons (vy E hE (so 6 (by omega))) (VRL.cons (vy E hE (si 0 (by omega))) (VRL.cons (vy E hE (si 1 (by omega))) (VRL.cons (vy E hE (si 2 (by omega))) (VRL.cons (vy E hE (si 3 (by omega))) (VRL.cons (vy E hE (si 4 (by omega))) (VRL.cons (vy E hE (si 5 (by omega))) (VRL.cons rfl
     (VRL.cons (vy E hE (so 7 (by omega))) (VRL.cons (vy E hE (so 8 (by omega))) (VRL.cons (vy E hE (so 9 (by omega))) (VRL.cons (vy E hE (so 10 (by omega))) (VRL.cons (vy E hE sl) (VRL.cons (vy E hE sh) VRL.nil)))))))))))))))))
   ·exact VRL.cons rfl (VRL.cons rfl (VRL.cons rfl (VRL.cons rfl (VRL.cons rfl (VRL.cons rfl (VRL.cons rfl (VRL.cons rfl (VRL.cons rfl (VRL.cons rfl (VRL.cons rfl VRL.nil))))))))))
  ·match i,j,hi,hj with
   | 0,0,_,_ | 1,1,_,_ | 2,2,_,_=>rfl
   | 0,1,hi,hj=>simp [bs] at hi hj; subst hi; subst hj; exact absurd he.symm n13
   | 0,2,hi,hj=>simp [bs] at hi hj; subst hi; subst hj; exact absurd he.symm n23
   | 1,0,hi,hj=>simp [bs] at hi hj; subst hi; subst hj; exact absurd he n13
   | 1,2,hi,hj=>simp [bs] at hi hj; subst hi; subst hj; exact absurd he n12
   | 2,0,hi,hj=>simp [bs] at hi hj; subst hi; subst hj; exact absurd he n23
   | 2,1,hi,hj=>simp [bs] at hi hj; subst hi; subst hj; exact absurd he.symm n12
   | n+3,_,hi,_=>simp [bs] at hi
   | 0,n+3,_,hj | 1,n+3,_,hj | 2,n+3,_,hj=>simp [bs] at hj
  ·simp only [bs,List.mem_cons,List.not_mem_nil,or_false] at hb
   rcases hb with rfl | rfl | rfl
   ·exact z3
   ·exact z1
   ·exact z2
 have hok:=boxes_ok (h:=hone) hbs
 have hfoot:∀ b,Foot (boxE B hone bs) (sSe np half).h.get b→b=p1∨b=p2∨b=p3:=by
  intro b hf
  obtain⟨x,hx,rfl⟩:=boxes_foot (l:=bs) hf
  simp only [bs,List.mem_cons,List.not_mem_nil,or_false] at hx
  rcases hx with rfl | rfl | rfl
  ·exact .inr (.inr rfl)
  ·exact .inl rfl
  ·exact .inr (.inl rfl)
 have htr:TR (boxE B hone bs) (sSe np half).t a.tmps:=by
  intro k v hk
  have hk:(((T.e.set 1 (V.ptr 65 0)).set 2 (.ptr 66 0)).set 3 (.ptr 64 0)).get k=some v:=hk
  rw [T.get_set] at hk
  by_cases c3:k=3
  ·rw [if_pos c3] at hk; cases hk; subst c3; exact⟨_,t3_,_,boxE_at (j:=0) rfl,rfl⟩
  ·rw [if_neg c3,T.get_set] at hk
   by_cases c2:k=2
   ·rw [if_pos c2] at hk; cases hk; subst c2; exact⟨_,t2_,_,boxE_at (j:=2) rfl,rfl⟩
   ·rw [if_neg c2,T.get_set] at hk
    by_cases c1:k=1
    ·rw [if_pos c1] at hk; cases hk; subst c1; exact⟨_,t1_,_,boxE_at (j:=1) rfl,rfl⟩
    ·rw [if_neg c1,T.get_e] at hk; cases hk
 split at hrun
 ·rename_i rs hrs
  refine tail_wp (kitSe np D half neg cs).tabOk ((kitSe np D half neg cs).fnOk hK hchk) hrs hok htr rfl hdf (by rw [ts]; exact rest37_dst) fun r hr y E' w' hx hst => ?_
  have hro:=List.all_eq_true.1 hrun r hr
  have hok':=hok.step hst
  let M':Mem:=⟨w'.heap,fun b=>(b<M1.heap.size∧M1.frz b)∨Foot E' r.2.1.get b⟩
  have hM1:M1.Le M':=⟨hok'.inv.size,fun b hb hz=>⟨.inl ⟨hb,hz⟩,hok'.inv.same b hb hz⟩⟩
  unfold okSe at hro
  split at hro
  ·rename_i va vb vc vd n k cap vx0 vx1 vx2 vx3 vlo vhi hrv
   simp only [Bool.and_eq_true] at hro
   obtain⟨⟨⟨j1,j5⟩,j6⟩,j7⟩:=hro
   have j1:=V.eqL_eq _ _ j1
   have j5:=nbeq_true j5
   have j6:=nble_le j6
   rw [hrv] at hx
   obtain⟨xs,⟨y0,_,rfl,hy0,y1,_,rfl,hy1,y2,_,rfl,hy2,y3,_,rfl,hy3,tv,_,rfl,htv,u0,_,rfl,hu0,u1,_,rfl,hu1,u2,_,rfl,hu2,u3,_,rfl,hu3,ul,_,rfl,hul,uh,_,rfl,huh,hxn⟩,rfl⟩:=hx
   rw [show _=[] from hxn]
   have hnums:=nums E' hok'.sym
   have hT:=vT E' hok'.sym
   have ex:∃ xr,VRL E' (abSe cs) xr∧((¬ (ax=bx∧ay=by_)∧xr=[qV ax D,qV ay D,qV bx D,qV by_ D])∨xr=[t0,t1,t2,t3]):=by
    show ∃ xr,VRL E' (abSe (caseOf ax ay bx by_)) xr∧_
    unfold caseOf
    by_cases e1:ax=bx
    ·rw [if_pos e1]
     by_cases e2:ay=by_
     ·rw [if_pos e2]; exact⟨_,hT,.inr rfl⟩
     ·rw [if_neg e2]; exact⟨_,hnums.drop 2,.inl ⟨fun h=>e2 h.2,rfl⟩⟩
    ·rw [if_neg e1]; exact⟨_,hnums.drop 2,.inl ⟨fun h=>e1 h.1,rfl⟩⟩
   obtain⟨xr,hxr,hcase⟩:=ex
   have hall:VRL E' (histSe np++abSe cs++[syC 44,syC 45]) ([slV b0 np c0,m1,strB baseB,sv]++xr++[hV (loZ lo),hV (upZ lo hi)]):=((vH E' hok'.sym).append hxr).append (hnums.take 2)
   have hgot:VRL E' [va,vb,vc,vd,vx0,vx1,vx2,vx3,vlo,vhi] [y0,y1,y2,y3,u0,u1,u2,u3,ul,uh]:=VRL.cons hy0 (VRL.cons hy1 (VRL.cons hy2 (VRL.cons hy3 (VRL.cons hu0 (VRL.cons hu1 (VRL.cons hu2 (VRL.cons hu3 (VRL.cons hul (VRL.cons huh VRL.nil)))))))))
   rw [j1] at hgot
   have heq:=VRL.det _ _ _ hgot hall
   split at j7
   ·rename_i cs' te ue ze hne
    obtain⟨ie,hie,rfl⟩:=htv
    obtain⟨ie',hie',hu,rc,fr,f1,f2,f3,xs,rest,hxs,hrc⟩:=hst.rel.obj _ _ hne
    rw [hie] at hie'; cases hie'
    have hnum:=numsEq_ok hC hok'.sym j7
    have hxs':=VRL.det _ _ _ hxs hnum
    rw [htsN_val _ _ _ _ _ _ _ _ _ hn6] at hxs'
    have hlen:∃ r0 r1 r2 r3,xr=[r0,r1,r2,r3]∧((¬ (ax=bx∧ay=by_)∧r0=qV ax D∧r1=qV ay D∧r2=qV bx D∧r3=qV by_ D)∨(r0=t0∧r1=t1∧r2=t2∧r3=t3)):=by
     rcases hcase with⟨h,rfl⟩ | rfl
     ·exact⟨_,_,_,_,rfl,.inl ⟨h,rfl,rfl,rfl,rfl⟩⟩
     ·exact⟨_,_,_,_,rfl,.inr ⟨rfl,rfl,rfl,rfl⟩⟩
    obtain⟨r0,r1,r2,r3,rfl,hcase2⟩:=hlen
    clear hcase
    simp only [List.cons_append,List.nil_append,List.cons.injEq,and_true] at heq
    obtain⟨rfl,rfl,rfl,rfl,rfl,rfl,rfl,rfl,rfl,rfl⟩:=heq
    refine⟨_,M',rfl,hgr.trans hst.grew,fun b hb => ?_,rfl,hle.trans hM1,fun b hb => ?_,_,_,_,_,_,rfl,hM1,⟨ie.blk,capOf ie 0 cap,by rw [j5]; rfl,?_,.inr ⟨n,_,ie,hne,hie,rfl⟩,rc,te,fr,rest,f1,by rw [hrc,hxs']⟩,hcase2⟩
    ·rw [hst.frame b (Nat.lt_of_lt_of_le hb hgr.size) (fun hf=>by rcases hfoot b hf with rfl | rfl | rfl <;> omega),hfr b hb]
    ·rcases hb with⟨hb,hz⟩ | hb
     ·rcases hfrz b hz with h | ⟨h,h'⟩
      ·exact .inl h
      ·exact .inr ⟨h,Nat.lt_of_lt_of_le h' hst.grew.size⟩
     ·have hlt:b<w'.heap.size:=by
       obtain⟨n,o,i,hn,hi,rfl⟩:=hb
       obtain⟨i',hi',hob⟩:=hst.rel.obj n o hn
       rw [hi] at hi'; cases hi'
       exact hob.lt
      refine .inr ⟨?_,hlt⟩
      rcases Nat.lt_or_ge b w1.heap.size with h | h
      ·rcases hfoot b (hst.foot b h hb) with rfl | rfl | rfl <;> omega
      ·exact Nat.le_trans hgr.size h
    ·rw [← j5]
     unfold capOf
     split
     ·exact j6
     ·exact Nat.le_trans j6 (Nat.le_max_left _ _)
   ·cases j7
  ·cases hro
 ·cases hrun
end
set_option maxHeartbeats 1000000 in
theorem make37_walk {M:Mem} {np nt:Nat} {X:Value→Value→Mem→Prop} {k s0 s1:Int} {hf half:Bool} {ds:Value} {hv:Nat→Int} {a0 a1 q0 q1 lo hi:Int} {w:World} (hw:M.On w)
  (h30:∀ w,M.On w→Calls Tryz.prog 24 #[.agg #[.int .u8 k,.int .i8 s0,.int .i8 s1,.bool hf,ds]] w (RetM M w (Post30 np nt X))) {QQ:Exit→Act→World→Prop}
  (hQ:∀ (M1:Mem) (b0 c0 b1 c1:Nat) (sv:Value) (p1 p2 p3:Nat) (a:Act) (w1:World),M1.On w1→a.tmps.size=61→a.tmps[1]? = some (.pointer (some ⟨p1,0,none⟩))→a.tmps[2]? = some (.pointer (some ⟨p2,0,none⟩))→a.tmps[3]? = some (.pointer (some ⟨p3,0,none⟩))→a.defers=[] →
   w1.heap[p1]? = some (.cells ([Value.int .u8 k,.int .i8 s0,.int .i8 s1,.bool hf,ds]++[Value.int .i8 (hv 0),.int .i8 (hv 1),.int .i8 (hv 2),.int .i8 (hv 3),.int .i8 (hv 4),.int .i8 (hv 5),.bool half,.int .u8 a0,.int .u8 a1,.int .u8 q0,.int .u8 q1,.int .i8 lo,.int .i8 hi]).toArray 34 (0,0)) →
   w1.heap[p2]? = some (.cells #[.slice none 0 0,.slice none 0 0,.string ⟨#[]⟩,.slice none 0 0,.slice none 0 0,.string ⟨#[]⟩,.string ⟨#[]⟩,.string ⟨#[]⟩,.string ⟨#[]⟩,.string ⟨#[]⟩,.string ⟨#[]⟩] 52 (0,0)) →
   w1.heap[p3]? = some (.cells #[slV b0 np c0,slV b1 nt c1,strB baseB,sv] 45 (0,0))→p1≠p2→p1≠p3→p2≠p3 → ¬ (p1<M1.heap.size∧M1.frz p1) → ¬ (p2<M1.heap.size∧M1.frz p2) → ¬ (p3<M1.heap.size∧M1.frz p3) →
   M.Le M1→(∀ b,M1.frz b→(b<M.heap.size∧M.frz b)∨(w.heap.size≤b∧b<w1.heap.size))→Grew w w1→(∀ b,b<w.heap.size→w1.heap[b]? = w.heap[b]?)→w.heap.size≤p1→w.heap.size≤p2→w.heap.size≤p3→(∃ a n c,sv=Value.slice a n c) →
   CallOk Tryz.prog M1 72 [.agg #[slV b0 np c0,slV b1 nt c1]] (.int .i64 0)→X (slV b0 np c0) (slV b1 nt c1) M1 →
   HistR M1 (slV b0 np c0) (slV b1 nt c1) sv→rest37.wp Tryz.prog QQ a w1) :
  Code.wp Tryz.prog ((sq1 (bodyOf Tryz.f6)).seq ((sq1 (sq2 (bodyOf Tryz.f6))).seq rest37)) QQ
   { tmps := #[.agg #[.int .u8 k,.int .i8 s0,.int .i8 s1,.bool hf,ds,.int .i8 (hv 0),.int .i8 (hv 1),.int .i8 (hv 2),.int .i8 (hv 3),.int .i8 (hv 4),.int .i8 (hv 5),.bool half,.int .u8 a0,.int .u8 a1,.int .u8 q0,.int .u8 q1,.int .i8 lo,.int .i8 hi]]++Array.replicate (61-1) undef,defers:=[] } w:=by
 have H30:=Lib.hid h30; clear h30
 have HQ:=Lib.hid hQ; clear hQ
 have HW:=Lib.hid hw; clear hw
 generalize rest37=rest at *
 simp only [sq1,sq2,bodyOf,Tryz.f6,Option.getD_some,List.size_toArray,List.length_cons,List.length_nil,Nat.reduceAdd,Nat.reduceSub,Array.replicate_succ,Array.replicate_zero,List.push_toArray,List.append_toArray,List.nil_append,List.cons_append]
 go_wp2_with fail
 refine (H30.out _ (On.alloc (On.alloc HW.out _) _)).mono ?_
 rintro e w' ⟨y,M1,rfl,hgr,hfr,hh,hle,hz,b0,c0,b1,c1,sv,rfl,h1v,hck,hX,hhist⟩
 obtain⟨sva,svn,svc,rfl⟩:=h1v
 have HGR:=Lib.hid hgr; clear hgr
 have HFR:=Lib.hid hfr; clear hfr
 have HH:=Lib.hid hh; clear hh
 have HLE:=Lib.hid hle; clear hle
 have HZ:=Lib.hid hz; clear hz
 have HCK:=Lib.hid hck; clear hck
 have HX:=Lib.hid hX; clear hX
 have HS:=Lib.hid hhist; clear hhist
 unfold slV strB
 go_wp2_with fail
 have hgr:=HGR.out
 have hfr:=HFR.out
 have hh:=HH.out
 have hle:=HLE.out
 have hz:=HZ.out
 have hwo:=HW.out
 have sz:∀ (w:World) (o:Obj),(w.alloc o).heap.size=w.heap.size+1:=fun w o=>by rw [alloc_heap,Array.size_push]
 have old:∀ (w:World) (o:Obj) (b:Nat),b<w.heap.size→(w.alloc o).heap[b]? = w.heap[b]? := fun w o b hb=>by rw [alloc_heap,Array.getElem?_push,if_neg (Nat.ne_of_lt hb)]
 have new:∀ (w:World) (o:Obj),(w.alloc o).heap[w.heap.size]? = some o:=fun w o=>by rw [alloc_heap,Array.getElem?_push,if_pos rfl]
 have new2:∀ (w:World) (o o':Obj),((w.alloc o).alloc o').heap[w.heap.size+1]? = some o':=fun w o o'=>by
  have:=new (w.alloc o) o'
  rwa [sz] at this
 have hsz:=hgr.size
 rw [sz,sz] at hsz
 have hM1:M1.heap.size=w'.heap.size:=by rw [hh]
 have n1:¬ (w.heap.size<M1.heap.size∧M1.frz w.heap.size):=fun⟨_,h⟩=>by
  rcases hz _ h with⟨h,_⟩ | ⟨h,_⟩
  ·have:=hwo.size; omega
  ·rw [sz,sz] at h; omega
 have n2:¬ (w.heap.size+1<M1.heap.size∧M1.frz (w.heap.size+1)):=fun⟨_,h⟩=>by
  rcases hz _ h with⟨h,_⟩ | ⟨h,_⟩
  ·have:=hwo.size; omega
  ·rw [sz,sz] at h; omega
 refine HQ.out M1 b0 c0 b1 c1 _ w.heap.size (w.heap.size+1) w'.heap.size _ _ ?_ rfl rfl rfl rfl rfl ?_ ?_ ?_ (by omega) (by omega) (by omega) n1 n2 (by omega) hle ?_ ?_ ?_ (by omega) (by omega) (by omega) ⟨sva,svn,svc,rfl⟩ HCK.out HX.out HS.out
 ·refine On.alloc ⟨by omega,fun b hb _=>by rw [hh]⟩ _
 ·rw [old _ _ _ (by omega),hfr _ (by rw [sz,sz]; omega),old _ _ _ (by rw [sz]; omega),new]
  rfl
 ·rw [old _ _ _ (by omega),hfr _ (by rw [sz,sz]; omega)]
  exact new2 _ _ _
 ·exact new _ _
 ·intro b hb
  rcases hz b hb with h | ⟨h,h'⟩
  ·exact .inl h
  ·rw [sz,sz] at h
   exact .inr ⟨by omega,by rw [sz]; omega⟩
 ·exact⟨hgr.tape,hgr.os,hgr.output,by rw [sz]; omega⟩
 ·intro b hb
  rw [old _ _ _ (by omega),hfr _ (by rw [sz,sz]; omega),old _ _ _ (by rw [sz]; omega),old _ _ _ hb]
theorem body37:Tryz.f6.body=some ((sq1 (bodyOf Tryz.f6)).seq ((sq1 (sq2 (bodyOf Tryz.f6))).seq rest37)):=rfl
structure MeshK (d nt:Nat) (pts:List (Int × Int)) (tris:List Int):Prop where
 d:d=1∨d=2
 np:pts.length=3∨pts.length=4∨pts.length=5∨pts.length=6
 kind:(pts.length,tris)∈kindsC
 nt:nt=tris.length/3
 cor:(tris.all fun n=>decide (0≤n)&&decide (n<pts.length))=true
 rng:∀ p∈pts,(-13≤p.1∧p.1≤13)∧(-13≤p.2∧p.2≤13)
 two:∃ p q rest,pts=p::q::rest ∧ ¬ (p.1=q.1∧p.2=q.2)
def PlacesOk (D:Nat) (x0 x1 x2 x3:Value):Prop := ∃ ax ay bx by_:Int,(x0=qV ax D∧x1=qV ay D∧x2=qV bx D∧x3=qV by_ D)∧Big ax∧Big ay∧Big bx∧Big by_ ∧ ¬ (ax=bx∧ay=by_)
def Post37 (np nt D:Nat) (X:Value→Value→Mem→Prop) (z:Nat→Int) (lo up:Int) (y:Value) (M':Mem):Prop:=
 ∃ b0 c0 b1 c1 sv tv x0 x1 x2 x3,y = .agg #[slV b0 np c0,slV b1 nt c1,strB baseB,sv,tv,x0,x1,x2,x3,hV lo,hV up]∧(∃ a n c,sv=Value.slice a n c)∧CallOk Tryz.prog M' 72 [.agg #[slV b0 np c0,slV b1 nt c1]] (.int .i64 0)∧X (slV b0 np c0) (slV b1 nt c1) M' ∧
  HistR M' (slV b0 np c0) (slV b1 nt c1) sv∧TerrRaw M' np z tv∧PlacesOk D x0 x1 x2 x3
def planM (k s0 s1:Int) (hf half:Bool) (ds:Value) (hv:Nat→Int) (a0 a1 q0 q1 lo hi:Int):Value:=
 .agg #[.int .u8 k,.int .i8 s0,.int .i8 s1,.bool hf,ds,.int .i8 (hv 0),.int .i8 (hv 1),.int .i8 (hv 2),.int .i8 (hv 3),.int .i8 (hv 4),.int .i8 (hv 5),.bool half,.int .u8 a0,.int .u8 a1,.int .u8 q0,.int .u8 q1,.int .i8 lo,.int .i8 hi]
theorem mul_small {a:Int} {g:Nat} (h : -20≤a∧a≤20) (hg:g≤24):Big (a*(g:Int)):=by
 have h1:=mul_bd (a:=a) (b:=(g:Int)) (k:=20) (m:=24) (by omega) (by omega) (by omega) (by omega)
 exact⟨by omega,by omega⟩
theorem make37 {M:Mem} (hg:Good M) {d nt:Nat} {pts:List (Int × Int)} {tris:List Int} (hmk:MeshK d nt pts tris) {u0 u1:Int} (hu0 : -7≤u0∧u0≤7) (hu1 : -7≤u1∧u1≤7) {k s0 s1:Int} {hf half:Bool} {ds:Value} (hds:oneV ds) {hv:Nat→Int} (hh:HeightsOk hv)
  {a0 a1 q0 q1 lo hi:Int} (ha0:0≤a0∧a0≤255) (ha1:0≤a1∧a1≤255) (hq0:0≤q0∧q0≤255) (hq1:0≤q1∧q1≤255) (hlo : -128≤lo∧lo≤127) (hhi : -128≤hi∧hi≤127) {w:World} (hw:M.On w)
  (h30:∀ w,M.On w→Calls Tryz.prog 24 #[.agg #[.int .u8 k,.int .i8 s0,.int .i8 s1,.bool hf,ds]] w (RetM M w (Post30 pts.length nt (MeshRaw d u0 u1 pts tris nt)))) :
  Calls Tryz.prog 6 #[planM k s0 s1 hf half ds hv a0 a1 q0 q1 lo hi] w (RetM M w (Post37 pts.length nt (d*(4*pts.length)) (MeshRaw d u0 u1 pts tris nt) (zT half hv) (loZ lo) (upZ lo hi))):=by
 refine calls_of_wp Tryz.func6 body37 ?_
 refine make37_walk hw h30 (QQ:=bodyPost Tryz.prog Tryz.f6 (RetM M w (Post37 pts.length nt (d*(4*pts.length)) (MeshRaw d u0 u1 pts tris nt) (zT half hv) (loZ lo) (upZ lo hi)))) ?_
 intro M1 b0 c0 b1 c1 sv p1 p2 p3 a w1 hon ts t1 t2 t3 hdf h1 h2 h3 n12 n13 n23 z1 z2 z3 hle hz hgr hfr w1_ w2_ w3_ hsv hck hx hhist
 have hg1:=hg.le hle
 have hnp:=hmk.np
 have hrg:∀ p∈pts,(-20≤p.1+u0∧p.1+u0≤20)∧(-20≤p.2+u1∧p.2+u1≤20):=fun p hp=>by
  have:=hmk.rng p hp
  omega
 obtain⟨ax,ay,hax,hay,hsa⟩:=spot_ok hg1 (m1:=slV b1 nt c1) trivial hx hnp hmk.d hrg ha0 ha1
 obtain⟨bx,by_,hbx,hby,hsb⟩:=spot_ok hg1 (m1:=slV b1 nt c1) trivial hx hnp hmk.d hrg hq0 hq1
 obtain⟨P,Q,rest,hpts,hne⟩:=hmk.two
 have hsv1:oneV sv:=by obtain⟨_,_,_,rfl⟩:=hsv; trivial
 have hraw:pts.length≤c0∧M1.frz b0 ∧ ∃ rc t fr rest,M1.heap[b0]? = some (.cells rc t fr)∧rc.toList=[numR P.1 u0 d,numR P.2 u1 d,numR Q.1 u0 d,numR Q.2 u1 d]++rest:=by
  obtain⟨b0',c0',b1',c1',y0,y1,hc0,hc1,zf0,zf1,⟨rc0,ty0,fr0,rest0,g0,e0⟩,_⟩:=hx.raw
  obtain⟨rfl,_,rfl⟩:=slV_inj' y0
  refine⟨hc0,zf0,rc0,ty0,fr0,ptsR d u0 u1 rest++rest0,g0,?_⟩
  rw [e0,hpts]
  show numR P.1 u0 d::numR P.2 u1 d::numR Q.1 u0 d::numR Q.2 u1 d::(ptsR d u0 u1 rest++rest0)=_
  rfl
 have hd0:0<d:=by rcases hmk.d with h | h <;> omega
 have hg0:0<4*pts.length:=by omega
 have:=make37_tail hg1 (half:=half) hnp hmk.d (m1:=slV b1 nt c1) trivial hsv1 hh hlo hhi hax hay hbx hby (t0:=numR P.1 u0 d) (t1:=numR P.2 u1 d) (t2:=numR Q.1 u0 d) (t3:=numR Q.2 u1 d) trivial trivial trivial trivial hraw hsa hsb (pl:=[.int .u8 k,.int .i8 s0,.int .i8 s1,.bool hf,ds]) rfl
  (by intro x hx; simp only [List.mem_cons,List.not_mem_nil,or_false] at hx; rcases hx with rfl | rfl | rfl | rfl | rfl <;> first | trivial | exact hds) hon ts t1 t2 t3 hdf h1 h2 h3 n12 n13 n23 z1 z2 z3 hle hz hgr hfr w1_ w2_ w3_
 refine wp_mono this fun e a w h=>bodyPost_mono ?_ h
 rintro e w' ⟨y,M',rfl,g1,g2,g3,g4,g5,tv,x0,x1,x2,x3,rfl,g6,g7,g8⟩
 refine⟨_,M',rfl,g1,g2,g3,g4,g5,b0,c0,b1,c1,sv,tv,x0,x1,x2,x3,rfl,hsv,hck.le g6,MeshRaw.le g6 hx,hhist.le g6,g7,?_⟩
 rcases g8 with⟨hn,e0,e1,e2,e3⟩ | ⟨rfl,rfl,rfl,rfl⟩
 ·exact⟨ax,ay,bx,by_,⟨e0,e1,e2,e3⟩,hax,hay,hbx,hby,hn⟩
 ·have mP:P∈pts:=by rw [hpts]; simp
  have mQ:Q∈pts:=by rw [hpts]; simp
  have h24:4*pts.length≤24:=by omega
  refine⟨(P.1+u0)*(4*pts.length:Nat),(P.2+u1)*(4*pts.length:Nat),(Q.1+u0)*(4*pts.length:Nat),(Q.2+u1)*(4*pts.length:Nat),⟨numR_qV hd0 hg0,numR_qV hd0 hg0,numR_qV hd0 hg0,numR_qV hd0 hg0⟩,
   mul_small (hrg P mP).1 h24,mul_small (hrg P mP).2 h24,mul_small (hrg Q mQ).1 h24,mul_small (hrg Q mQ).2 h24,fun⟨e1,e2⟩=>hne ⟨?_,?_⟩⟩
  ·have:=Int.mul_eq_mul_right_iff (c:=((4*pts.length:Nat):Int)) (a:=P.1+u0) (b:=Q.1+u0) (by omega)
   have:=this.1 e1
   omega
  ·have:=Int.mul_eq_mul_right_iff (c:=((4*pts.length:Nat):Int)) (a:=P.2+u1) (b:=Q.2+u1) (by omega)
   have:=this.1 e2
   omega
end Go.Proofs.YtogialghppmdfaaGreatDoor
