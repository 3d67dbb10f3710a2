/-
  klippelaw30.Deal on symbols: a run's tables give a kept call, and an event that is right.
-/
import Derived.Test.YtkjinnjopoehhaaGreatDoorSymPoly
import Derived.Test.YtkjinnjopoehhaaGreatDoorHistX
import Derived.Test.YtkjinnjopoehhaaGreatDoorSymX
set_option linter.unusedSectionVars false
set_option linter.unusedVariables false
set_option linter.unusedSimpArgs false
namespace Klp
def nrm (a b c:Int):Int × Int × Int:=if a=0∧b=0∧c=0 then (a,b,1) else (a,b,c)
theorem nrm_ne (a b c:Int):(nrm a b c).1≠0∨(nrm a b c).2.1≠0∨(nrm a b c).2.2≠0:=by
 unfold nrm; split <;> simp_all <;> omega
theorem nrm_bd {a b c:Int} (ha : -2≤a∧a≤2) (hb : -2≤b∧b≤2) (hc : -2≤c∧c≤2) :
  (-2≤(nrm a b c).1∧(nrm a b c).1≤2)∧(-2≤(nrm a b c).2.1∧(nrm a b c).2.1≤2)∧(-2≤(nrm a b c).2.2∧(nrm a b c).2.2≤2):=by
 unfold nrm; split <;> simp <;> omega
def crs (a b c x y z:Int):Int × Int × Int:=(b*z-c*y,c*x-a*z,a*y-b*x)
def acr (a b c x y z:Int):Int × Int × Int:=
 if (crs a b c x y z).1=0∧(crs a b c x y z).2.1=0∧(crs a b c x y z).2.2=0 then (if b=0∧c=0 then (-c,0,a) else (0,c,-b)) else crs a b c x y z
theorem acr_dot (a b c x y z:Int):(acr a b c x y z).1*a+(acr a b c x y z).2.1*b+(acr a b c x y z).2.2*c=0:=by
 unfold acr
 split
 ·split
  ·rename_i h; obtain⟨rfl,rfl⟩:=h; simp
  ·simp only [Int.zero_mul,Int.zero_add,Int.neg_mul,Int.mul_comm c b]; omega
 ·simp only [crs]; grind
theorem mul_bd {a b:Int} (ha : -2≤a∧a≤2) (hb : -2≤b∧b≤2) : -4≤a*b∧a*b≤4:=by
 have ea:a = -2∨a = -1∨a=0∨a=1∨a=2:=by omega
 rcases ea with rfl | rfl | rfl | rfl | rfl <;> omega
theorem acr_bd {a b c x y z:Int} (ha : -2≤a∧a≤2) (hb : -2≤b∧b≤2) (hc : -2≤c∧c≤2) (hx : -2≤x∧x≤2) (hy : -2≤y∧y≤2) (hz : -2≤z∧z≤2) :
  (-8≤(acr a b c x y z).1∧(acr a b c x y z).1≤8)∧(-8≤(acr a b c x y z).2.1∧(acr a b c x y z).2.1≤8)∧(-8≤(acr a b c x y z).2.2∧(acr a b c x y z).2.2≤8):=by
 have m1:=mul_bd hb hz
 have m2:=mul_bd hc hy
 have m3:=mul_bd hc hx
 have m4:=mul_bd ha hz
 have m5:=mul_bd ha hy
 have m6:=mul_bd hb hx
 unfold acr
 split
 ·split <;> simp <;> omega
 ·simp only [crs]; omega
end Klp
namespace Go.Proofs.YtkjinnjopoehhaaGreatDoor
open Go Ev Klp
def numV (z:Int):Value:=strV (canon (z:Rat))
noncomputable def numIs (c:CX) (q:Poly) (v:V):Bool:=match numE c v with
 | some a=>Nat.beq a.d 1&&Poly.same a.p q
 | none=>false
noncomputable def intIs (c:CX) (k:IntKind) (q:Poly) (v:V):Bool:=match intE c v with
 | some (j,p)=>kindEq j k&&Poly.same p q
 | none=>false
section
variable {w0:Base} {x:Nat→Int} {o:Nat→Value} {c:CX} (hC:CXOk w0 x o c) {E:Env} (hE:StatOk w0 E)
include hC hE
theorem numIs_ok {q:Poly} {v:V} (h:numIs c q v=true):VR E v (numV (Poly.ev x q)):=by
 unfold numIs at h
 split at h
 ·rename_i a ha
  simp only [Bool.and_eq_true] at h
  have e1:=nbeq_true h.1
  have e2:=Poly.ev_same x h.2
  have:=num_ret hC hE ha
  unfold Num.val at this
  rw [e1,e2] at this
  unfold numV
  have e3:((Poly.ev x q:Rat)/(((1:Nat):Int):Rat))=(Poly.ev x q:Rat):=by
   rw [show (((1:Nat):Int):Rat)=1 from rfl]
   generalize (Poly.ev x q:Rat)=z
   grind
  rw [e3] at this
  exact this
 ·cases h
theorem intIs_ok {k:IntKind} {q:Poly} {v:V} (h:intIs c k q v=true):VR E v (.int k (Poly.ev x q)):=by
 unfold intIs at h
 split at h
 ·rename_i j p ha
  simp only [Bool.and_eq_true] at h
  have e1:=kindEq_iff.1 h.1
  subst e1
  rw [← Poly.ev_same x h.2]
  exact int_ret hC hE ha
 ·cases h
end
noncomputable def numsIs (c:CX):List Poly→List V→Bool
 | [],[]=>true
 | q::qs,v::vs=>numIs c q v&&numsIs c qs vs
 | _,_=>false
noncomputable def intsIs (c:CX):List (IntKind × Poly)→List V→Bool
 | [],[]=>true
 | q::qs,v::vs=>intIs c q.1 q.2 v&&intsIs c qs vs
 | _,_=>false
theorem numsIs_ok {w0:Base} {x:Nat→Int} {o:Nat→Value} {c:CX} (hC:CXOk w0 x o c) {E:Env} (hE:StatOk w0 E):∀ {qs:List Poly} {vs:List V},numsIs c qs vs=true→VRL E vs (qs.map fun q=>numV (Poly.ev x q))
 | [],[],_=>rfl
 | [],_::_,h=>by cases h
 | _::_,[],h=>by cases h
 | q::qs,v::vs,h=>by
  simp only [numsIs,Bool.and_eq_true] at h
  exact⟨_,_,rfl,numIs_ok hC hE h.1,numsIs_ok hC hE h.2⟩
theorem intsIs_ok {w0:Base} {x:Nat→Int} {o:Nat→Value} {c:CX} (hC:CXOk w0 x o c) {E:Env} (hE:StatOk w0 E):∀ {qs:List (IntKind × Poly)} {vs:List V},intsIs c qs vs=true→VRL E vs (qs.map fun q=>.int q.1 (Poly.ev x q.2))
 | [],[],_=>rfl
 | [],_::_,h=>by cases h
 | _::_,[],h=>by cases h
 | q::qs,v::vs,h=>by
  simp only [intsIs,Bool.and_eq_true] at h
  exact⟨_,_,rfl,intIs_ok hC hE h.1,intsIs_ok hC hE h.2⟩
theorem callOk_case {M:Mem} (hg:Good M) {c:CX} {b:List BinRow} {v:List ConvRow} {r:Rows} {x:Nat→Int} (hc:(kitK c b v r []).chk=true) {f:Nat} {args:List V} {val:V}
  (hr:memoOk (kitK c b v r []).tab 10000 60 f args val=true) (hbd:∀ v,(c.b v).has (x v)) (hfs:FactsHold x c.fs) (hrem:∀ r∈c.rems,(Poly.ev x r.1).tmod (r.2.1:Int)=Poly.ev x r.2.2) (hl:c.lens=[])
  {xs:List Value} {y:Value} (hx:∀ (w0:Base) (E:Env),CXOk w0 x (fun _=>.nilFunc) c→StatOk w0 E→VRL E args xs) (hy:∀ (w0:Base) (E:Env),CXOk w0 x (fun _=>.nilFunc) c→StatOk w0 E→VR E val y) :
  CallOk Tryz.prog M f xs y:=by
 let w0:Base:={ toMem:=M,sym:=symX x (fun _=>.nilFunc) c.tab }
 have hC:CXOk w0 x (fun _=>.nilFunc) c:=⟨fun _ _ _=>rfl,hbd,hfs,hrem,(fun p hp=>by rw [hl] at hp; cases hp),(fun _=>trivial),hg.pow _ _,hg.tabs⟩
 have hone:∀ i,oneV (w0.sym i):=fun i=>symX_one (o:=fun _=>.nilFunc) (fun _=>trivial) i
 have hE:StatOk w0 (baseE w0 hone):=base_stat
 exact (Kit.run (kitK_ok hC AllK.nil) hc hr).callOk hE (hx w0 _ hC hE) (hy w0 _ hC hE)
def ne0:SS:=⟨true,false,true⟩
def ze0:SS:=⟨false,true,false⟩
def P0 (v:Nat):Poly:=[([v],1)]
theorem ev_P0 (x:Nat→Int) (v:Nat):Poly.ev x (P0 v)=x v:=by simp [P0,Poly.ev,Poly.evM]
def kst (n:Nat):Poly:=match n with | 0=>[] | n=>[([],(n:Int))]
theorem ev_kst (x:Nat→Int) (n:Nat):Poly.ev x (kst n)=n:=by cases n <;> simp [kst,Poly.ev,Poly.evM]
def nD (d:Nat→Int):Int × Int × Int:=nrm ((d 1).tmod 3) ((d 2).tmod 3) ((d 3).tmod 3)
def cD (d:Nat→Int):Int × Int × Int:=acr (nD d).1 (nD d).2.1 (nD d).2.2 ((d 4).tmod 3) ((d 5).tmod 3) ((d 6).tmod 3)
def xL (d:Nat→Int):List Int:=[d 0,d 1,d 2,d 3,d 4,d 5,d 6,d 7,d 8,d 9,d 10,d 11,(d 1).tmod 3,(d 2).tmod 3,(d 3).tmod 3,(d 4).tmod 3,(d 5).tmod 3,(d 6).tmod 3,(d 7).tmod 4,(d 7).tmod 5,(d 7).tmod 3,
 (d 8).tmod 4,(d 9).tmod 4,(d 10).tmod 4,(d 11).tmod 4,(nD d).1,(nD d).2.1,(nD d).2.2,(cD d).1,(cD d).2.1,(cD d).2.2]
def xD (d:Nat→Int) (v:Nat):Int:=((xL d)[v]?).getD 0
structure DeedOk (d:Nat→Int):Prop where
 byte:∀ k,k=0∨(8≤k∧k<12)→0≤d k∧d k≤255
 small:∀ k,1≤k→k<8 → -128≤d k∧d k≤127
def bdL:List Iv:=[(0,255),(-128,127),(-128,127),(-128,127),(-128,127),(-128,127),(-128,127),(-128,127),(0,255),(0,255),(0,255),(0,255),(-2,2),(-2,2),(-2,2),(-2,2),(-2,2),(-2,2),(-3,3),(-4,4),(-2,2),
 (0,3),(0,3),(0,3),(0,3),(-2,2),(-2,2),(-2,2),(-8,8),(-8,8),(-8,8)]
def bdT:T Iv:=(.n (.n (.n (.n (.n .e (some (-2,2)) .e) (some (-128,127)) (.n .e (some (0,3)) .e)) (some (-128,127)) (.n (.n .e (some (-4,4)) .e) (some (0,255)) (.n .e (some (-2,2)) .e))) (some (-128,127)) (.n (.n (.n .e (some (-2,2)) .e) (some (0,255)) (.n .e (some (-2,2)) .e)) (some (-128,127)) (.n (.n .e (some (0,3)) .e) (some (-2,2)) (.n .e (some (-8,8)) .e)))) (some (0,255)) (.n (.n (.n (.n .e (some (-2,2)) .e) (some (0,255)) (.n .e (some (0,3)) .e)) (some (-128,127)) (.n (.n .e (some (-2,2)) .e) (some (-2,2)) (.n .e (some (-8,8)) .e))) (some (-128,127)) (.n (.n (.n .e (some (-3,3)) .e) (some (0,255)) (.n .e (some (-2,2)) .e)) (some (-128,127)) (.n (.n .e (some (0,3)) .e) (some (-2,2)) (.n .e (some (-8,8)) .e)))))
theorem bdT_eq:bdT=T.ofList .e 0 bdL:=by kernel_rfl
theorem tmod_rg {z:Int} {n:Nat} (hn:0<n) : -((n:Int)-1)≤z.tmod n∧z.tmod n≤(n:Int)-1:=by
 have h:(z.tmod n).natAbs<n:=by
  rw [Int.natAbs_tmod]
  have:((n:Int)).natAbs=n:=Int.natAbs_natCast n
  rw [this]
  exact Nat.mod_lt _ hn
 omega
theorem tmod_rn {z:Int} {n:Nat} (hn:0<n) (hz:0≤z):0≤z.tmod n∧z.tmod n≤(n:Int)-1:=by
 have h1:=tmod_rg (z:=z) hn
 have h2:=Int.tmod_nonneg (n:Int) hz
 omega
def zipAll {α β:Type} (p:α→β→Prop):List α→List β→Prop
 | [],[]=>True
 | a::u,b::bs=>p a b∧zipAll p u bs
 | _,_=>False
theorem zipAll_get {α β:Type} {p:α→β→Prop}:∀ {u:List α} {bs:List β},zipAll p u bs→u.length=bs.length ∧ ∀ (i:Nat) (a:α) (b:β),u[i]? = some a→bs[i]? = some b→p a b
 | [],[],_=>⟨rfl,fun i a b h=>by simp at h⟩
 | [],_::_,h=>h.elim
 | _::_,[],h=>h.elim
 | a::u,b::bs,⟨h1,h2⟩=>by
  obtain⟨hl,hg⟩:=zipAll_get h2
  refine⟨by simp [hl],fun i x y hx hy => ?_⟩
  cases i with
  | zero=>simp at hx hy; subst hx; subst hy; exact h1
  | succ i=>exact hg i x y (by simpa using hx) (by simpa using hy)
theorem bd_of {l:List Iv} {zs:List Int} (h:zipAll (fun i z=>Iv.has i z) l zs) (v:Nat):(((T.ofList .e 0 l).get v).getD (0,0)).has ((zs[v]?).getD 0):=by
 obtain⟨hl,hg⟩:=zipAll_get h
 rw [T.get_ofList]
 by_cases hv:v<l.length
 ·rw [if_pos ⟨Nat.zero_le _,by omega⟩,Nat.sub_zero]
  have h1:l[v]? = some l[v]:=List.getElem?_eq_getElem hv
  have h2:zs[v]? = some (zs[v]'(by omega)):=List.getElem?_eq_getElem (by omega)
  rw [h1,h2]
  exact hg v _ _ h1 h2
 ·rw [if_neg (by omega),T.get_e,List.getElem?_eq_none (by omega:zs.length≤v)]
  exact⟨Int.le_refl _,Int.le_refl _⟩
theorem nD_bd (d:Nat→Int):(-2≤(nD d).1∧(nD d).1≤2)∧(-2≤(nD d).2.1∧(nD d).2.1≤2)∧(-2≤(nD d).2.2∧(nD d).2.2≤2):=by
 have h:=fun z:Int=>tmod_rg (z:=z) (n:=3) (by omega)
 exact nrm_bd (h (d 1)) (h (d 2)) (h (d 3))
theorem xD_bd {d:Nat→Int} (hd:DeedOk d) (v:Nat):((bdT.get v).getD (0,0)).has (xD d v):=by
 rw [bdT_eq]
 unfold xD
 refine bd_of ?_ v
 have b:=hd.byte
 have s:=hd.small
 have t3:=fun z:Int=>tmod_rg (z:=z) (n:=3) (by omega)
 have t4:=fun z:Int=>tmod_rg (z:=z) (n:=4) (by omega)
 have t5:=fun z:Int=>tmod_rg (z:=z) (n:=5) (by omega)
 have u4:=fun (z:Int) (h:0≤z∧z≤255)=>tmod_rn (z:=z) (n:=4) (by omega) h.1
 have n:=nD_bd d
 have c:=acr_bd n.1 n.2.1 n.2.2 (t3 (d 4)) (t3 (d 5)) (t3 (d 6))
 exact⟨b 0 (by omega),s 1 (by omega) (by omega),s 2 (by omega) (by omega),s 3 (by omega) (by omega),s 4 (by omega) (by omega),s 5 (by omega) (by omega),s 6 (by omega) (by omega),s 7 (by omega) (by omega),
  b 8 (by omega),b 9 (by omega),b 10 (by omega),b 11 (by omega),t3 _,t3 _,t3 _,t3 _,t3 _,t3 _,t4 _,t5 _,t3 _,u4 _ (b 8 (by omega)),u4 _ (b 9 (by omega)),u4 _ (b 10 (by omega)),u4 _ (b 11 (by omega)),
  n.1,n.2.1,n.2.2,c.1,c.2.1,c.2.2,trivial⟩
def remsB:List (Poly × Nat × Poly):=[(P0 1,3,P0 12),(P0 2,3,P0 13),(P0 3,3,P0 14),(P0 4,3,P0 15),(P0 5,3,P0 16),(P0 6,3,P0 17),(P0 7,4,P0 18),(P0 7,5,P0 19),(P0 7,3,P0 20),(P0 8,4,P0 21),(P0 9,4,P0 22),(P0 10,4,P0 23),(P0 11,4,P0 24)]
def remsK (kind sub:Nat):List (Poly × Nat × Poly):=match kind with
 | 1=>[(P0 8,3,kst sub)]
 | 3=>[(P0 8,3,kst (sub/2)),(P0 11,2,kst (sub%2))]
 | 5=>[(P0 8,6,kst sub)]
 | _=>[]
def remsOf (kind sub:Nat):List (Poly × Nat × Poly):=(P0 0,5,kst (kind-1))::(remsB++remsK kind sub)
def Kinded (d:Nat→Int) (kind sub:Nat):Prop:=
 (d 0).tmod 5=(kind-1:Nat)∧(match kind with
  | 1=>(d 8).tmod 3=(sub:Int)
  | 3=>(d 8).tmod 3=((sub/2:Nat):Int)∧(d 11).tmod 2=((sub%2:Nat):Int)
  | 5=>(d 8).tmod 6=(sub:Int)
  | _=>sub=0)
theorem rems_ok {d:Nat→Int} {kind sub:Nat} (h:Kinded d kind sub):∀ r∈remsOf kind sub,(Poly.ev (xD d) r.1).tmod (r.2.1:Int)=Poly.ev (xD d) r.2.2:=by
 intro r hr
 rcases List.mem_cons.1 hr with rfl | hr
 ·rw [ev_P0,ev_kst]; exact h.1
 ·rcases List.mem_append.1 hr with hr | hr
  ·simp only [remsB,List.mem_cons,List.not_mem_nil,or_false] at hr
   rcases hr with rfl | rfl | rfl | rfl | rfl | rfl | rfl | rfl | rfl | rfl | rfl | rfl | rfl <;> (simp only [ev_P0]; rfl)
  ·have h2:=h.2
   unfold remsK at hr
   split at hr
   ·rw [List.mem_singleton.1 hr,ev_P0,ev_kst]; exact h2
   ·simp only [List.mem_cons,List.not_mem_nil,or_false] at hr
    rcases hr with rfl | rfl
    ·rw [ev_P0,ev_kst]; exact h2.1
    ·rw [ev_P0,ev_kst]; exact h2.2
   ·rw [List.mem_singleton.1 hr,ev_P0,ev_kst]; exact h2
   ·cases hr
def dotF:Facts:=[([([25,28],1),([26,29],1),([27,30],1)],ze0)]
def fs3 (d:Facts):List Facts:=[(P0 25,ne0)::d,(P0 25,ze0)::(P0 26,ne0)::d,(P0 25,ze0)::(P0 26,ze0)::(P0 27,ne0)::d]
def fsAll (kind:Nat):List Facts:=match kind with
 | 2=>fs3 dotF
 | 3=>fs3 dotF
 | 4=>fs3 []
 | _=>[[]]
theorem ne_has {z:Int} (h:z≠0):ne0.has z:=⟨fun _=>rfl,fun e=>absurd e h,fun _=>rfl⟩
theorem ze_has {z:Int} (h:z=0):ze0.has z:=⟨fun e=>by omega,fun _=>rfl,fun e=>by omega⟩
theorem fact_nil (x:Nat→Int):FactsHold x []:=fun f hf=>by cases hf
theorem fact_cons {x:Nat→Int} {q:Poly} {s:SS} {l:Facts} (h:s.has (Poly.ev x q)) (hl:FactsHold x l):FactsHold x ((q,s)::l):=fun f hf=>(List.mem_cons.1 hf).elim (fun e=>by subst e; exact h) (hl f)
theorem fs3_ok (d:Nat→Int) {l:Facts} (hl:FactsHold (xD d) l):∃ fs∈fs3 l,FactsHold (xD d) fs:=by
 have e25:Poly.ev (xD d) (P0 25)=(nD d).1:=ev_P0 ..
 have e26:Poly.ev (xD d) (P0 26)=(nD d).2.1:=ev_P0 ..
 have e27:Poly.ev (xD d) (P0 27)=(nD d).2.2:=ev_P0 ..
 have hn:=nrm_ne ((d 1).tmod 3) ((d 2).tmod 3) ((d 3).tmod 3)
 by_cases h1:(nD d).1=0
 ·by_cases h2:(nD d).2.1=0
  ·have h3:(nD d).2.2≠0:=by
    rcases hn with h | h | h
    ·exact absurd h1 h
    ·exact absurd h2 h
    ·exact h
   exact⟨_,List.mem_cons_of_mem _ (List.mem_cons_of_mem _ (List.mem_cons_self ..)),fact_cons (by rw [e25]; exact ze_has h1) (fact_cons (by rw [e26]; exact ze_has h2) (fact_cons (by rw [e27]; exact ne_has h3) hl))⟩
  ·exact⟨_,List.mem_cons_of_mem _ (List.mem_cons_self ..),fact_cons (by rw [e25]; exact ze_has h1) (fact_cons (by rw [e26]; exact ne_has h2) hl)⟩
 ·exact⟨_,List.mem_cons_self ..,fact_cons (by rw [e25]; exact ne_has h1) hl⟩
theorem dot_ok (d:Nat→Int):FactsHold (xD d) dotF:=by
 refine fact_cons (ze_has ?_) (fact_nil _)
 have h:=acr_dot (nD d).1 (nD d).2.1 (nD d).2.2 ((d 4).tmod 3) ((d 5).tmod 3) ((d 6).tmod 3)
 simp only [Poly.ev,Poly.evM]
 show 1*((nD d).1*((cD d).1*1))+(1*((nD d).2.1*((cD d).2.1*1))+(1*((nD d).2.2*((cD d).2.2*1))+0))=0
 simp only [Int.mul_one,Int.one_mul,Int.add_zero]
 rw [Int.mul_comm (nD d).1,Int.mul_comm (nD d).2.1,Int.mul_comm (nD d).2.2,← Int.add_assoc]
 exact h
theorem fsAll_ok (d:Nat→Int) (kind:Nat):∃ fs∈fsAll kind,FactsHold (xD d) fs:=by
 unfold fsAll
 split
 ·exact fs3_ok d (dot_ok d)
 ·exact fs3_ok d (dot_ok d)
 ·exact fs3_ok d (fact_nil _)
 ·exact⟨[],List.mem_singleton.2 rfl,fact_nil _⟩
end Go.Proofs.YtkjinnjopoehhaaGreatDoor
namespace Go.Proofs.YtkjinnjopoehhaaGreatDoor
open Go Ev Klp Ab
set_option maxRecDepth 100000
noncomputable def cxN0:CX:=⟨(c (c (c (l (i 2)) (i 0) (l (n 5))) (i8 1) (b (l (n 3)) (i 1))) (i8 0) (c (b (l (i 5)) (i 3)) (i8 2) (b (l (n 4)) (i 4)))),(c (c (l (-2,2)) (-128,127) (l (-2,2))) (-128,127) (b (l (-2,2)) (-128,127))),[([([3],1)],⟨true,false,true⟩)],[([([0],1)],3,[([3],1)]),([([1],1)],3,[([4],1)]),([([2],1)],3,[([5],1)])],[]⟩
noncomputable def binsN0:List BinRow:=[⟨.rem,.sym 3,g 3,.sym 4⟩,⟨.rem,.sym 5,g 3,.sym 6⟩,⟨.rem,.sym 7,g 3,.sym 8⟩]
noncomputable def convsN0:List ConvRow:=[⟨0,.i64,.sym 3⟩,⟨1,.i64,.sym 5⟩,⟨2,.i64,.sym 7⟩]
noncomputable def rowsN0:Rows:=(q (q (q (p (l (p (m (p (l [([.sym 6,g 1],.sym 10)])) (b (l [([.sym 8,g 1],.sym 11)]) [([.sym 4,g 1],.sym 9)]))))))))
noncomputable def resN0:V:=.agg [.sym 9,.sym 10,.sym 11]
noncomputable def cxN1:CX:=⟨(c (c (c (l (i 2)) (i 0) (l (n 5))) (i8 1) (b (l (n 3)) (i 1))) (i8 0) (c (b (l (i 5)) (i 3)) (i8 2) (b (l (n 4)) (i 4)))),(c (c (l (-2,2)) (-128,127) (l (-2,2))) (-128,127) (b (l (-2,2)) (-128,127))),[([([3],1)],⟨false,true,false⟩),([([4],1)],⟨true,false,true⟩)],[([([0],1)],3,[([3],1)]),([([1],1)],3,[([4],1)]),([([2],1)],3,[([5],1)])],[]⟩
noncomputable def binsN1:List BinRow:=[⟨.rem,.sym 3,g 3,.sym 4⟩,⟨.rem,.sym 5,g 3,.sym 6⟩,⟨.rem,.sym 7,g 3,.sym 8⟩]
noncomputable def convsN1:List ConvRow:=[⟨0,.i64,.sym 3⟩,⟨1,.i64,.sym 5⟩,⟨2,.i64,.sym 7⟩]
noncomputable def rowsN1:Rows:=(q (q (q (p (l (p (m (p (l [([.sym 6,g 1],.sym 10)])) (b (l [([.sym 8,g 1],.sym 11)]) [([.sym 4,g 1],.sym 9)]))))))))
noncomputable def resN1:V:=.agg [.sym 9,.sym 10,.sym 11]
noncomputable def cxN2:CX:=⟨(c (c (c (l (i 2)) (i 0) (l (n 5))) (i8 1) (b (l (n 3)) (i 1))) (i8 0) (c (b (l (i 5)) (i 3)) (i8 2) (b (l (n 4)) (i 4)))),(c (c (l (-2,2)) (-128,127) (l (-2,2))) (-128,127) (b (l (-2,2)) (-128,127))),[([([3],1)],⟨false,true,false⟩),([([4],1)],⟨false,true,false⟩),([([5],1)],⟨true,false,true⟩)],[([([0],1)],3,[([3],1)]),([([1],1)],3,[([4],1)]),([([2],1)],3,[([5],1)])],[]⟩
noncomputable def binsN2:List BinRow:=[⟨.rem,.sym 3,g 3,.sym 4⟩,⟨.rem,.sym 5,g 3,.sym 6⟩,⟨.rem,.sym 7,g 3,.sym 8⟩]
noncomputable def convsN2:List ConvRow:=[⟨0,.i64,.sym 3⟩,⟨1,.i64,.sym 5⟩,⟨2,.i64,.sym 7⟩]
noncomputable def rowsN2:Rows:=(q (q (q (p (l (p (m (p (l [([.sym 6,g 1],.sym 10)])) (b (l [([.sym 8,g 1],.sym 11)]) [([.sym 4,g 1],.sym 9)]))))))))
noncomputable def resN2:V:=.agg [.sym 9,.sym 10,.sym 11]
noncomputable def cxN3:CX:=⟨(c (c (c (l (i 2)) (i 0) (l (n 5))) (i8 1) (b (l (n 3)) (i 1))) (i8 0) (c (b (l (i 5)) (i 3)) (i8 2) (b (l (n 4)) (i 4)))),(c (c (l (-2,2)) (-128,127) (l (-2,2))) (-128,127) (b (l (-2,2)) (-128,127))),[([([3],1)],⟨false,true,false⟩),([([4],1)],⟨false,true,false⟩),([([5],1)],⟨false,true,false⟩)],[([([0],1)],3,[([3],1)]),([([1],1)],3,[([4],1)]),([([2],1)],3,[([5],1)])],[]⟩
noncomputable def binsN3:List BinRow:=[⟨.rem,.sym 3,g 3,.sym 4⟩,⟨.rem,.sym 5,g 3,.sym 6⟩,⟨.rem,.sym 7,g 3,.sym 8⟩]
noncomputable def convsN3:List ConvRow:=[⟨0,.i64,.sym 3⟩,⟨1,.i64,.sym 5⟩,⟨2,.i64,.sym 7⟩]
noncomputable def rowsN3:Rows:=(q (q (q (p (l (p (m (p (l [([.sym 6,g 1],.sym 10)])) (b (l [([.sym 8,g 1],.sym 11)]) [([.sym 4,g 1],.sym 9)]))))))))
noncomputable def resN3:V:=.agg [.sym 9,.sym 10,.str [49]]
noncomputable def cxA0:CX:=⟨(c (c (c (b (l (.num ⟨[([1,3],1)],1⟩)) (.num ⟨[([2,4],1)],1⟩)) (n 3) (l (.num ⟨[([0,5],1)],1⟩))) (n 1) (c (b (l (.num ⟨[([1,3],-1),([0,4],1)],1⟩)) (.num ⟨[([2,4],-1),([1,5],1)],1⟩)) (n 5) (l (.num ⟨[([0,5],-1),([2,3],1)],1⟩)))) (n 0) (c (c (b (l (.num ⟨[([1,3],-1)],1⟩)) (.num ⟨[([2,4],-1)],1⟩)) (n 4) (l (.num ⟨[([0,5],-1)],1⟩))) (n 2) (c (l (.num ⟨[([2,3],1)],1⟩)) (.num ⟨[([1,5],1)],1⟩) (l (.num ⟨[([0,4],1)],1⟩))))),(c (c (l (-2,2)) (-2,2) (l (-2,2))) (-2,2) (b (l (-2,2)) (-2,2))),[([([1,5],1),([2,4],-1)],⟨true,false,true⟩)],[],[]⟩
noncomputable def binsA0:List BinRow:=[]
noncomputable def convsA0:List ConvRow:=[]
noncomputable def rowsA0:Rows:=(m (p (q (q (p (l (q (p (m (b (l [o 0 15 16]) [o 0 7 8]) (l [o 0 11 12]))))))))) (q (m (q (p (l (p (p (m (b (l [r 0 14 16 17]) [r 0 6 8 9]) (l [r 0 10 12 13]))))))) (m (l (l [([g 1,g 1],d 49),([g 0,g 1],d 48)])) (p (q (p (p (l (m (b (l [r 0 2 4 7,r 0 2 3 10]) [r 0 0 5 11,r 0 0 4 14]) (l [r 0 1 5 6,r 0 1 3 15])))))))))))
noncomputable def resA0:V:=.agg [.sym 9,.sym 13,.sym 17]
noncomputable def cxA1:CX:=⟨(c (c (c (b (l (.num ⟨[([1,3],1)],1⟩)) (.num ⟨[([2,4],1)],1⟩)) (n 3) (l (.num ⟨[([0,5],1)],1⟩))) (n 1) (c (b (l (.num ⟨[([1,3],-1),([0,4],1)],1⟩)) (.num ⟨[([2,4],-1),([1,5],1)],1⟩)) (n 5) (l (.num ⟨[([0,5],-1),([2,3],1)],1⟩)))) (n 0) (c (c (b (l (.num ⟨[([1,3],-1)],1⟩)) (.num ⟨[([2,4],-1)],1⟩)) (n 4) (l (.num ⟨[([0,5],-1)],1⟩))) (n 2) (c (l (.num ⟨[([2,3],1)],1⟩)) (.num ⟨[([1,5],1)],1⟩) (l (.num ⟨[([0,4],1)],1⟩))))),(c (c (l (-2,2)) (-2,2) (l (-2,2))) (-2,2) (b (l (-2,2)) (-2,2))),[([([1,5],1),([2,4],-1)],⟨false,true,false⟩),([([2,3],1),([0,5],-1)],⟨true,false,true⟩)],[],[]⟩
noncomputable def binsA1:List BinRow:=[]
noncomputable def convsA1:List ConvRow:=[]
noncomputable def rowsA1:Rows:=(m (p (q (q (p (l (q (p (m (b (l [o 0 15 16]) [o 0 7 8]) (l [o 0 11 12]))))))))) (q (m (q (p (l (p (p (m (b (l [r 0 14 16 17]) [r 0 6 8 9]) (l [r 0 10 12 13]))))))) (m (l (l [([g 1,g 1],d 49),([g 0,g 1],d 48)])) (p (q (p (p (l (m (b (l [r 0 2 4 7,r 0 2 3 10]) [r 0 0 5 11,r 0 0 4 14]) (l [r 0 1 5 6,r 0 1 3 15])))))))))))
noncomputable def resA1:V:=.agg [.sym 9,.sym 13,.sym 17]
noncomputable def cxA2:CX:=⟨(c (c (c (b (l (.num ⟨[([1,3],1)],1⟩)) (.num ⟨[([2,4],1)],1⟩)) (n 3) (l (.num ⟨[([0,5],1)],1⟩))) (n 1) (c (b (l (.num ⟨[([1,3],-1),([0,4],1)],1⟩)) (.num ⟨[([2,4],-1),([1,5],1)],1⟩)) (n 5) (l (.num ⟨[([0,5],-1),([2,3],1)],1⟩)))) (n 0) (c (c (b (l (.num ⟨[([1,3],-1)],1⟩)) (.num ⟨[([2,4],-1)],1⟩)) (n 4) (l (.num ⟨[([0,5],-1)],1⟩))) (n 2) (c (l (.num ⟨[([2,3],1)],1⟩)) (.num ⟨[([1,5],1)],1⟩) (l (.num ⟨[([0,4],1)],1⟩))))),(c (c (l (-2,2)) (-2,2) (l (-2,2))) (-2,2) (b (l (-2,2)) (-2,2))),[([([1,5],1),([2,4],-1)],⟨false,true,false⟩),([([2,3],1),([0,5],-1)],⟨false,true,false⟩),([([0,4],1),([1,3],-1)],⟨true,false,true⟩)],[],[]⟩
noncomputable def binsA2:List BinRow:=[]
noncomputable def convsA2:List ConvRow:=[]
noncomputable def rowsA2:Rows:=(m (p (q (q (p (l (q (p (m (b (l [o 0 15 16]) [o 0 7 8]) (l [o 0 11 12]))))))))) (q (m (q (p (l (p (p (m (b (l [r 0 14 16 17]) [r 0 6 8 9]) (l [r 0 10 12 13]))))))) (m (l (l [([g 1,g 1],d 49),([g 0,g 1],d 48)])) (p (q (p (p (l (m (b (l [r 0 2 4 7,r 0 2 3 10]) [r 0 0 5 11,r 0 0 4 14]) (l [r 0 1 5 6,r 0 1 3 15])))))))))))
noncomputable def resA2:V:=.agg [.sym 9,.sym 13,.sym 17]
noncomputable def cxA3:CX:=⟨(c (c (c (b (l (.num ⟨[([1,3],1)],1⟩)) (.num ⟨[([2,4],1)],1⟩)) (n 3) (l (.num ⟨[([0,5],1)],1⟩))) (n 1) (c (b (l (.num ⟨[([1,3],-1),([0,4],1)],1⟩)) (.num ⟨[([2,4],-1),([1,5],1)],1⟩)) (n 5) (l (.num ⟨[([0,5],-1),([2,3],1)],1⟩)))) (n 0) (c (c (b (l (.num ⟨[([1,3],-1)],1⟩)) (.num ⟨[([2,4],-1)],1⟩)) (n 4) (l (.num ⟨[([0,5],-1)],1⟩))) (n 2) (c (b (l (k [(1,-1)] 1)) (.num ⟨[([2,3],1)],1⟩)) (.num ⟨[([1,5],1)],1⟩) (l (.num ⟨[([0,4],1)],1⟩))))),(c (c (l (-2,2)) (-2,2) (l (-2,2))) (-2,2) (b (l (-2,2)) (-2,2))),[([([1,5],1),([2,4],-1)],⟨false,true,false⟩),([([2,3],1),([0,5],-1)],⟨false,true,false⟩),([([0,4],1),([1,3],-1)],⟨false,true,false⟩),([([2],1)],⟨true,false,true⟩)],[],[]⟩
noncomputable def binsA3:List BinRow:=[]
noncomputable def convsA3:List ConvRow:=[]
noncomputable def rowsA3:Rows:=(m (p (q (q (p (l (a [([d 48],d 48)] (b (m (b (l [o 0 15 16]) [o 0 7 8]) (l [o 0 11 12])) [o 0 1 18]))))))) (q (m (q (p (l (b (p (c (b (l [r 0 14 16 17]) [r 0 6 8 9]) [([.sym 2,d 48],.sym 2)] (b (l [([d 48,.sym 18],.sym 18)]) [r 0 10 12 13]))) [([d 48,d 48],d 48)])))) (m (l (l [([g 1,g 1],d 49),([g 0,g 1],d 48)])) (p (q (p (p (l (m (b (l [r 0 2 4 7,r 0 2 3 10,([.sym 2,d 48],d 48),([.sym 2,d 49],.sym 2)]) [r 0 0 5 11,r 0 0 4 14,([.sym 0,d 48],d 48)]) (l [r 0 1 5 6,r 0 1 3 15,([.sym 1,d 48],d 48),([.sym 1,d 49],.sym 1)])))))))))))
noncomputable def resA3:V:=.agg [.str [48],.sym 2,.sym 18]
noncomputable def cxA4:CX:=⟨(c (c (c (b (l (.num ⟨[([1,3],1)],1⟩)) (.num ⟨[([2,4],1)],1⟩)) (n 3) (l (.num ⟨[([0,5],1)],1⟩))) (n 1) (c (b (l (.num ⟨[([1,3],-1),([0,4],1)],1⟩)) (.num ⟨[([2,4],-1),([1,5],1)],1⟩)) (n 5) (l (.num ⟨[([0,5],-1),([2,3],1)],1⟩)))) (n 0) (c (c (b (l (.num ⟨[([1,3],-1)],1⟩)) (.num ⟨[([2,4],-1)],1⟩)) (n 4) (l (.num ⟨[([0,5],-1)],1⟩))) (n 2) (c (b (l (k [(1,-1)] 1)) (.num ⟨[([2,3],1)],1⟩)) (.num ⟨[([1,5],1)],1⟩) (l (.num ⟨[([0,4],1)],1⟩))))),(c (c (l (-2,2)) (-2,2) (l (-2,2))) (-2,2) (b (l (-2,2)) (-2,2))),[([([1,5],1),([2,4],-1)],⟨false,true,false⟩),([([2,3],1),([0,5],-1)],⟨false,true,false⟩),([([0,4],1),([1,3],-1)],⟨false,true,false⟩),([([2],1)],⟨false,true,false⟩),([([1],1)],⟨true,false,true⟩)],[],[]⟩
noncomputable def binsA4:List BinRow:=[]
noncomputable def convsA4:List ConvRow:=[]
noncomputable def rowsA4:Rows:=(m (p (q (q (p (l (a [([d 48],d 48)] (b (m (b (l [o 0 15 16]) [o 0 7 8]) (l [o 0 11 12])) [o 0 1 18]))))))) (q (m (q (p (l (b (p (c (b (l [r 0 14 16 17]) [r 0 6 8 9]) [([.sym 2,d 48],.sym 2)] (b (l [([d 48,.sym 18],.sym 18)]) [r 0 10 12 13]))) [([d 48,d 48],d 48)])))) (m (l (l [([g 1,g 1],d 49),([g 0,g 1],d 48)])) (p (q (p (p (l (m (b (l [r 0 2 4 7,r 0 2 3 10,([.sym 2,d 48],d 48),([.sym 2,d 49],.sym 2)]) [r 0 0 5 11,r 0 0 4 14,([.sym 0,d 48],d 48)]) (l [r 0 1 5 6,r 0 1 3 15,([.sym 1,d 48],d 48),([.sym 1,d 49],.sym 1)])))))))))))
noncomputable def resA4:V:=.agg [.str [48],.sym 2,.sym 18]
noncomputable def cxA5:CX:=⟨(c (c (c (b (l (.num ⟨[([1,3],1)],1⟩)) (.num ⟨[([2,4],1)],1⟩)) (n 3) (b (l (k [(2,-1)] 1)) (.num ⟨[([0,5],1)],1⟩))) (n 1) (c (b (l (.num ⟨[([1,3],-1),([0,4],1)],1⟩)) (.num ⟨[([2,4],-1),([1,5],1)],1⟩)) (n 5) (l (.num ⟨[([0,5],-1),([2,3],1)],1⟩)))) (n 0) (c (c (b (l (.num ⟨[([1,3],-1)],1⟩)) (.num ⟨[([2,4],-1)],1⟩)) (n 4) (l (.num ⟨[([0,5],-1)],1⟩))) (n 2) (c (b (l (k [(1,-1)] 1)) (.num ⟨[([2,3],1)],1⟩)) (.num ⟨[([1,5],1)],1⟩) (l (.num ⟨[([0,4],1)],1⟩))))),(c (c (l (-2,2)) (-2,2) (l (-2,2))) (-2,2) (b (l (-2,2)) (-2,2))),[([([1,5],1),([2,4],-1)],⟨false,true,false⟩),([([2,3],1),([0,5],-1)],⟨false,true,false⟩),([([0,4],1),([1,3],-1)],⟨false,true,false⟩),([([2],1)],⟨false,true,false⟩),([([1],1)],⟨false,true,false⟩),([([0],1)],⟨true,false,true⟩)],[],[]⟩
noncomputable def binsA5:List BinRow:=[]
noncomputable def convsA5:List ConvRow:=[]
noncomputable def rowsA5:Rows:=(m (p (q (q (p (l (c (p (l [o 0 2 19])) [([d 48],d 48)] (b (m (b (l [o 0 15 16]) [o 0 7 8]) (l [o 0 11 12])) [o 0 1 18]))))))) (q (m (q (p (l (c (b (c (b (l [r 0 14 16 17]) [r 0 6 8 9]) [([.sym 2,d 48],.sym 2)] (b (l [([d 48,.sym 18],.sym 18)]) [r 0 10 12 13])) [([.sym 0,d 48],.sym 0)]) [([d 48,d 48],d 48)] (p (q (p (l [([d 48,.sym 19],.sym 19)])))))))) (m (l (l [([g 1,g 1],d 49),([g 0,g 1],d 48)])) (p (q (p (p (l (m (b (l [r 0 2 4 7,r 0 2 3 10,([.sym 2,d 48],d 48),([.sym 2,d 49],.sym 2)]) [r 0 0 5 11,r 0 0 4 14,([.sym 0,d 48],d 48),([.sym 0,d 49],.sym 0)]) (l [r 0 1 5 6,r 0 1 3 15,([.sym 1,d 48],d 48),([.sym 1,d 49],.sym 1)])))))))))))
noncomputable def resA5:V:=.agg [.sym 19,.str [48],.sym 0]
theorem chkN0:(kitK cxN0 binsN0 convsN0 rowsN0 []).chk=true:=by kernel_rfl
theorem chkN1:(kitK cxN1 binsN1 convsN1 rowsN1 []).chk=true:=by kernel_rfl
theorem chkN2:(kitK cxN2 binsN2 convsN2 rowsN2 []).chk=true:=by kernel_rfl
theorem chkN3:(kitK cxN3 binsN3 convsN3 rowsN3 []).chk=true:=by kernel_rfl
def argsN:List V:=[.agg [.sym 0,.sym 1,.sym 2]]
theorem runN0:memoOk (kitK cxN0 binsN0 convsN0 rowsN0 []).tab 10000 60 78 argsN resN0=true:=by kernel_rfl
theorem runN1:memoOk (kitK cxN1 binsN1 convsN1 rowsN1 []).tab 10000 60 78 argsN resN1=true:=by kernel_rfl
theorem runN2:memoOk (kitK cxN2 binsN2 convsN2 rowsN2 []).tab 10000 60 78 argsN resN2=true:=by kernel_rfl
theorem runN3:memoOk (kitK cxN3 binsN3 convsN3 rowsN3 []).tab 10000 60 78 argsN resN3=true:=by kernel_rfl
theorem chkA0:(kitK cxA0 binsA0 convsA0 rowsA0 []).chk=true:=by kernel_rfl
theorem chkA1:(kitK cxA1 binsA1 convsA1 rowsA1 []).chk=true:=by kernel_rfl
theorem chkA2:(kitK cxA2 binsA2 convsA2 rowsA2 []).chk=true:=by kernel_rfl
theorem chkA3:(kitK cxA3 binsA3 convsA3 rowsA3 []).chk=true:=by kernel_rfl
theorem chkA4:(kitK cxA4 binsA4 convsA4 rowsA4 []).chk=true:=by kernel_rfl
theorem chkA5:(kitK cxA5 binsA5 convsA5 rowsA5 []).chk=true:=by kernel_rfl
def argsA:List V:=[.agg [.sym 0,.sym 1,.sym 2],.agg [.sym 3,.sym 4,.sym 5]]
theorem runA0:memoOk (kitK cxA0 binsA0 convsA0 rowsA0 []).tab 10000 60 80 argsA resA0=true:=by kernel_rfl
theorem runA1:memoOk (kitK cxA1 binsA1 convsA1 rowsA1 []).tab 10000 60 80 argsA resA1=true:=by kernel_rfl
theorem runA2:memoOk (kitK cxA2 binsA2 convsA2 rowsA2 []).tab 10000 60 80 argsA resA2=true:=by kernel_rfl
theorem runA3:memoOk (kitK cxA3 binsA3 convsA3 rowsA3 []).tab 10000 60 80 argsA resA3=true:=by kernel_rfl
theorem runA4:memoOk (kitK cxA4 binsA4 convsA4 rowsA4 []).tab 10000 60 80 argsA resA4=true:=by kernel_rfl
theorem runA5:memoOk (kitK cxA5 binsA5 convsA5 rowsA5 []).tab 10000 60 80 argsA resA5=true:=by kernel_rfl
def cells (v:V):List V:=match v with | .agg l=>l | _=>[]
def bdNL:List Iv:=[(-128,127),(-128,127),(-128,127),(-2,2),(-2,2),(-2,2)]
def xN (a b c:Int) (v:Nat):Int:=(([a,b,c,a.tmod 3,b.tmod 3,c.tmod 3]:List Int)[v]?).getD 0
def qN:List (IntKind × Poly):=[(.i8,P0 0),(.i8,P0 1),(.i8,P0 2)]
section
variable {M:Mem} (hg:Good M) {a b c:Int} (ha : -128≤a∧a≤127) (hb : -128≤b∧b≤127) (hc : -128≤c∧c≤127)
include ha hb hc
theorem xN_bd {t:T Iv} (ht:t=T.ofList .e 0 bdNL) (v:Nat):((t.get v).getD (0,0)).has (xN a b c v):=by
 rw [ht]
 have t3:=fun z:Int=>tmod_rg (z:=z) (n:=3) (by omega)
 exact bd_of (l:=bdNL) (zs:=[a,b,c,a.tmod 3,b.tmod 3,c.tmod 3]) ⟨ha,hb,hc,t3 a,t3 b,t3 c,trivial⟩ v
include hg
theorem caseN {cx:CX} {bins:List BinRow} {convs:List ConvRow} {rows:Rows} {res:V} {qs:List Poly} (h1:(kitK cx bins convs rows []).chk=true) (h2:memoOk (kitK cx bins convs rows []).tab 10000 60 78 argsN res=true)
  (h3:cx.bd=T.ofList .e 0 bdNL) (h4:FactsHold (xN a b c) cx.fs) (h5:cx.rems=[(P0 0,3,P0 3),(P0 1,3,P0 4),(P0 2,3,P0 5)]) (h6:cx.lens=[]) (h7:intsIs cx qN [.sym 0,.sym 1,.sym 2]=true) (h8:res = .agg (cells res)) (h9:numsIs cx qs (cells res)=true) :
  CallOk Tryz.prog M 78 [.agg #[.int .i8 a,.int .i8 b,.int .i8 c]] (.agg (qs.map fun q=>numV (Poly.ev (xN a b c) q)).toArray):=by
 refine callOk_case hg h1 h2 (x:=xN a b c) (fun v=>xN_bd ha hb hc h3 v) h4 (fun r hr => ?_) h6 (fun w0 E hC hE => ?_) (fun w0 E hC hE => ?_)
 ·rw [h5] at hr
  simp only [List.mem_cons,List.not_mem_nil,or_false] at hr
  rcases hr with rfl | rfl | rfl <;> (simp only [ev_P0]; rfl)
 ·refine VRL.cons ⟨_,intsIs_ok hC hE h7,?_⟩ VRL.nil
  simp only [qN,List.map_cons,List.map_nil,ev_P0]
  rfl
 ·rw [h8]
  exact⟨_,numsIs_ok hC hE h9,rfl⟩
theorem normal_ok:CallOk Tryz.prog M 78 [.agg #[.int .i8 a,.int .i8 b,.int .i8 c]]
  (.agg #[numV (nrm (a.tmod 3) (b.tmod 3) (c.tmod 3)).1,numV (nrm (a.tmod 3) (b.tmod 3) (c.tmod 3)).2.1,numV (nrm (a.tmod 3) (b.tmod 3) (c.tmod 3)).2.2]):=by
 have e3:Poly.ev (xN a b c) (P0 3)=a.tmod 3:=ev_P0 ..
 have e4:Poly.ev (xN a b c) (P0 4)=b.tmod 3:=ev_P0 ..
 have e5:Poly.ev (xN a b c) (P0 5)=c.tmod 3:=ev_P0 ..
 have e1:Poly.ev (xN a b c) [([],1)]=1:=rfl
 by_cases h3:a.tmod 3=0
 ·by_cases h4:b.tmod 3=0
  ·by_cases h5:c.tmod 3=0
   ·have h:=caseN hg ha hb hc (qs:=[P0 3,P0 4,[([],1)]]) chkN3 runN3 (by kernel_rfl) (fact_cons (by rw [← e3] at h3; exact ze_has h3) (fact_cons (by rw [← e4] at h4; exact ze_has h4) (fact_cons (by rw [← e5] at h5; exact ze_has h5) (fact_nil _)))) (by kernel_rfl) rfl (by kernel_rfl) rfl (by kernel_rfl)
    simp only [List.map_cons,List.map_nil,e3,e4,e1] at h
    unfold nrm
    rw [if_pos ⟨h3,h4,h5⟩]
    exact h
   ·have h:=caseN hg ha hb hc (qs:=[P0 3,P0 4,P0 5]) chkN2 runN2 (by kernel_rfl) (fact_cons (by rw [← e3] at h3; exact ze_has h3) (fact_cons (by rw [← e4] at h4; exact ze_has h4) (fact_cons (by rw [← e5] at h5; exact ne_has h5) (fact_nil _)))) (by kernel_rfl) rfl (by kernel_rfl) rfl (by kernel_rfl)
    simp only [List.map_cons,List.map_nil,e3,e4,e5] at h
    unfold nrm
    rw [if_neg fun e=>h5 e.2.2]
    exact h
  ·have h:=caseN hg ha hb hc (qs:=[P0 3,P0 4,P0 5]) chkN1 runN1 (by kernel_rfl) (fact_cons (by rw [← e3] at h3; exact ze_has h3) (fact_cons (by rw [← e4] at h4; exact ne_has h4) (fact_nil _))) (by kernel_rfl) rfl (by kernel_rfl) rfl (by kernel_rfl)
   simp only [List.map_cons,List.map_nil,e3,e4,e5] at h
   unfold nrm
   rw [if_neg fun e=>h4 e.2.1]
   exact h
 ·have h:=caseN hg ha hb hc (qs:=[P0 3,P0 4,P0 5]) chkN0 runN0 (by kernel_rfl) (fact_cons (by rw [← e3] at h3; exact ne_has h3) (fact_nil _)) (by kernel_rfl) rfl (by kernel_rfl) rfl (by kernel_rfl)
  simp only [List.map_cons,List.map_nil,e3,e4,e5] at h
  unfold nrm
  rw [if_neg fun e=>h3 e.1]
  exact h
end
def bdAL:List Iv:=[(-2,2),(-2,2),(-2,2),(-2,2),(-2,2),(-2,2)]
def xA (a b c x y z:Int) (v:Nat):Int:=(([a,b,c,x,y,z]:List Int)[v]?).getD 0
def cr (a b c d:Nat):Poly:=[([a,d],1),([b,c],-1)]
def k0A:Poly:=cr 1 2 4 5
def k1A:Poly:=[([2,3],1),([0,5],-1)]
def k2A:Poly:=cr 0 1 3 4
section
variable {M:Mem} (hg:Good M) {a b c x y z:Int} (ha : -2≤a∧a≤2) (hb : -2≤b∧b≤2) (hc : -2≤c∧c≤2) (hx : -2≤x∧x≤2) (hy : -2≤y∧y≤2) (hz : -2≤z∧z≤2)
include ha hb hc hx hy hz hg
theorem caseA {cx:CX} {bins:List BinRow} {convs:List ConvRow} {rows:Rows} {res:V} {qs:List Poly} (h1:(kitK cx bins convs rows []).chk=true) (h2:memoOk (kitK cx bins convs rows []).tab 10000 60 80 argsA res=true)
  (h3:cx.bd=T.ofList .e 0 bdAL) (h4:FactsHold (xA a b c x y z) cx.fs) (h5:cx.rems=[]) (h6:cx.lens=[]) (h7:numsIs cx [P0 0,P0 1,P0 2] [.sym 0,.sym 1,.sym 2]=true) (h7':numsIs cx [P0 3,P0 4,P0 5] [.sym 3,.sym 4,.sym 5]=true) (h8:res = .agg (cells res)) (h9:numsIs cx qs (cells res)=true) :
  CallOk Tryz.prog M 80 [.agg #[numV a,numV b,numV c],.agg #[numV x,numV y,numV z]] (.agg (qs.map fun q=>numV (Poly.ev (xA a b c x y z) q)).toArray):=by
 refine callOk_case hg h1 h2 (x:=xA a b c x y z) (fun v => ?_) h4 (fun r hr => ?_) h6 (fun w0 E hC hE => ?_) (fun w0 E hC hE => ?_)
 ·show ((cx.bd.get v).getD (0,0)).has _
  rw [h3]
  exact bd_of (l:=bdAL) (zs:=[a,b,c,x,y,z]) ⟨ha,hb,hc,hx,hy,hz,trivial⟩ v
 ·rw [h5] at hr; cases hr
 ·refine VRL.cons ⟨_,numsIs_ok hC hE h7,?_⟩ (VRL.cons ⟨_,numsIs_ok hC hE h7',?_⟩ VRL.nil)
  ·simp only [List.map_cons,List.map_nil,ev_P0]; rfl
  ·simp only [List.map_cons,List.map_nil,ev_P0]; rfl
 ·rw [h8]
  exact⟨_,numsIs_ok hC hE h9,rfl⟩
theorem across_ok (hn:a≠0∨b≠0∨c≠0):CallOk Tryz.prog M 80 [.agg #[numV a,numV b,numV c],.agg #[numV x,numV y,numV z]]
  (.agg #[numV (acr a b c x y z).1,numV (acr a b c x y z).2.1,numV (acr a b c x y z).2.2]):=by
 have e0:Poly.ev (xA a b c x y z) (P0 0)=a:=ev_P0 ..
 have e1:Poly.ev (xA a b c x y z) (P0 1)=b:=ev_P0 ..
 have e2:Poly.ev (xA a b c x y z) (P0 2)=c:=ev_P0 ..
 have n1:Poly.ev (xA a b c x y z) [([1],-1)] = -b:=by show -1*(b*1)+0 = -b; omega
 have n2:Poly.ev (xA a b c x y z) [([2],-1)] = -c:=by show -1*(c*1)+0 = -c; omega
 have z0:Poly.ev (xA a b c x y z) []=0:=rfl
 have k0:Poly.ev (xA a b c x y z) k0A=(crs a b c x y z).1:=by show 1*(b*(z*1))+(-1*(c*(y*1))+0)=b*z-c*y; simp only [Int.mul_one,Int.one_mul]; omega
 have k1:Poly.ev (xA a b c x y z) k1A=(crs a b c x y z).2.1:=by show 1*(c*(x*1))+(-1*(a*(z*1))+0)=c*x-a*z; simp only [Int.mul_one,Int.one_mul]; omega
 have k2:Poly.ev (xA a b c x y z) k2A=(crs a b c x y z).2.2:=by show 1*(a*(y*1))+(-1*(b*(x*1))+0)=a*y-b*x; simp only [Int.mul_one,Int.one_mul]; omega
 have mk1:Poly.ev (xA a b c x y z) (cr 2 0 5 3)=(crs a b c x y z).2.1:=by show 1*(c*(x*1))+(-1*(a*(z*1))+0)=c*x-a*z; simp only [Int.mul_one,Int.one_mul]; omega
 by_cases h0:(crs a b c x y z).1=0
 ·by_cases h1:(crs a b c x y z).2.1=0
  ·by_cases h2:(crs a b c x y z).2.2=0
   ·have hzz:∀ {l:Facts},FactsHold (xA a b c x y z) l→FactsHold (xA a b c x y z) ((cr 1 2 4 5,ze0)::(cr 2 0 5 3,ze0)::(cr 0 1 3 4,ze0)::l):=fun hl=>
     fact_cons (ze_has (k0.trans h0)) (fact_cons (ze_has (mk1.trans h1)) (fact_cons (ze_has (k2.trans h2)) hl))
    unfold acr
    rw [if_pos ⟨h0,h1,h2⟩]
    by_cases hc0:c=0
    ·by_cases hb0:b=0
     ·have ha0:a≠0:=by rcases hn with h | h | h; exact h; exact absurd hb0 h; exact absurd hc0 h
      have h:=caseA hg ha hb hc hx hy hz (qs:=[[([2],-1)],[],P0 0]) chkA5 runA5 (by kernel_rfl) (hzz (fact_cons (ze_has (e2.trans hc0)) (fact_cons (ze_has (e1.trans hb0)) (fact_cons (ne_has (fun e=>ha0 (e0.symm.trans e))) (fact_nil _))))) (by kernel_rfl) rfl (by kernel_rfl) (by kernel_rfl) rfl (by kernel_rfl)
      simp only [List.map_cons,List.map_nil,n2,z0,e0] at h
      rw [if_pos ⟨hb0,hc0⟩]
      exact h
     ·have h:=caseA hg ha hb hc hx hy hz (qs:=[[],P0 2,[([1],-1)]]) chkA4 runA4 (by kernel_rfl) (hzz (fact_cons (ze_has (e2.trans hc0)) (fact_cons (ne_has (fun e=>hb0 (e1.symm.trans e))) (fact_nil _)))) (by kernel_rfl) rfl (by kernel_rfl) (by kernel_rfl) rfl (by kernel_rfl)
      simp only [List.map_cons,List.map_nil,n1,z0,e2] at h
      rw [if_neg fun e=>hb0 e.1]
      exact h
    ·have h:=caseA hg ha hb hc hx hy hz (qs:=[[],P0 2,[([1],-1)]]) chkA3 runA3 (by kernel_rfl) (hzz (fact_cons (ne_has (fun e=>hc0 (e2.symm.trans e))) (fact_nil _))) (by kernel_rfl) rfl (by kernel_rfl) (by kernel_rfl) rfl (by kernel_rfl)
     simp only [List.map_cons,List.map_nil,n1,z0,e2] at h
     rw [if_neg fun e=>hc0 e.2]
     exact h
   ·have h:=caseA hg ha hb hc hx hy hz (qs:=[k0A,k1A,k2A]) chkA2 runA2 (by kernel_rfl) (fact_cons (ze_has (k0.trans h0)) (fact_cons (ze_has (mk1.trans h1)) (fact_cons (ne_has (fun e=>h2 (k2.symm.trans e))) (fact_nil _)))) (by kernel_rfl) rfl (by kernel_rfl) (by kernel_rfl) rfl (by kernel_rfl)
    simp only [List.map_cons,List.map_nil,k0,k1,k2] at h
    unfold acr
    rw [if_neg fun e=>h2 e.2.2]
    exact h
  ·have h:=caseA hg ha hb hc hx hy hz (qs:=[k0A,k1A,k2A]) chkA1 runA1 (by kernel_rfl) (fact_cons (ze_has (k0.trans h0)) (fact_cons (ne_has (fun e=>h1 (mk1.symm.trans e))) (fact_nil _))) (by kernel_rfl) rfl (by kernel_rfl) (by kernel_rfl) rfl (by kernel_rfl)
   simp only [List.map_cons,List.map_nil,k0,k1,k2] at h
   unfold acr
   rw [if_neg fun e=>h1 e.2.1]
   exact h
 ·have h:=caseA hg ha hb hc hx hy hz (qs:=[k0A,k1A,k2A]) chkA0 runA0 (by kernel_rfl) (fact_cons (ne_has (fun e=>h0 (k0.symm.trans e))) (fact_nil _)) (by kernel_rfl) rfl (by kernel_rfl) (by kernel_rfl) rfl (by kernel_rfl)
  simp only [List.map_cons,List.map_nil,k0,k1,k2] at h
  unfold acr
  rw [if_neg fun e=>h0 e.1]
  exact h
end
end Go.Proofs.YtkjinnjopoehhaaGreatDoor
namespace Go.Proofs.YtkjinnjopoehhaaGreatDoor
open Go Ev Klp
structure TabsR where
 bins:List BinRow
 convs:List ConvRow
 rows:Rows
structure DealT where
 kind:Nat
 e:Nat
 sub:Nat
 np:Nat
 tab:T SE
 d:TabsR
 cs:List TabsR
 rm:RM
 pv:V
 ps:List O
def syD (e k:Nat):V:=.sym (256*e+k)
def mD:V:=.agg [.sym 768,.sym 769]
def nvD (e:Nat):List V:=[syD e 15,syD e 16,syD e 17]
def memoD (e:Nat):Memo:=[(78,[([.agg [syD e 1,syD e 2,syD e 3]],.agg (nvD e))]),(80,[([.agg (nvD e),.agg [syD e 12,syD e 13,syD e 14]],.agg [syD e 18,syD e 19,syD e 20])]),
 (52,[([mD],.int .i64 0)])]
def cxD (d:DealT) (fs:Facts):CX:=⟨d.tab,bdT,fs,remsOf d.kind d.sub,[(768,d.np)]⟩
def glD:Nat→List (List V)→List (Nat × List V)
 | _,[]=>[]
 | n,c::l=>(n,renL fz c)::glD (n+1) l
def cellsD (d:DealT):List (List V):=(subCells d.ps).getD []
noncomputable def kitD (d:DealT) (fs:Facts) (t:TabsR) (gl:List (Nat × List V)):Kit:=⟨cxD d fs,t.bins,t.convs,t.rows,tmk (memoD d.e),.e,tmk gl,⟨[],[],[]⟩⟩
def deedV (e:Nat):List V:=[syD e 0,syD e 1,syD e 2,syD e 3,syD e 4,syD e 5,syD e 6,syD e 7,syD e 8,syD e 9,syD e 10,syD e 11]
def argsD (e:Nat):List V:=[mD,.agg (deedV e),.int .i64 (Int.ofNat e)]
noncomputable def okD (d:DealT):Bool:=(kitD d [] d.d []).chk&&V.eqL d.rm.args (argsD d.e)&&d.rm.sub.isEmpty&&rmChk (kitD d [] d.d []).tab 10000 60 41 d.rm
noncomputable def okC (d:DealT) (fs:Facts) (t:TabsR):Bool:=(kitD d fs t (glD 32 (cellsD d))).chk&&memoOk (kitD d fs t (glD 32 (cellsD d))).tab 10000 60 54 [mD,renV fz d.pv] (.int .i64 0)
noncomputable def okCs (d:DealT):List Facts→List TabsR→Bool
 | [],[]=>true
 | f::fs,t::ts=>okC d f t&&okCs d fs ts
 | _,_=>false
theorem okCs_mem {d:DealT}:∀ {fs:List Facts} {ts:List TabsR},okCs d fs ts=true → ∀ f∈fs,∃ t,okC d f t=true
 | [],_,_,f,hf=>by cases hf
 | _::_,[],h,_,_=>by cases h
 | g::fs,t::ts,h,f,hf=>by
  simp only [okCs,Bool.and_eq_true] at h
  rcases List.mem_cons.1 hf with rfl | hf
  ·exact⟨t,h.1⟩
  ·exact okCs_mem h.2 f hf
def qI (l:List (IntKind × Nat)):List (IntKind × Poly):=l.map fun p=>(p.1,P0 p.2)
def deedQ:List (IntKind × Poly):=qI [(.u8,0),(.i8,1),(.i8,2),(.i8,3),(.i8,4),(.i8,5),(.i8,6),(.i8,7),(.u8,8),(.u8,9),(.u8,10),(.u8,11)]
noncomputable def okOwn (d:DealT):Bool:=
 intsIs (cxD d []) deedQ (deedV d.e)&&intsIs (cxD d []) (qI [(.i8,1),(.i8,2),(.i8,3)]) [syD d.e 1,syD d.e 2,syD d.e 3]&&numsIs (cxD d []) [P0 15,P0 16,P0 17] [syD d.e 12,syD d.e 13,syD d.e 14] &&
 numsIs (cxD d []) [P0 25,P0 26,P0 27] (nvD d.e)&&numsIs (cxD d []) [P0 28,P0 29,P0 30] [syD d.e 18,syD d.e 19,syD d.e 20]&&tall (fun k _=>Nat.ble (256*d.e) k&&Nat.blt k (256*d.e+256)) d.tab id
def shOf (kind sub:Nat):Nat:=match kind with | 1=>sub | k=>k+1
noncomputable def eqOpt (u:Option V) (v:V):Bool:=match u with | some u=>V.eq u v | none=>false
noncomputable def okEv (d:DealT):Bool:=
 patOk [mD,d.pv] d.ps&&(match d.pv with
  | .agg cs=>Nat.beq cs.length 32&&cs.all leafV&&eqOpt cs[0]? (.int .i64 (Int.ofNat (shKind (shOf d.kind d.sub))))&&eqOpt cs[1]? (.str (nameB d.e))&&eqOpt cs[24]? (.str (dikeB d.e (shOf d.kind d.sub))) &&
   cond (Nat.blt (shOf d.kind d.sub) 3) (match (cs[3]? : Option V) with
    | some (.slice n 0 len cap)=>Nat.ble 64 n&&Nat.beq len (shOf d.kind d.sub+1)&&Nat.ble (shOf d.kind d.sub+1) (cap/2)&&(match (d.ps[n-64]? : Option O) with
     | some (.cells c _ _ _)=>V.eqL c ((unitsB d.e (shOf d.kind d.sub)).map .str)
     | _=>false)
    | _=>false) (eqOpt cs[3]? .nils)
  | _=>false)
noncomputable def DealT.ok (d:DealT):Bool:=okD d&&okCs d (fsAll d.kind) d.cs&&okOwn d&&okEv d
structure DealIn (w0:Base) (d:DealT) (dd:Nat→Int) (m0 m1:Value):Prop where
 deed:DeedOk dd
 kinded:Kinded dd d.kind d.sub
 sym:∀ i en,d.tab.get i=some en→w0.sym i=symX (xD dd) (fun _=>.nilFunc) d.tab i
 s0:w0.sym 768=m0
 s1:w0.sym 769=m1
 lens:∃ a k,m0=Value.slice a d.np k
 good:Good w0.toMem
 mesh:CallOk Tryz.prog w0.toMem 52 [.agg #[m0,m1]] (.int .i64 0)
theorem DealIn.le {w0 w1:Base} {d:DealT} {dd:Nat→Int} {m0 m1:Value} (h:DealIn w0 d dd m0 m1) (hs:w1.sym=w0.sym) (hl:w0.toMem.Le w1.toMem):DealIn w1 d dd m0 m1:=
 ⟨h.deed,h.kinded,by rw [hs]; exact h.sym,by rw [hs]; exact h.s0,by rw [hs]; exact h.s1,h.lens,h.good.le hl,h.mesh.le hl⟩
def deedR (dd:Nat→Int):List Value:=[.int .u8 (dd 0),.int .i8 (dd 1),.int .i8 (dd 2),.int .i8 (dd 3),.int .i8 (dd 4),.int .i8 (dd 5),.int .i8 (dd 6),.int .i8 (dd 7),.int .u8 (dd 8),.int .u8 (dd 9),.int .u8 (dd 10),.int .u8 (dd 11)]
section
variable {w0:Base} {d:DealT} {dd:Nat→Int} {m0 m1:Value} (H:DealIn w0 d dd m0 m1)
include H
theorem DealIn.cx {fs:Facts} (hfs:FactsHold (xD dd) fs):CXOk w0 (xD dd) (fun _=>.nilFunc) (cxD d fs):=
 ⟨H.sym,xD_bd H.deed,hfs,rems_ok H.kinded,fun p hp=>by
  rw [show p=(768,d.np) from List.mem_singleton.1 hp,H.s0]; exact H.lens,fun _=>trivial,H.good.pow _ _,H.good.tabs⟩
theorem mD_ok {E:Env} (hE:StatOk w0 E):VR E mD (.agg #[m0,m1]):=by
 refine⟨[m0,m1],VRL.cons ?_ (VRL.cons ?_ VRL.nil),rfl⟩
 ·show m0=E.sym 768
  rw [hE.sym,H.s0]
 ·show m1=E.sym 769
  rw [hE.sym,H.s1]
theorem deedV_ok (ho:okOwn d=true) {E:Env} (hE:StatOk w0 E):VRL E (deedV d.e) (deedR dd):=by
 simp only [okOwn,Bool.and_eq_true] at ho
 have:=intsIs_ok (H.cx (fact_nil _)) hE ho.1.1.1.1.1
 simp only [deedQ,qI,List.map_cons,List.map_nil,ev_P0] at this
 exact this
theorem DealIn.kit (ho:okOwn d=true) {fs:Facts} (hfs:FactsHold (xD dd) fs) {t:TabsR} {gl:List (Nat × List V)} (hgl:∀ n cs,(n,cs)∈gl→Lies w0 n cs):KitOk w0 (xD dd) (fun _=>.nilFunc) (kitD d fs t gl):=by
 simp only [okOwn,Bool.and_eq_true] at ho
 obtain⟨⟨⟨⟨⟨o1,o2⟩,o3⟩,o4⟩,o5⟩,o6⟩:=ho
 have hC:=H.cx (fact_nil _)
 have hs:=H.deed.small
 have t3:=fun z:Int=>tmod_rg (z:=z) (n:=3) (by omega)
 have nb:=nD_bd dd
 refine⟨H.cx hfs,fun f args v hv=>tmk_prim (l:=memoD d.e) ?_ hv,(fun f es he=>by simp [kitD,T.get_e] at he),fun n cs hn=>hgl n cs (tmk_mem hn),(fun p hp=>by cases hp),(fun p hp=>by cases hp),(fun p hp=>by cases hp)⟩
 intro e hem p hp
 simp only [memoD,List.mem_cons,List.not_mem_nil,or_false] at hem
 have n3:∀ E,StatOk w0 E→VRL E (nvD d.e) [numV (nD dd).1,numV (nD dd).2.1,numV (nD dd).2.2]:=fun E hE=>by
  have:=numsIs_ok hC hE o4
  simp only [List.map_cons,List.map_nil,ev_P0] at this
  exact this
 rcases hem with rfl | rfl | rfl
 ·rw [List.mem_singleton.1 hp]
  refine (normal_ok H.good (hs 1 (by omega) (by omega)) (hs 2 (by omega) (by omega)) (hs 3 (by omega) (by omega))).contract (Mem.Le.refl _) (fun E hE=>VRL.cons ⟨_,?_,rfl⟩ VRL.nil) (fun E hE=>⟨_,n3 E hE,rfl⟩)
  have:=intsIs_ok hC hE o2
  simp only [qI,List.map_cons,List.map_nil,ev_P0] at this
  exact this
 ·rw [List.mem_singleton.1 hp]
  refine (across_ok H.good nb.1 nb.2.1 nb.2.2 (t3 (dd 4)) (t3 (dd 5)) (t3 (dd 6)) (nrm_ne _ _ _)).contract (Mem.Le.refl _) (fun E hE=>VRL.cons ⟨_,n3 E hE,rfl⟩ (VRL.cons ⟨_,?_,rfl⟩ VRL.nil)) (fun E hE=>⟨_,?_,rfl⟩)
  ·have:=numsIs_ok hC hE o3
   simp only [List.map_cons,List.map_nil,ev_P0] at this
   exact this
  ·have:=numsIs_ok hC hE o5
   simp only [List.map_cons,List.map_nil,ev_P0] at this
   exact this
 ·rw [List.mem_singleton.1 hp]
  exact H.mesh.contract (Mem.Le.refl _) (fun E hE=>VRL.cons (mD_ok H hE) VRL.nil) (fun E hE=>rfl)
theorem deal_rm (ho:d.ok=true):RmOk Tryz.prog w0 41 d.rm:=by
 simp only [DealT.ok,Bool.and_eq_true] at ho
 obtain⟨⟨⟨h1,h2⟩,h3⟩,h4⟩:=ho
 simp only [okD,Bool.and_eq_true] at h1
 exact Kit.keep (H.kit h3 (fact_nil _) (fun n cs h=>by cases h)) h1.1.1.1 h1.2
theorem event_fz (ho:d.ok=true) {cs:List (List V)} (hcs:subCells d.ps=some cs):FzOk Tryz.prog w0 54 [mD,d.pv] cs (.int .i64 0):=by
 simp only [DealT.ok,Bool.and_eq_true] at ho
 obtain⟨⟨⟨h1,h2⟩,h3⟩,h4⟩:=ho
 intro w1 hs g1 hl
 have H1:=H.le hs g1
 obtain⟨fs,hfs,hf⟩:=fsAll_ok dd d.kind
 obtain⟨t,ht⟩:=okCs_mem h2 fs hfs
 simp only [okC,Bool.and_eq_true] at ht
 have hgl:∀ n c,(n,c)∈glD 32 (cellsD d)→Lies w1 n c:=by
  have key:∀ (l:List (List V)) (k:Nat),(∀ j c,l[j]? = some c→Lies w1 (k+j) (renL fz c)) → ∀ n c,(n,c)∈glD k l→Lies w1 n c:=by
   intro l
   induction l with
   | nil=>intro k _ n c hm; cases hm
   | cons x l ih=>
    intro k hk n c hm
    rcases List.mem_cons.1 hm with e | hm
    ·cases e; exact hk 0 x rfl
    ·exact ih (k+1) (fun j c hj=>by rw [show k+1+j=k+(j+1) from by omega]; exact hk (j+1) c (by simpa using hj)) n c hm
  unfold cellsD
  rw [hcs]
  exact key cs 32 hl
 exact Kit.run (H1.kit h3 hf hgl) ht.1 ht.2
end
theorem invN_at {ord:List Nat} {nx j n:Nat} (h:ord[j]? = some n):invN ord ord.length nx (64+j)=n:=by
 have hlt:=(List.getElem?_eq_some_iff.1 h).1
 have b1:Nat.blt (64+j) 64=false:=by
  rw [← Bool.not_eq_true]; intro hb; have:=nblt_lt hb; omega
 have b2:Nat.blt (64+j) (64+ord.length)=true:=Nat.ble_eq_true_of_le (by omega)
 unfold invN
 rw [b1,b2,cond_false,cond_true,show 64+j-64=j from by omega,h]
 rfl
theorem eqOpt_eq {u:Option V} {v:V} (h:eqOpt u v=true):u=some v:=by
 unfold eqOpt at h
 split at h
 ·rw [V.eq_eq _ _ h]
 ·cases h
theorem renL_get {r:Nat→Nat}:∀ {l:List V} {i:Nat},(renL r l)[i]? = (l[i]?).map (renV r)
 | [],i=>by simp [renL]
 | v::l,0=>rfl
 | v::l,i+1=>by simpa [renL] using renL_get (l:=l)
theorem leafV_ren {r:Nat→Nat} {v:V} (h:leafV v=true):leafV (renV r v)=true:=by cases v <;> first | rfl | exact h
theorem leaf_one {E:Env} {v:V} {x:Value} (h:leafV v=true) (hx:VR E v x):oneV x:=by
 cases v with
 | agg _=>cases h
 | tup _=>cases h
 | sym i=>rw [show x=E.sym i from hx]; exact E.one i
 | ptr=>obtain⟨i,_,rfl⟩:=hx; trivial
 | slice=>obtain⟨i,_,rfl⟩:=hx; trivial
 | map=>obtain⟨i,_,rfl⟩:=hx; trivial
 | fn=>obtain⟨_,_,_,_,rfl⟩:=hx; trivial
 | yld=>obtain⟨i,_,rfl⟩:=hx; trivial
 | iface=>obtain⟨_,_,rfl⟩:=hx; trivial
 | _=>rw [show x=_ from hx]; trivial
theorem renL_strs {r:Nat→Nat}:∀ l:List (List UInt8),renL r (l.map .str)=l.map .str
 | []=>rfl
 | x::l=>by simp only [List.map_cons,renL,renV]; rw [renL_strs l]
theorem renL_len {r:Nat→Nat}:∀ l:List V,(renL r l).length=l.length
 | []=>rfl
 | x::l=>by simp [renL,renL_len l]
theorem event_raw {w0:Base} {d:DealT} {dd:Nat→Int} {m0 m1:Value} (HD:DealIn w0 d dd m0 m1) (hd:d.ok=true) {E:Env} {h:H} {nx:Nat} {w:World} (hok:Ok w0 E h.get nx w) {ord:List Nat} {lv:List V} {ls:List Value} (hx:VRL E lv ls)
  (hf:fits ord [mD,.agg lv] h nx [mD,d.pv] d.ps=true):EvRaw (memAt w0 E w ord) (.agg #[m0,m1]) d.e (shOf d.kind d.sub) ls:=by
 have hd':=hd
 simp only [DealT.ok,Bool.and_eq_true] at hd'
 have h4:=hd'.2
 simp only [okEv,Bool.and_eq_true] at h4
 obtain⟨hp,h4⟩:=h4
 have hp':=hp
 simp only [patOk,Bool.and_eq_true] at hp'
 have hm:VR E mD (.agg #[m0,m1]):=mD_ok HD hok.sym
 cases hcs:subCells d.ps with
 | none=>rw [hcs] at hp'; exact absurd hp'.2 (by simp)
 | some cs=>
  have hchk:=callOk_of_fits (xs:=[.agg #[m0,m1],.agg ls.toArray]) hok (VRL.cons hm (VRL.cons (show VR E (.agg lv) (.agg ls.toArray) from ⟨ls,hx,rfl⟩) VRL.nil)) hf hp hcs (event_fz HD hd hcs) (fun E' _=>(rfl:VR E' (.int .i64 0) (.int .i64 0)))
  have hf':=hf
  simp only [fits,Bool.and_eq_true] at hf'
  obtain⟨⟨f1,f2⟩,f3⟩:=hf'
  have f1:=V.eqL_eq _ _ f1
  obtain⟨hol,hob⟩:=matchSub_at f2
  split at h4
  ·rename_i pc hpv
   rw [hpv] at f1
   simp only [renL,renV,List.cons.injEq,V.agg.injEq,and_true] at f1
   obtain⟨_,f1⟩:=f1
   simp only [Bool.and_eq_true] at h4
   obtain⟨⟨⟨⟨⟨k1,k2⟩,k3⟩,k4⟩,k5⟩,k6⟩:=h4
   have k1:=nbeq_true k1
   have k3:=eqOpt_eq k3
   have k4:=eqOpt_eq k4
   have k5:=eqOpt_eq k5
   have get:∀ {i:Nat} {v:V},pc[i]? = some v → ∃ x,ls[i]? = some x∧VR E (renV (invN ord ord.length nx) v) x:=fun {i v} hv=>hx.get (by rw [← f1,renL_get,hv]; rfl)
   have hlen:ls.length=32:=by rw [hx.length,← f1,renL_len,k1]
   refine⟨hlen,fun x hxm => ?_,?_,?_,fun hsh => ?_,fun hsh => ?_,?_,hchk⟩
   ·obtain⟨i,hi⟩:=List.mem_iff_getElem?.1 hxm
    have hlt:=(List.getElem?_eq_some_iff.1 hi).1
    have hpc:pc[i]? = some (pc[i]'(by omega)):=List.getElem?_eq_getElem (by omega)
    obtain⟨y,hy,hv⟩:=get hpc
    rw [hi] at hy; cases hy
    exact leaf_one (leafV_ren (List.all_eq_true.1 k2 _ (List.getElem_mem _))) hv
   ·obtain⟨y,hy,hv⟩:=get k3
    rw [hy,show y=_ from hv]
   ·obtain⟨y,hy,hv⟩:=get k4
    rw [hy,show y=_ from hv]; rfl
   ·rw [show Nat.blt (shOf d.kind d.sub) 3=true from Nat.ble_eq_true_of_le hsh,cond_true] at k6
    split at k6
    ·rename_i n len cap h3
     simp only [Bool.and_eq_true] at k6
     obtain⟨⟨⟨q1,q2⟩,q3⟩,q4⟩:=k6
     have q1:=nble_le q1
     have q2:=nbeq_true q2
     have q3:=nble_le q3
     split at q4
     ·rename_i c e0 u0 z0 hps
      have q4:=V.eqL_eq _ _ q4
      subst q4
      obtain⟨y,hy,i,hi,rfl⟩:=get h3
      have hlt:=(List.getElem?_eq_some_iff.1 hps).1
      have hord:ord[n-64]? = some (ord[n-64]'(by omega)):=List.getElem?_eq_getElem (by omega)
      obtain⟨o',hr,hg⟩:=hob _ _ _ hps hord
      simp only [renO,Option.some.injEq] at hr
      subst hr
      have hn:invN ord ord.length nx n=ord[n-64]'(by omega):=by
       have:=invN_at (nx:=nx) hord
       rwa [show 64+(n-64)=n from by omega] at this
      obtain⟨i2,hi2,hu,rc,fr,g1,g2,g3,xs,rest,hxs,hrc⟩:=hok.rel.obj _ _ hg
      rw [hn,hi2] at hi
      cases hi
      rw [renL_strs] at hxs
      have hstr:xs=(unitsB d.e (shOf d.kind d.sub)).map strB:=VRL.det _ _ _ hxs (strs_ok _)
      refine⟨i.blk,capOf i 0 cap,rc,e0,fr,rest,by rw [hy,q2],?_,.inr ⟨_,List.mem_of_getElem? hord,i,hi2,rfl⟩,g1,by rw [hrc,hstr]⟩
      unfold capOf
      split
      ·exact q3
      ·exact Nat.le_trans q3 (Nat.le_max_left _ _)
     ·cases q4
    ·cases k6
   ·have:Nat.blt (shOf d.kind d.sub) 3=false:=by rw [← Bool.not_eq_true]; exact fun hh=>hsh (nblt_lt hh)
    rw [this,cond_false] at k6
    obtain⟨y,hy,hv⟩:=get (eqOpt_eq k6)
    rw [hy,show y=_ from hv]
   ·obtain⟨y,hy,hv⟩:=get k5
    rw [hy,show y=_ from hv]; rfl
  ·cases h4
end Go.Proofs.YtkjinnjopoehhaaGreatDoor
