/-
  klippelaw53.Fits, and loads of a plan, in a walk.
-/
import Derived.Test.YtkjinnjopoehhaaGreatDoorEndsQ
import Derived.Test.YtkjinnjopoehhaaGreatDoorEvMemo
import Derived.WalkKit
import Derived.Lib.Hide
import Derived.Test.YtkjinnjopoehhaaGreatDoorProg
import Derived.WalkSpells
import Derived.WalkLawsBesides
import Derived.RegionTactic
import Derived.Deep.RegionHeld3
set_option linter.unusedSectionVars false
set_option linter.unusedVariables false
set_option linter.unusedSimpArgs false
namespace Go.Proofs.YtkjinnjopoehhaaGreatDoor
open Go.RowKit Go Ev Klp
def bdFL:List Iv:=[(0,0),(0,0),(0,0),(0,0),(0,0),(-38,38),(-38,38),(-38,38),(-38,38),(-38,38),(-38,38)]
noncomputable def cxF (np:Nat) (ls:List (Nat × Nat)):CX:=⟨T.ofList .e 0 ([.opq 0,.opq 1,.opq 2]++(List.range np).map fun i=>.num ⟨[([5+i],1)],2⟩),T.ofList .e 0 bdFL,[],[],ls⟩
noncomputable def rowsF (np:Nat):Rows:=(T.e).set 31 (.n .e (some ((List.range np).map fun i=>([.sym (3+i)],.int .i64 0))) .e)
def cellsF (np:Nat):List V:=(List.range np).map fun i=>.sym (3+i)
noncomputable def kitF (np:Nat) (ls:List (Nat × Nat)) (gl:List (Nat × List V)):Kit:=⟨cxF np ls,[],[],rowsF np,tmk [(52,[([.agg [.sym 0,.sym 1]],.int .i64 0)])],.e,tmk gl,⟨[],[],[]⟩⟩
noncomputable def runF (np:Nat) (ls:List (Nat × Nat)) (gl:List (Nat × List V)) (tv:V) (z:Int):Bool:=(kitF np ls gl).chk&&memoOk (kitF np ls gl).tab 10000 60 28 [.agg [.sym 0,.sym 1],tv] (.int .i64 z)
noncomputable def runF0 (np:Nat):Bool:=runF np [(0,np)] [(34,cellsF np)] (.slice 34 0 np (2*np+1)) 0
noncomputable def runF2 (np:Nat):Bool:=runF np [(0,np),(2,np-1)] [] (.sym 2) 5
theorem runF0_all:([3,4,5,6].all runF0)=true:=by kernel_rfl
theorem runF2_all:([3,4,5,6].all runF2)=true:=by kernel_rfl
def TextsRaw (M:Mem) (l:List Value) (tv:Value):Prop := ∃ b c rc t fr rest,tv=slV b l.length c∧l.length≤c∧M.frz b∧M.heap[b]? = some (.cells rc t fr)∧rc.toList=l++rest
def xF (z:Nat→Int) (v:Nat):Int:=(([0,0,0,0,0,z 0,z 1,z 2,z 3,z 4,z 5]:List Int)[v]?).getD 0
def oF (m0 m1 tv:Value) (j:Nat):Value:=if j=0 then m0 else if j=1 then m1 else if j=2 then tv else .nilFunc
noncomputable def baseF (M:Mem) (np:Nat) (z:Nat→Int) (m0 m1 tv:Value) (i:Info):Base:={ toMem:=M,sym:=symX (xF z) (oF m0 m1 tv) (cxF np []).tab,stat:=fun _=>i }
def htsF (np:Nat):List Num:=(List.range np).map fun i=>⟨[([5+i],1)],2⟩
theorem htsF_val (z:Nat→Int) (np:Nat) (hn:np≤6):(htsF np).map (fun e=>strV (canon (e.val (xF z))))=htsR np z:=by
 simp only [htsF,htsR,List.map_map]
 refine List.map_congr_left fun i hi => ?_
 have hi:=List.mem_range.1 hi
 simp only [Function.comp]
 unfold Num.val
 have e:Poly.ev (xF z) [([5+i],1)]=z i:=by
  have:xF z (5+i)=z i:=by
   have:i=0∨i=1∨i=2∨i=3∨i=4∨i=5:=by omega
   rcases this with rfl | rfl | rfl | rfl | rfl | rfl <;> rfl
  simp only [Poly.ev,Poly.evM,this,Int.mul_one,Int.one_mul,Int.add_zero]
 rw [e]; rfl
theorem numsF_all:([3,4,5,6].all fun np=>numsEq (cxF np []) (htsF np) (cellsF np))=true:=by kernel_rfl
section
variable {M:Mem} (hg:Good M) {np:Nat} (hn:np∈[3,4,5,6]) {z:Nat→Int} (hz:∀ i,i<6 → -38≤z i∧z i≤38) {m0 m1 tv:Value} (hm0:∃ a k,m0=Value.slice a np k) (hm1:oneV m1) (htv:oneV tv) {i34:Info}
include hg hn hz hm0 hm1 htv
theorem oneF (j:Nat):oneV (oF m0 m1 tv j):=by
 unfold oF
 split
 ·obtain⟨_,_,rfl⟩:=hm0; trivial
 ·split
  ·exact hm1
  ·split
   ·exact htv
   ·trivial
theorem symF {j:Nat} (hj:j<3):(baseF M np z m0 m1 tv i34).sym j=oF m0 m1 tv j:=by
 have e:(cxF np []).tab.get j=some (.opq j):=by
  show (T.ofList .e 0 _).get j=_
  rw [T.get_ofList,if_pos ⟨Nat.zero_le _,by simp; omega⟩]
  have:j=0∨j=1∨j=2:=by omega
  rcases this with rfl | rfl | rfl <;> rfl
 show symX (xF z) (oF m0 m1 tv) (cxF np []).tab j=_
 unfold symX
 rw [e]
theorem cxF_ok {ls:List (Nat × Nat)} (hls:∀ p∈ls,∃ a k,(baseF M np z m0 m1 tv i34).sym p.1 = .slice a p.2 k):CXOk (baseF M np z m0 m1 tv i34) (xF z) (oF m0 m1 tv) (cxF np ls):=by
 refine⟨fun _ _ _=>rfl,fun v => ?_,(fun f hf=>by cases hf),(fun r hr=>by cases hr),hls,oneF hg hn hz hm0 hm1 htv,hg.pow _ _,hg.tabs⟩
 show Iv.has (((T.ofList .e 0 bdFL).get v).getD (0,0)) _
 exact bd_of (l:=bdFL) (zs:=[0,0,0,0,0,z 0,z 1,z 2,z 3,z 4,z 5]) ⟨⟨Int.le_refl _,Int.le_refl _⟩,⟨Int.le_refl _,Int.le_refl _⟩,⟨Int.le_refl _,Int.le_refl _⟩,⟨Int.le_refl _,Int.le_refl _⟩,⟨Int.le_refl _,Int.le_refl _⟩,hz 0 (by omega),hz 1 (by omega),hz 2 (by omega),hz 3 (by omega),hz 4 (by omega),hz 5 (by omega),trivial⟩ v
theorem field_run (hm:CallOk Tryz.prog M 52 [.agg #[m0,m1]] (.int .i64 0)) {ls:List (Nat × Nat)} (hls:∀ p∈ls,∃ a k,(baseF M np z m0 m1 tv i34).sym p.1 = .slice a p.2 k) {gl:List (Nat × List V)} (hgl:∀ n cs,(n,cs)∈gl→Lies (baseF M np z m0 m1 tv i34) n cs)
  {tvV:V} (hv:∀ E,StatOk (baseF M np z m0 m1 tv i34) E→VR E tvV tv) {u:Int} (hrun:runF np ls gl tvV u=true):CallOk Tryz.prog M 28 [.agg #[m0,m1],tv] (.int .i64 u):=by
 simp only [runF,Bool.and_eq_true] at hrun
 obtain⟨hchk,hrun⟩:=hrun
 have hC:=cxF_ok hg hn hz hm0 hm1 htv (i34:=i34) hls
 have hone:∀ i,oneV ((baseF M np z m0 m1 tv i34).sym i):=fun i=>symX_one (oneF hg hn hz hm0 hm1 htv) i
 have vM:∀ E,StatOk (baseF M np z m0 m1 tv i34) E→VR E (.agg [.sym 0,.sym 1]) (.agg #[m0,m1]):=fun E hE=>by
  refine⟨[m0,m1],VRL.cons ?_ (VRL.cons ?_ VRL.nil),rfl⟩
  ·show m0=E.sym 0
   rw [hE.sym,symF hg hn hz hm0 hm1 htv (by omega)]; rfl
  ·show m1=E.sym 1
   rw [hE.sym,symF hg hn hz hm0 hm1 htv (by omega)]; rfl
 have hK:KitOk (baseF M np z m0 m1 tv i34) (xF z) (oF m0 m1 tv) (kitF np ls gl):=by
  refine⟨hC,fun f args v hv=>tmk_prim (l:=[(52,[([.agg [.sym 0,.sym 1]],.int .i64 0)])]) ?_ hv,(fun f es he=>by simp [kitF,T.get_e] at he),(fun n cs hn=>hgl n cs (tmk_mem hn)),(fun p hp=>by cases hp),(fun p hp=>by cases hp),(fun p hp=>by cases hp)⟩
  exact memos_cons (hm.contract (Mem.Le.refl _) (fun E hE=>VRL.cons (vM E hE) VRL.nil) (fun E hE=>rfl)) memos_nil
 exact (Kit.run hK hchk hrun).callOk (hE:=base_stat (h:=hone)) (VRL.cons (vM _ base_stat) (VRL.cons (hv _ base_stat) VRL.nil)) rfl
theorem cells_F {E:Env} (hE:StatOk (baseF M np z m0 m1 tv i34) E):VRL E (cellsF np) (htsR np z):=by
 have hC:=cxF_ok hg hn hz hm0 hm1 htv (i34:=i34) (ls:=[]) (fun p hp=>by cases hp)
 have h6:np≤6:=by simp only [List.mem_cons,List.not_mem_nil,or_false] at hn; omega
 have:=numsEq_ok hC hE (List.all_eq_true.1 numsF_all np hn)
 rwa [htsF_val z np h6] at this
theorem len_F:∀ p∈[(0,np)],∃ a k,(baseF M np z m0 m1 tv i34).sym p.1 = .slice a p.2 k:=fun p hp=>by
 obtain⟨a,k,e⟩:=hm0
 rw [List.mem_singleton.1 hp]
 exact⟨a,k,by rw [symF hg hn hz ⟨a,k,e⟩ hm1 htv (by omega)]; exact e⟩
end
section
variable {M:Mem} (hg:Good M) {np:Nat} (hn:np∈[3,4,5,6]) {z:Nat→Int} (hz:∀ i,i<6 → -38≤z i∧z i≤38) {m0 m1 tv:Value} (hm0:∃ a k,m0=Value.slice a np k) (hm1:oneV m1) (hm:CallOk Tryz.prog M 52 [.agg #[m0,m1]] (.int .i64 0))
include hg hn hz hm0 hm1 hm
theorem field_texts {l:List Value} (hl:l.length=np) {cs:List V} (ht:TextsRaw M l tv) (hcs:∀ E i,StatOk (baseF M np z m0 m1 tv i) E→VRL E cs l) {u:Int} (hrun:runF np [(0,np)] [(34,cs)] (.slice 34 0 np (2*np+1)) u=true):CallOk Tryz.prog M 28 [.agg #[m0,m1],tv] (.int .i64 u):=by
 obtain⟨b,c,rc,t,fr,rest,rfl,h2,hf,h3,h4⟩:=ht
 rw [hl] at h2
 refine field_run hg hn hz hm0 hm1 (show oneV (slV _ _ _) from trivial) (i34:={ blk:=b,size:=c,unit:=1 }) hm (len_F hg hn hz hm0 hm1 (show oneV (slV _ _ _) from trivial)) (gl:=[(34,cs)]) (fun n ds hm => ?_) (tvV:=.slice 34 0 np (2*np+1)) (fun E hE=>⟨_,hE.stat 34 (by omega) (by omega),?_⟩) hrun
 ·cases List.mem_singleton.1 hm
  exact⟨by omega,by omega,(Array.getElem?_eq_some_iff.1 h3).1,hf,rc,t,fr,h3,fun E hE=>⟨_,rest,hcs E _ hE,h4⟩⟩
 ·rw [hl]
  show slV b np c = .slice (some ⟨b,0,none⟩) np (capOf { blk:=b,size:=c,unit:=1 } 0 (2*np+1))
  unfold capOf slV
  rw [if_neg (by omega)]
  simp only [Nat.sub_zero,Nat.div_one]
  congr 1
  omega
theorem field_0 (ht:TextsRaw M (htsR np z) tv):CallOk Tryz.prog M 28 [.agg #[m0,m1],tv] (.int .i64 0):=by
 have htv:oneV tv:=by obtain⟨_,_,_,_,_,_,rfl,_⟩:=ht; trivial
 exact field_texts hg hn hz hm0 hm1 hm (by simp [htsR]) ht (fun E i hE=>cells_F hg hn hz hm0 hm1 htv hE) (List.all_eq_true.1 runF0_all np hn)
theorem field_2 (ht:∃ a k,tv=Value.slice a (np-1) k):CallOk Tryz.prog M 28 [.agg #[m0,m1],tv] (.int .i64 5):=by
 have htv:oneV tv:=by obtain⟨_,_,rfl⟩:=ht; trivial
 refine field_run hg hn hz hm0 hm1 htv (i34:={ blk:=0,size:=0,unit:=0 }) hm (ls:=[(0,np),(2,np-1)]) (fun p hp => ?_) (gl:=[]) (fun n ds hm=>by cases hm) (tvV:=.sym 2) (fun E hE => ?_) (List.all_eq_true.1 runF2_all np hn)
 ·rcases List.mem_cons.1 hp with rfl | hp
  ·exact len_F hg hn hz hm0 hm1 htv _ (List.mem_singleton.2 rfl)
  ·rw [List.mem_singleton.1 hp]
   obtain⟨a,k,e⟩:=ht
   exact⟨a,k,by rw [symF hg hn hz hm0 hm1 htv (by omega)]; exact e⟩
 ·show tv=E.sym 2
  rw [hE.sym,symF hg hn hz hm0 hm1 htv (by omega)]; rfl
end
def PairQ (M:Mem) (l:List Value) (z:Int):Prop:=CallOk Tryz.prog M 11 [.agg l.toArray] (.int .i64 z)∧CallOk Tryz.prog M 12 [.agg l.toArray] (.int .i64 z)
def modelV:List V:=[syC 0,syC 1,syC 2,syC 3,syC 4,syC 5]
def histM:V:=.agg [syC 0,syC 1,syC 2,syC 3]
def meshM:V:=.agg [syC 0,syC 1]
def mHm (v:V):Nat × List (List V × V):=(27,[([histM],v)])
def mFm (v:V):Nat × List (List V × V):=(28,[([meshM,syC 4],v)])
noncomputable def pairOk (k:Kit) (cells:List V) (v:V):Bool:=memoOk k.tab 10000 60 11 [.agg cells] v&&memoOk k.tab 10000 60 12 [.agg cells] v
noncomputable def cxPa:CX:=⟨T.ofList .e 0 ((List.range 6).map .opq++[.int .i64 (P0 0)]),T.ofList .e 0 [(0,40)],[(P0 0,psS)],[],[]⟩
noncomputable def kitPa (m:Memo):Kit:=⟨cxPa,[],[],.e,tmk m,.e,.e,⟨[],[],[]⟩⟩
def bad1:List UInt8:=[49,47]
def modelB:List V:=[syC 0,syC 1,syC 2,syC 3,syC 4,.str bad1]
set_option maxRecDepth 100000
theorem runPa1:pairOk (kitPa [mHm (syC 6)]) modelV (syC 6)=true:=by kernel_rfl
theorem runPa2:pairOk (kitPa [mHm (.int .i64 0),mFm (syC 6)]) modelV (syC 6)=true:=by kernel_rfl
theorem runPa3:pairOk (kitPa [mHm (.int .i64 0),mFm (.int .i64 0)]) modelB (.int .i64 2)=true:=by kernel_rfl
def oPa (l:List Value) (j:Nat):Value:=(l[j]?).getD .nilFunc
def xPa (z:Int) (v:Nat):Int:=if v=0 then z else 0
noncomputable def basePa (M:Mem) (l:List Value) (z:Int):Base:={ toMem:=M,sym:=symX (xPa z) (oPa l) cxPa.tab }
section
variable {M:Mem} (hg:Good M) {l:List Value} (hl:l.length=6) (h1:∀ x∈l,oneV x) {z:Int} (hz:0<z∧z≤40)
include h1 in
theorem oPa_one (j:Nat):oneV (oPa l j):=by
 unfold oPa
 cases h:l[j]? with
 | none=>trivial
 | some x=>exact h1 x (List.mem_of_getElem? h)
theorem getPa (j:Nat):cxPa.tab.get j=(((List.range 6).map SE.opq++[.int .i64 (P0 0)]):List SE)[j]? := by
 show (T.ofList .e 0 _).get j=_
 rw [T.get_ofList]
 split
 ·rw [Nat.sub_zero]
 ·rename_i hi
  rw [T.get_e,List.getElem?_eq_none (by omega)]
theorem symPa_c {j:Nat} (hj:j<6):(basePa M l z).sym j=oPa l j:=by
 show symX (xPa z) (oPa l) cxPa.tab j=_
 unfold symX
 rw [getPa,List.getElem?_append_left (by simpa using hj),List.getElem?_map,List.getElem?_range hj]; rfl
theorem symPa_z:(basePa M l z).sym 6 = .int .i64 z:=by
 show symX (xPa z) (oPa l) cxPa.tab 6=_
 unfold symX
 rw [getPa,show (((List.range 6).map SE.opq++[.int .i64 (P0 0)]):List SE)[6]? = some (.int .i64 (P0 0)) from rfl]
 simp only [ev_P0]; rfl
include hl in
theorem cellsPa {E:Env} (hE:StatOk (basePa M l z) E):VRL E modelV l:=by
 refine VRL.of_get (by rw [hl]; rfl) fun k v y h2 h3 => ?_
 have hk:k<6:=by
  have:=(List.getElem?_eq_some_iff.1 h3).1
  rw [hl] at this; exact this
 have e:modelV=(List.range 6).map syC:=rfl
 rw [e,List.getElem?_map,List.getElem?_range hk,Option.map_some,Option.some.injEq] at h2
 subst h2
 show y=E.sym k
 rw [hE.sym,symPa_c hk]
 unfold oPa
 rw [h3]; rfl
theorem vzPa {E:Env} (hE:StatOk (basePa M l z) E):VR E (syC 6) (.int .i64 z):=by show _=E.sym 6; rw [hE.sym,symPa_z]
include hg h1 hz in
theorem kitPa_ok {m:Memo} (hm:Memos Tryz.prog (basePa M l z) m):KitOk (basePa M l z) (xPa z) (oPa l) (kitPa m):=by
 refine⟨⟨fun _ _ _=>rfl,fun v => ?_,fact_cons ?_ (fact_nil _),(fun r hr=>by cases hr),(fun p hp=>by cases hp),oPa_one h1,hg.pow _ _,hg.tabs⟩,fun f args v hv=>tmk_prim hm hv,(fun f es he=>by simp [kitPa,T.get_e] at he),
  (fun n cs hn=>by simp [kitPa,T.get_e] at hn),(fun p hp=>by cases hp),(fun p hp=>by cases hp),(fun p hp=>by cases hp)⟩
 ·show Iv.has (((T.ofList .e 0 [(0,40)]:T Iv).get v).getD (0,0)) (xPa z v)
  rw [T.get_ofList]
  by_cases hv:v=0
  ·subst hv
   exact⟨Int.le_of_lt hz.1,hz.2⟩
  ·rw [if_neg (by simp; omega),T.get_e]
   show Iv.has (0,0) (if v=0 then z else 0)
   rw [if_neg hv]
   exact⟨Int.le_refl _,Int.le_refl _⟩
 ·rw [ev_P0]
  exact⟨fun e=>by have:xPa z 0=z:=rfl; omega,fun e=>by have:xPa z 0=z:=rfl; omega,fun _=>rfl⟩
include hg h1 hz in
theorem pair_run {m:Memo} (hm:Memos Tryz.prog (basePa M l z) m) {cells:List V} {le:List Value} {v:V} {u:Int} (hrun:pairOk (kitPa m) cells v=true) (hc:∀ E,StatOk (basePa M l z) E→VRL E cells le) (hv:∀ E,StatOk (basePa M l z) E→VR E v (.int .i64 u)):PairQ M le u:=by
 simp only [pairOk,Bool.and_eq_true] at hrun
 have hK:=kitPa_ok hg h1 hz hm
 have hone:∀ i,oneV ((basePa M l z).sym i):=fun i=>symX_one (oPa_one h1) i
 have hE0:StatOk (basePa M l z) (baseE _ hone):=base_stat
 exact⟨(Kit.run hK rfl hrun.1).callOk (hE:=hE0) (VRL.cons ⟨_,hc _ hE0,rfl⟩ VRL.nil) (hv _ hE0),(Kit.run hK rfl hrun.2).callOk (hE:=hE0) (VRL.cons ⟨_,hc _ hE0,rfl⟩ VRL.nil) (hv _ hE0)⟩
include hg h1 hl hz in
theorem pair_hist (hh:CallOk Tryz.prog M 27 [.agg (l.take 4).toArray] (.int .i64 z)):PairQ M l z:=
 pair_run hg h1 hz (memos_cons (hh.contract (args:=[histM]) (v:=syC 6) (Mem.Le.refl _) (fun E hE=>VRL.cons ⟨_,(cellsPa hl hE).take 4,rfl⟩ VRL.nil) fun E hE=>vzPa hE) memos_nil) runPa1 (fun E hE=>cellsPa hl hE) fun E hE=>vzPa hE
theorem vtPa {tv:Value} (htv:l[4]? = some tv) {E:Env} (hE:StatOk (basePa M l z) E):VR E (syC 4) tv:=by
 show tv=E.sym 4
 rw [hE.sym,symPa_c (by omega)]
 unfold oPa
 rw [htv]; rfl
include hg h1 hl hz in
theorem pair_field (hh:CallOk Tryz.prog M 27 [.agg (l.take 4).toArray] (.int .i64 0)) {tv:Value} (htv:l[4]? = some tv) (hf:CallOk Tryz.prog M 28 [.agg (l.take 2).toArray,tv] (.int .i64 z)):PairQ M l z:=
 pair_run hg h1 hz (memos_cons (hh.contract (args:=[histM]) (v:=.int .i64 0) (Mem.Le.refl _) (fun E hE=>VRL.cons ⟨_,(cellsPa hl hE).take 4,rfl⟩ VRL.nil) fun E hE=>rfl) (memos_cons (hf.contract (args:=[meshM,syC 4]) (v:=syC 6) (Mem.Le.refl _) (fun E hE=>VRL.cons ⟨_,(cellsPa hl hE).take 2,rfl⟩ (VRL.cons (vtPa htv hE) VRL.nil)) fun E hE=>vzPa hE) memos_nil)) runPa2
  (fun E hE=>cellsPa hl hE) fun E hE=>vzPa hE
end
theorem pair_bad {M:Mem} (hg:Good M) {m0 m1 bs sv tv:Value} (o0:oneV m0) (o1:oneV m1) (o2:oneV bs) (o3:oneV sv) (o4:oneV tv) (hh:CallOk Tryz.prog M 27 [.agg #[m0,m1,bs,sv]] (.int .i64 0)) (hf:CallOk Tryz.prog M 28 [.agg #[m0,m1],tv] (.int .i64 0)) :
  PairQ M [m0,m1,bs,sv,tv,strV bad1] 2:=by
 have hl:[m0,m1,bs,sv,tv,strV bad1].length=6:=rfl
 have h1:∀ x∈[m0,m1,bs,sv,tv,strV bad1],oneV x:=fun x hx=>by
  simp only [List.mem_cons,List.not_mem_nil,or_false] at hx
  rcases hx with rfl | rfl | rfl | rfl | rfl | rfl <;> first | assumption | trivial
 refine pair_run hg h1 (z:=1) ⟨by omega,by omega⟩ (memos_cons (hh.contract (args:=[histM]) (v:=.int .i64 0) (Mem.Le.refl _) (fun E hE=>VRL.cons ⟨_,(cellsPa hl hE).take 4,rfl⟩ VRL.nil) fun E hE=>rfl) (memos_cons (hf.contract (args:=[meshM,syC 4]) (v:=.int .i64 0) (Mem.Le.refl _)
  (fun E hE=>VRL.cons ⟨_,(cellsPa hl hE).take 2,rfl⟩ (VRL.cons (vtPa rfl hE) VRL.nil)) fun E hE=>rfl) memos_nil)) runPa3 (fun E hE => ?_) fun E hE=>rfl
 exact ((cellsPa hl hE).take 5).append (VRL.cons rfl VRL.nil)
def tabPn:List SE:=(List.range 5).map .opq++[.num ⟨P0 0,2⟩,.num ⟨P0 1,2⟩,.opq 5,.sgn (Num.diff ⟨P0 0,2⟩ ⟨P0 1,2⟩)]
def bdPn:List Iv:=[(-60,60),(-60,60)]
noncomputable def cxPn (above:Bool):CX:=⟨T.ofList .e 0 tabPn,T.ofList .e 0 bdPn,[(Num.diff ⟨P0 0,2⟩ ⟨P0 1,2⟩,cond above nnS ngS)],[],[]⟩
noncomputable def rowsPn:Rows:=((T.e:Rows).set 31 (bq [([syC 5],.int .i64 0)])).set 32 (bq [([syC 5,syC 6],syC 8)])
def memoPn:Memo:=[mHm (.int .i64 0),mFm (.int .i64 0),(29,[([syC 5],.bool true)]),(30,[([syC 5,syC 6],syC 8)]),(20,[([syC 4],.tup [syC 6,syC 7])]),
 (33,[([syC 4,cmpE],syC 6)])]
noncomputable def kitPn (above:Bool):Kit:=⟨cxPn above,[],[],rowsPn,tmk memoPn,.e,.e,⟨[],[],[]⟩⟩
def nPn (v:Nat):Num:=⟨Poly.scl (-1) (P0 v),2⟩
noncomputable def knPn:Bool:=([0,1].all fun i=>(⟨P0 i,2⟩:Num).fits (cxPn false).b&&(⟨P0 i,2⟩:Num).br (cxPn false).b&&Num.negOk ⟨P0 i,2⟩ (nPn i)&&(nPn i).br (cxPn false).b)
noncomputable def runPn (above:Bool):Bool:=(kitPn above).chk&&pairOk (kitPn above) modelV (.int .i64 (cond above 6 0))
theorem runPn_all:(knPn&&allB runPn)=true:=by kernel_rfl
theorem getPn (above:Bool) (k:Nat):(cxPn above).tab.get k=tabPn[k]? := by
 show (T.ofList .e 0 tabPn:T SE).get k=_
 rw [T.get_ofList]
 split
 ·rw [Nat.sub_zero]
 ·rename_i h
  rw [T.get_e,List.getElem?_eq_none (by omega)]
set_option maxHeartbeats 1000000 in
theorem pair_floor {M:Mem} (hg:Good M) {m0 m1 bs sv tv:Value} (o0:oneV m0) (o1:oneV m1) (o2:oneV bs) (o3:oneV sv) (o4:oneV tv) (hh:CallOk Tryz.prog M 27 [.agg #[m0,m1,bs,sv]] (.int .i64 0)) (hf:CallOk Tryz.prog M 28 [.agg #[m0,m1],tv] (.int .i64 0))
  {fl lo:Int} {hv:Value} (ohv:oneV hv) (hfl : -60≤fl∧fl≤60) (hlo : -60≤lo∧lo≤60) (he:CallOk Tryz.prog M 20 [tv] (.tuple #[qV lo 2,hv])) (hm:CallOk Tryz.prog M 33 [tv,.func (.func 32) #[] #[]] (qV lo 2))
  {above:Bool} (hab:above=true↔lo≤fl):PairQ M [m0,m1,bs,sv,tv,qV fl 2] (cond above 6 0):=by
 have hrun:=runPn_all
 simp only [Bool.and_eq_true] at hrun
 obtain⟨hkn,hrun⟩:=hrun
 have hrun:=allB_ok hrun above
 simp only [runPn,Bool.and_eq_true] at hrun
 obtain⟨hchk,hpair⟩:=hrun
 simp only [pairOk,Bool.and_eq_true] at hpair
 let ol:List Value:=[m0,m1,bs,sv,tv,hv]
 let x:Nat→Int:=fun v=>(([fl,lo]:List Int)[v]?).getD 0
 let o:Nat→Value:=fun j=>(ol[j]?).getD .nilFunc
 have oo:∀ j,oneV (o j):=fun j=>by
  show oneV ((ol[j]?).getD .nilFunc)
  cases h:ol[j]? with
  | none=>trivial
  | some y=>
   have:=List.mem_of_getElem? h
   simp only [ol,List.mem_cons,List.not_mem_nil,or_false] at this
   rcases this with rfl | rfl | rfl | rfl | rfl | rfl <;> assumption
 let B:Base:={ toMem:=M,sym:=symX x o (cxPn above).tab }
 have hone:∀ i,oneV (B.sym i):=fun i=>symX_one oo i
 have hF:FactsHold x (cxPn above).fs:=by
  refine fact_cons ?_ (fact_nil _)
  rw [ev_diff]
  have e:x 0-x 1=fl-lo:=rfl
  rw [e]
  cases above with
  | true=>
   have:=hab.1 rfl
   exact⟨fun h=>by omega,fun _=>rfl,fun _=>rfl⟩
  | false=>
   have:¬ lo≤fl:=fun h=>by have:=hab.2 h; cases this
   exact⟨fun _=>rfl,fun h=>by omega,fun h=>by omega⟩
 have hC:CXOk B x o (cxPn above):=by
  refine⟨fun _ _ _=>rfl,fun v => ?_,hF,(fun r hr=>by cases hr),(fun p hp=>by cases hp),oo,hg.pow _ _,hg.tabs⟩
  exact bd_of (l:=bdPn) (zs:=[fl,lo]) ⟨hfl,hlo,trivial⟩ v
 have sy:∀ k e,tabPn[k]? = some e→B.sym k=(match e with | .int k p=>.int k (Poly.ev x p) | .num a=>strV (canon (a.val x)) | .sgn q=>.int .i64 (sgnI (Poly.ev x q)) | .opq j=>o j):=fun k e h=>by
  show symX x o (cxPn above).tab k=_
  unfold symX
  rw [getPn,h]
  cases e <;> rfl
 have s5:B.sym 5=qV fl 2:=(sy 5 _ rfl).trans (qV_val x 0 2)
 have s6:B.sym 6=qV lo 2:=(sy 6 _ rfl).trans (qV_val x 1 2)
 have vy:∀ E,StatOk B E → ∀ {i:Nat} {v:Value},B.sym i=v→VR E (syC i) v:=fun E hE i v h=>by show v=E.sym i; rw [hE.sym,h]
 have v0:=fun E hE=>vy E hE (sy 0 _ rfl)
 have v1:=fun E hE=>vy E hE (sy 1 _ rfl)
 have v2:=fun E hE=>vy E hE (sy 2 _ rfl)
 have v3:=fun E hE=>vy E hE (sy 3 _ rfl)
 have v4:=fun E hE=>vy E hE (sy 4 _ rfl)
 have v5:=fun E hE=>vy E hE s5
 have v6:=fun E hE=>vy E hE s6
 have v7:=fun E hE=>vy E hE (sy 7 _ rfl)
 have v8:=fun E hE=>vy E hE (sy 8 _ rfl)
 have kn:∀ i,i∈[0,1]→((⟨P0 i,2⟩:Num).fits (cxPn false).b=true∧(⟨P0 i,2⟩:Num).br (cxPn false).b=true)∧Num.negOk ⟨P0 i,2⟩ (nPn i)=true∧(nPn i).br (cxPn false).b=true:=fun i hi=>by
  have h:=List.all_eq_true.1 (show [0,1].all _=true from hkn) i hi
  simp only [Bool.and_eq_true] at h
  exact⟨h.1.1,h.1.2,h.2⟩
 obtain⟨⟨f0,b0⟩,_⟩:=kn 0 (by decide)
 obtain⟨⟨f1,b1⟩,n1,c1⟩:=kn 1 (by decide)
 have bn:Br (-(Num.val x ⟨P0 1,2⟩)):=by
  rw [Num.neg_val (a:=⟨P0 1,2⟩) (u:=nPn 1) (by decide) (by decide) n1]
  exact br_ok hC (by decide) c1
 have hr:=right_ok hg (hC.sm f0)
 rw [qV_val] at hr
 have hc:=refcmp_ok hg (hC.sm f0) (hC.sm f1) (br_ok hC (by decide) b0) bn
 rw [qV_val,qV_val] at hc
 have hmo:Memos Tryz.prog B memoPn:=
  memos_cons (hh.contract (args:=[histM]) (v:=.int .i64 0) (Mem.Le.refl _) (fun E hE=>VRL.cons ⟨_,VRL.cons (v0 E hE) (VRL.cons (v1 E hE) (VRL.cons (v2 E hE) (VRL.cons (v3 E hE) VRL.nil))),rfl⟩ VRL.nil) fun E hE=>rfl)
   (memos_cons (hf.contract (args:=[meshM,syC 4]) (v:=.int .i64 0) (Mem.Le.refl _) (fun E hE=>VRL.cons ⟨_,VRL.cons (v0 E hE) (VRL.cons (v1 E hE) VRL.nil),rfl⟩ (VRL.cons (v4 E hE) VRL.nil)) fun E hE=>rfl)
   (memos_cons (hr.contract (args:=[syC 5]) (v:=.bool true) (Mem.Le.refl _) (fun E hE=>VRL.cons (v5 E hE) VRL.nil) fun E hE=>rfl)
   (memos_cons (hc.contract (args:=[syC 5,syC 6]) (v:=syC 8) (Mem.Le.refl _) (fun E hE=>VRL.cons (v5 E hE) (VRL.cons (v6 E hE) VRL.nil)) fun E hE=>by
    have h8:=v8 E hE
    have hdv:=Num.diff_val (x:=x) (a:=⟨P0 0,2⟩) (c:=⟨P0 1,2⟩) (by decide) (by decide)
    have e:sgnI (Num.val x ⟨P0 0,2⟩ - Num.val x ⟨P0 1,2⟩).num=sgnI (Poly.ev x (Num.diff ⟨P0 0,2⟩ ⟨P0 1,2⟩)):=sgn_of_iff (by rw [← hdv.1]; exact sub_neg_rat) (by rw [← hdv.2]; exact sub_zero_rat)
    rw [e]
    exact h8)
   (memos_cons (he.contract (args:=[syC 4]) (v:=.tup [syC 6,syC 7]) (Mem.Le.refl _) (fun E hE=>VRL.cons (v4 E hE) VRL.nil) fun E hE=>⟨_,VRL.cons (v6 E hE) (VRL.cons (v7 E hE) VRL.nil),rfl⟩)
   (memos_cons (hm.contract (args:=[syC 4,cmpE]) (v:=syC 6) (Mem.Le.refl _) (fun E hE=>VRL.cons (v4 E hE) (VRL.cons ⟨[],[],rfl,rfl,rfl⟩ VRL.nil)) fun E hE=>v6 E hE) memos_nil)))))
 have hK:KitOk B x o (kitPn above):=⟨hC,(fun f args v hv=>tmk_prim hmo hv),(fun f es he=>by simp [kitPn,T.get_e] at he),(fun n cs hn=>by simp [kitPn,T.get_e] at hn),(fun p hp=>by cases hp),(fun p hp=>by cases hp),(fun p hp=>by cases hp)⟩
 have hE0:StatOk B (baseE B hone):=base_stat
 have hcells:VRL (baseE B hone) modelV [m0,m1,bs,sv,tv,qV fl 2]:=VRL.cons (v0 _ hE0) (VRL.cons (v1 _ hE0) (VRL.cons (v2 _ hE0) (VRL.cons (v3 _ hE0) (VRL.cons (v4 _ hE0) (VRL.cons (v5 _ hE0) VRL.nil)))))
 exact⟨(Kit.run hK hchk hpair.1).callOk (hE:=hE0) (VRL.cons ⟨_,hcells,rfl⟩ VRL.nil) rfl,(Kit.run hK hchk hpair.2).callOk (hE:=hE0) (VRL.cons ⟨_,hcells,rfl⟩ VRL.nil) rfl⟩
end Go.Proofs.YtkjinnjopoehhaaGreatDoor
namespace Go.Proofs.YtkjinnjopoehhaaGreatDoor
open Go.RowKit Go Ev
theorem heap_alloc (w:World) (o:Obj):(w.alloc o).heap=w.heap.push o:=rfl
theorem on_alloc {M:Mem} {w:World} (h:M.On w) (o:Obj):M.On (w.alloc o):=by
 refine⟨?_,fun b hb hz => ?_⟩
 ·rw [heap_alloc,Array.size_push]; exact Nat.le_succ_of_le h.size
 ·have:b<w.heap.size:=Nat.lt_of_lt_of_le hb h.size
  rw [← h.same b hb hz]
  rw [heap_alloc,Array.getElem?_push,if_neg (Nat.ne_of_lt this)]
def QuietP (v:Value) (w:World) (e:Ending) (w':World):Prop:=e = .returned v∧Grew w w' ∧ ∀ b,b<w.heap.size→w'.heap[b]? = w.heap[b]?
theorem grew_alloc (w:World) (o:Obj):Grew w (w.alloc o):=⟨rfl,rfl,rfl,by rw [heap_alloc,Array.size_push]; omega⟩
theorem same_alloc (w:World) (o:Obj):∀ b,b<w.heap.size→(w.alloc o).heap[b]? = w.heap[b]? := fun b hb=>by rw [heap_alloc,Array.getElem?_push,if_neg (Nat.ne_of_lt hb)]
theorem new_alloc (w:World) (o:Obj):(w.alloc o).heap[w.heap.size]? = some o:=by rw [heap_alloc,Array.getElem?_push,if_pos rfl]
theorem size_alloc (w:World) (o:Obj):(w.alloc o).heap.size=w.heap.size+1:=by rw [heap_alloc,Array.size_push]
theorem set_other (w:World) (a:Addr) (v:Value) (b:Nat) (h:b≠a.block):(w.setCell a v).heap[b]? = w.heap[b]? := by
 unfold World.setCell
 simp only [Array.getElem?_modify]
 rw [if_neg (Ne.symm h)]
theorem set_size (w:World) (a:Addr) (v:Value):(w.setCell a v).heap.size=w.heap.size:=by
 unfold World.setCell
 simp
theorem setc_same (w:World) (b off:Nat) (v:Value) {cs:Array Value} {t:Nat} {fr:Nat × Nat} (h:w.heap[b]? = some (.cells cs t fr)):(w.setCell ⟨b,off,none⟩ v).heap[b]? = some (.cells (cs.setIfInBounds off v) t fr):=by
 unfold World.setCell
 simp only [Array.getElem?_modify]
 rw [if_pos trivial,h]
 rfl
theorem grew_set (w:World) (a:Addr) (v:Value):Grew w (w.setCell a v):=⟨rfl,rfl,rfl,Nat.le_of_eq (set_size w a v).symm⟩
structure Went (M:Mem) (w:World) (M1:Mem) (w1:World):Prop where
 on:M1.On w1
 le:M.Le M1
 grew:Grew w w1
 old:∀ b,b<w.heap.size→w1.heap[b]? = w.heap[b]?
 frz:∀ b,b<M1.heap.size→M1.frz b→(b<M.heap.size∧M.frz b)∨w.heap.size≤b
theorem grew_refl (w:World):Grew w w:=⟨rfl,rfl,rfl,Nat.le_refl _⟩
theorem Went.refl {M:Mem} {w:World} (h:M.On w):Went M w M w:=⟨h,Mem.Le.refl _,grew_refl w,fun _ _=>rfl,fun b hb hz=>.inl ⟨hb,hz⟩⟩
theorem Went.lt {M M1:Mem} {w w1:World} (h:Went M w M1 w1):w.heap.size≤w1.heap.size:=h.grew.size
theorem Went.alloc {M M1:Mem} {w w1:World} (h:Went M w M1 w1) (o:Obj):Went M w M1 (w1.alloc o):=
 ⟨on_alloc h.on o,h.le,h.grew.trans (grew_alloc _ _),fun b hb=>by rw [same_alloc _ _ b (Nat.lt_of_lt_of_le hb h.lt),h.old b hb],h.frz⟩
theorem Went.drew {M M1:Mem} {w w1:World} (h:Went M w M1 w1):Went M w M1 w1.drew:=⟨⟨h.on.size,h.on.same⟩,h.le,⟨h.grew.tape,h.grew.os,h.grew.output,h.grew.size⟩,h.old,h.frz⟩
theorem Went.set {M M1:Mem} {w w1:World} (h:Went M w M1 w1) {p off:Nat} (v:Value) (hp:w.heap.size≤p) (hz:¬ (p<M1.heap.size∧M1.frz p)):Went M w M1 (w1.setCell ⟨p,off,none⟩ v):=by
 refine⟨⟨by rw [set_size]; exact h.on.size,fun b hb hf => ?_⟩,h.le,h.grew.trans (grew_set _ _ _),fun b hb => ?_,h.frz⟩
 ·rw [set_other _ _ _ _ (show b≠p from fun e=>hz (e ▸ ⟨hb,hf⟩)),h.on.same b hb hf]
 ·rw [set_other _ _ _ _ (show b≠p from by omega),h.old b hb]
theorem Went.quiet {M M1:Mem} {w w1 w2:World} (h:Went M w M1 w1) (hg:Grew w1 w2) (hs:∀ b,b<w1.heap.size→w2.heap[b]? = w1.heap[b]?):Went M w M1 w2:=
 ⟨⟨Nat.le_trans h.on.size hg.size,fun b hb hz=>by rw [hs b (Nat.lt_of_lt_of_le hb h.on.size),h.on.same b hb hz]⟩,h.le,h.grew.trans hg,fun b hb=>by rw [hs b (Nat.lt_of_lt_of_le hb h.lt),h.old b hb],h.frz⟩
theorem Went.ret {M M1 M2:Mem} {w w1 w2:World} (h:Went M w M1 w1) (hg:Grew w1 w2) (hs:∀ b,b<w1.heap.size→w2.heap[b]? = w1.heap[b]?) (hh:M2.heap=w2.heap) (hl:M1.Le M2)
  (hz:∀ b,M2.frz b→(b<M1.heap.size∧M1.frz b)∨(w1.heap.size≤b∧b<w2.heap.size)):Went M w M2 w2:=
 ⟨⟨Nat.le_of_eq (by rw [hh]),fun b _ _=>by rw [hh]⟩,h.le.trans hl,h.grew.trans hg,fun b hb=>by rw [hs b (Nat.lt_of_lt_of_le hb h.lt),h.old b hb],fun b hb hf=>by
  rcases hz b hf with⟨h1,h2⟩ | ⟨h1,_⟩
  ·exact h.frz b h1 h2
  ·exact .inr (Nat.le_trans h.lt h1)⟩
theorem own_ret {M1 M2:Mem} {w1 w2:World} {p:Nat} (hp:p<w1.heap.size) (hn:¬ (p<M1.heap.size∧M1.frz p)) (hz:∀ b,M2.frz b→(b<M1.heap.size∧M1.frz b)∨(w1.heap.size≤b∧b<w2.heap.size)):¬ (p<M2.heap.size∧M2.frz p):=fun⟨_,h⟩=>by
 rcases hz p h with h | ⟨h,_⟩
 ·exact hn h
 ·omega
theorem Went.own {M M1:Mem} {w w1:World} (h:Went M w M1 w1) {p:Nat} (hp:w1.heap.size≤p):¬ (p<M1.heap.size∧M1.frz p):=fun⟨h1,_⟩=>by
 have:=h.on.size
 omega
theorem two_0 (w:World) (o o':Obj):((w.alloc o).alloc o').heap[w.heap.size]? = some o:=by
 rw [same_alloc _ _ _ (by rw [size_alloc]; omega),new_alloc]
theorem two_1 (w:World) (o o':Obj):((w.alloc o).alloc o').heap[w.heap.size+1]? = some o':=by
 rw [← size_alloc w o,new_alloc]
theorem quiet_old {w1 w2:World} (hs:∀ b,b<w1.heap.size→w2.heap[b]? = w1.heap[b]?) {b:Nat} {o:Obj} (h:w1.heap[b]? = some o):w2.heap[b]? = some o:=(hs b (Array.getElem?_eq_some_iff.1 h).1).trans h
theorem box6 {w:World} {b t:Nat} {x0 x1 x2 x3 x4 x5:Value} (h:w.heap[b]? = some (.cells #[x0,x1,x2,x3,x4,x5] t (0,0))) :
  (w.cell? ⟨b,0,none⟩=some x0∧w.cell? ⟨b,1,none⟩=some x1∧w.cell? ⟨b,2,none⟩=some x2∧w.cell? ⟨b,3,none⟩=some x3∧w.cell? ⟨b,4,none⟩=some x4∧w.cell? ⟨b,5,none⟩=some x5) ∧
   w.frozen? ⟨b,0,none⟩=false∧w.frozen? ⟨b,1,none⟩=false∧w.frozen? ⟨b,2,none⟩=false∧w.frozen? ⟨b,3,none⟩=false∧w.frozen? ⟨b,4,none⟩=false∧w.frozen? ⟨b,5,none⟩=false:=by
 refine⟨⟨?_,?_,?_,?_,?_,?_⟩,?_,?_,?_,?_,?_,?_⟩
 all_goals first | (unfold World.cell?; simp only [h]; rfl) | (unfold World.frozen?; simp only [h]; rfl)
end Go.Proofs.YtkjinnjopoehhaaGreatDoor
namespace Go.Proofs.YtkjinnjopoehhaaGreatDoor
open Go.RowKit Go Ev Klp
noncomputable def rest53:Code:=sq2 (sq2 (bodyOf Tryz.f7))
def oneP:Poly:=Poly.add (P0 13) [([],1)]
def flP (half:Bool) (l:Nat):Poly:=Poly.add (htP half l) (Poly.scl (-1) oneP)
def tabMq (half:Bool):List SE:=((List.range 6).map fun j=>SE.int .i8 (P0 j))++((List.range 6).map fun j=>SE.int .i64 (P0 j))++((List.range 6).map fun j=>SE.int .i64 (P0 (6+j)))++((List.range 6).map fun j=>SE.num ⟨htP half j,2⟩)++(List.range 8).map .opq ++
 [.int .u8 (P0 12),.int .u8 (P0 13),.int .i64 (P0 13),.int .i64 oneP,.num ⟨oneP,2⟩,.num ⟨Poly.scl (-1) oneP,2⟩,.opq 0,.opq 0]++((List.range 6).map fun l=>SE.num ⟨flP half l,2⟩)++[.opq 8]
def bdMq:List Iv:=List.replicate 6 (-128,127)++List.replicate 6 (-19,19)++[(0,255),(0,5)]
def remsMq:List (Poly × Nat × Poly):=((List.range 6).map fun j=>(P0 j,20,P0 (6+j)))++[(P0 12,6,P0 13)]
noncomputable def cxMq (np:Nat) (half:Bool):CX:=⟨T.ofList .e 0 (tabMq half),T.ofList .e 0 bdMq,[],remsMq,[(24,np)]⟩
def binsMq:List BinRow:=((List.range 6).map fun j=>⟨.rem,syC (6+j),.int .i64 20,syC (12+j)⟩)++[⟨.rem,syC 32,.int .u8 6,syC 33⟩,⟨.add,.int .i64 1,syC 34,syC 35⟩]
def convsMq:List ConvRow:=((List.range 6).map fun j=>⟨j,.i64,syC (6+j)⟩)++[⟨33,.i64,syC 34⟩]
noncomputable def rowsMq (half:Bool):Rows:=(((T.e:Rows).set 22 (bq (((List.range 6).map fun j=>([syC (12+j),.int .i64 (cond half 2 1)],syC (18+j)))++[([syC 35,.int .i64 2],syC 36)]))).set 43 (bq [([syC 36],syC 37)])).set
 42 (bq ((List.range 6).map fun l=>([syC (18+l),syC 37],syC (40+l))))
def rmE (np l:Nat):RM:=⟨[.slice 64 0 np (2*np+1)],[.cells ((List.range np).map fun j=>syC (18+j)) 45 1 false],.tup [syC (18+l),syC 46],[(64,.cells ((List.range np).map fun j=>syC (18+j)) 45 1 false)],0⟩
noncomputable def kitMq (np:Nat) (half:Bool) (l:Nat):Kit:=⟨cxMq np half,binsMq,convsMq,rowsMq half,.e,flatK [(20,rmE np l)],.e,⟨[],[],[]⟩⟩
def planMq (half:Bool):List V:=[syC 27,syC 28,syC 29,syC 30,syC 31,syC 0,syC 1,syC 2,syC 3,syC 4,syC 5,.bool half,syC 32]
def modZ:List V:=[.nils,.nils,.str [],.nils,.nils,.str []]
def histMq:List V:=[syC 24,syC 25,.str baseB,syC 26]
def boxesMq (half:Bool):List (List V × Nat):=[(histMq,42),(planMq half,33),(modZ,47)]
noncomputable def sMq (half:Bool):S:={ t:=((T.e.set 1 (.ptr 65 0)).set 2 (.ptr 66 0)).set 3 (.ptr 64 0),h:=boxH 64 (boxesMq half),nx:=67,m:=[] }
noncomputable def okMq (np:Nat) (half:Bool) (l:Nat) (r:R3):Bool:=
 match r.1 with
 | .agg [a,b,c,d,.slice n 0 k cap,f]=>V.eqL [a,b,c,d,f] (histMq++[syC (40+l)])&&Nat.beq k np&&Nat.ble k (cap/2)&&(match r.2.1.get n with
  | some (.cells cs _ _ _)=>numsEq (cxMq np half) ((List.range np).map fun j=>⟨htP half j,2⟩) cs
  | _=>false)
 | _=>false
noncomputable def runMq (np:Nat) (half:Bool) (l:Nat):Bool:=(kitMq np half l).chk&&(match tailRun (kitMq np half l).tab 10000 60 Tryz.f7 rest53 (sMq half) with
 | some rs=>rs.all (okMq np half l)
 | none=>false)
noncomputable def knMq (np:Nat) (half:Bool):Bool:=tabHas (T.ofList .e 0 (tabMq half)) 0 ((List.range 6).map fun j=>SE.int .i8 (P0 j))&&tabHas (T.ofList .e 0 (tabMq half)) 24 ((List.range 8).map .opq++[.int .u8 (P0 12)])&&numsEq (cxMq np half) ((List.range 6).map fun l=>⟨flP half l,2⟩) ((List.range 6).map fun l=>syC (40+l)) &&
 numsEq (cxMq np half) ((List.range 6).map fun l=>⟨htP half l,2⟩) ((List.range 6).map fun l=>syC (18+l))
set_option maxRecDepth 100000
theorem knMq_all:([3,4,5,6].all fun np=>allB (knMq np))=true:=by kernel_rfl
theorem runMq_all:([3,4,5,6].all fun np=>allB fun half=>(List.range np).all (runMq np half))=true:=by kernel_rfl
theorem rest53_dst:dstOk 33 rest53=true:=by kernel_rfl
def xMq (hv:Nat→Int) (dn:Int) (v:Nat):Int:=(([hv 0,hv 1,hv 2,hv 3,hv 4,hv 5,(hv 0).tmod 20,(hv 1).tmod 20,(hv 2).tmod 20,(hv 3).tmod 20,(hv 4).tmod 20,(hv 5).tmod 20,dn,dn.tmod 6]:List Int)[v]?).getD 0
theorem xMq_h (hv:Nat→Int) (dn:Int) {i:Nat} (h:i<6):xMq hv dn i=hv i∧xMq hv dn (6+i)=(hv i).tmod 20:=by
 have:i=0∨i=1∨i=2∨i=3∨i=4∨i=5:=by omega
 rcases this with rfl | rfl | rfl | rfl | rfl | rfl <;> exact⟨rfl,rfl⟩
theorem ev_htP (hv:Nat→Int) (dn:Int) (half:Bool) {i:Nat} (h:i<6):Poly.ev (xMq hv dn) (htP half i)=zT half hv i:=by
 simp only [htP,Poly.ev,Poly.evM,(xMq_h hv dn h).2,zT,Int.mul_one,Int.add_zero]
theorem ev_flP (hv:Nat→Int) (dn:Int) (half:Bool) {l:Nat} (h:l<6):Poly.ev (xMq hv dn) (flP half l)=zT half hv l-(1+dn.tmod 6):=by
 have e:xMq hv dn 13=dn.tmod 6:=rfl
 simp only [flP,oneP,Poly.ev_add,Poly.ev_scl,ev_htP hv dn half h,ev_P0,e]
 show _ + -1*(_+(1*1+0))=_
 omega
def olMq (m0 m1 sv:Value) (pl:List Value) (hi:Value):List Value:=m0::m1::sv::(pl++[hi])
theorem zT_bd {half:Bool} {hv:Nat→Int} (i:Nat) : -38≤zT half hv i∧zT half hv i≤38:=by
 have h : -19≤(hv i).tmod 20∧(hv i).tmod 20≤19:=tmod_rg (z:=hv i) (n:=20) (by omega)
 unfold zT
 cases half <;> simp only [cond_true,cond_false] <;> omega
theorem ends_rm {B:Base} (hgB:Good B.toMem) {np:Nat} (hn:np∈[3,4,5,6]) {z:Nat→Int} (hz:∀ i,i<6 → -38≤z i∧z i≤38) (hs:∀ E,StatOk B E → ∀ i,i<6→VR E (syC (18+i)) (qV (z i) 2)) (h46:∀ E,StatOk B E→VR E (syC 46) (qV (z (hiE np z)) 2)) :
  RmOk Tryz.prog B 20 (rmE np (lowE np z)):=by
 have h6:np≤6:=by simp only [List.mem_cons,List.not_mem_nil,or_false] at hn; omega
 intro E w xs ho hx
 obtain⟨y0,r0,rfl,⟨i,hi,rfl⟩,hn0⟩:=hx
 rw [show r0=[] from hn0]
 have hg:(T.ofList .e 64 (rmE np (lowE np z)).sub:T O).get 64=some (.cells ((List.range np).map fun j=>syC (18+j)) 45 1 false):=by
  rw [T.get_ofList]; rfl
 obtain⟨i',hi',hu,rc,fr,f1,f2,f3,zs,rest,hzs,hrc⟩:=ho.rel.obj _ _ hg
 rw [hi] at hi'; cases hi'
 have hz2:zs=htsR np z:=VRL.det _ _ _ hzs (VRL.of_get (by simp [htsR]) fun k v y h1 h2=>by
  have hk:k<np:=by
   have:=(List.getElem?_eq_some_iff.1 h1).1
   simpa using this
  rw [List.getElem?_map,List.getElem?_range hk,Option.map_some,Option.some.injEq] at h1
  simp only [htsR,List.getElem?_map,List.getElem?_range hk,Option.map_some,Option.some.injEq] at h2
  subst h1; subst h2
  exact hs E ho.sym k (by omega))
 let M2:Mem:=⟨w.heap,fun _=>True⟩
 have hle:B.toMem.Le M2:=⟨ho.inv.size,fun b hb hz=>⟨trivial,ho.inv.same b hb hz⟩⟩
 have hc:np≤capOf i 0 (2*np+1):=by
  unfold capOf
  rw [if_neg (by omega)]
  exact Nat.le_trans (by omega) (Nat.le_max_left _ _)
 obtain⟨⟨hl,_⟩,_,hcall,_⟩:=ends_at (hgB.le hle) hn hz (tv:=slV i.blk np (capOf i 0 (2*np+1))) ⟨i.blk,_,rfl,hc,trivial,rc,_,fr,rest,f1,by rw [hrc,hz2]⟩
 refine Calls.mono (hcall w (Nat.le_refl _) fun _ _ _=>rfl) ?_
 rintro e w' ⟨rfl,hgr,hsm⟩
 exact⟨_,rfl,E,_,⟨_,VRL.cons (hs E ho.sym _ (by omega)) (VRL.cons (h46 E ho.sym) VRL.nil),rfl⟩,Step.quiet ho.rel ho.fresh hgr hsm,fun p hp=>by rw [List.mem_singleton.1 hp]; exact hg⟩
section
variable {M1:Mem} (hg:Good M1) {np:Nat} (hn:np∈[3,4,5,6]) {half:Bool} {b0 c0:Nat} {m1 sv:Value} (hm1:oneV m1) (hsv:oneV sv) {hv:Nat→Int} (hh:HeightsOk hv) {dn:Int} (hdn:0≤dn∧dn≤255)
include hg hn hm1 hsv hh hdn
set_option maxHeartbeats 2000000 in
theorem make53_tail {pl:List Value} (hpl:pl.length=5) (hp1:∀ x∈pl,oneV x) {M:Mem} {w w1:World} {a:Act} {p1 p2 p3:Nat} (hon:M1.On w1) (ts:a.tmps.size=33)
  (t1_:a.tmps[1]? = some (.pointer (some ⟨p1,0,none⟩))) (t2_:a.tmps[2]? = some (.pointer (some ⟨p2,0,none⟩))) (t3_:a.tmps[3]? = some (.pointer (some ⟨p3,0,none⟩))) (hdf:a.defers=[])
  (h1:w1.heap[p1]? = some (.cells (pl++[Value.int .i8 (hv 0),.int .i8 (hv 1),.int .i8 (hv 2),.int .i8 (hv 3),.int .i8 (hv 4),.int .i8 (hv 5),.bool half,.int .u8 dn]).toArray 33 (0,0)))
  (h2:w1.heap[p2]? = some (.cells #[.slice none 0 0,.slice none 0 0,.string ⟨#[]⟩,.slice none 0 0,.slice none 0 0,.string ⟨#[]⟩] 47 (0,0)))
  (h3:w1.heap[p3]? = some (.cells #[slV b0 np c0,m1,strB baseB,sv] 42 (0,0))) (n12:p1≠p2) (n13:p1≠p3) (n23:p2≠p3)
  (z1:¬ (p1<M1.heap.size∧M1.frz p1)) (z2:¬ (p2<M1.heap.size∧M1.frz p2)) (z3:¬ (p3<M1.heap.size∧M1.frz p3)) (hle:M.Le M1) (hfrz:∀ b,M1.frz b→(b<M.heap.size∧M.frz b)∨(w.heap.size≤b∧b<w1.heap.size))
  (hgr:Grew w w1) (hfr:∀ b,b<w.heap.size→w1.heap[b]? = w.heap[b]?) (q1_:w.heap.size≤p1) (q2_:w.heap.size≤p2) (q3_:w.heap.size≤p3) :
  rest53.wp Tryz.prog (bodyPost Tryz.prog Tryz.f7 (RetM M w fun y M' => ∃ tv l,y = .agg #[slV b0 np c0,m1,strB baseB,sv,tv,qV (zT half hv l-(1+dn.tmod 6)) 2]∧M1.Le M'∧TerrRaw M' np (zT half hv) tv∧l<np ∧ ∀ k,k<np→zT half hv l≤zT half hv k)) a w1:=by
 have h36:3≤np∧np≤6:=by simp only [List.mem_cons,List.not_mem_nil,or_false] at hn; omega
 have hkn:=allB_ok (List.all_eq_true.1 knMq_all np hn) half
 have hzb:∀ i,i<6 → -38≤zT half hv i∧zT half hv i≤38:=fun i _=>zT_bd i
 obtain⟨m1_,m2_,m3_,m4_⟩:=endE_min (zT half hv) (np-1) 1 0 0
 obtain⟨l,hll⟩:∃ l,l=lowE np (zT half hv):=⟨_,rfl⟩
 have hl:l<np:=by rw [hll]; unfold lowE; omega
 have hmin:∀ k,k<np→zT half hv l≤zT half hv k:=fun k hk=>by
  rw [hll]; unfold lowE
  by_cases k0:k=0
  ·rw [k0]; exact m1_
  ·exact m2_ k (by omega) (by omega)
 have hrun:=List.all_eq_true.1 (allB_ok (List.all_eq_true.1 runMq_all np hn) half) l (List.mem_range.2 hl)
 simp only [knMq,Bool.and_eq_true] at hkn
 obtain⟨⟨⟨k1,k2⟩,k3⟩,k4⟩:=hkn
 simp only [runMq,Bool.and_eq_true] at hrun
 obtain⟨hchk,hrun⟩:=hrun
 let x:=xMq hv dn
 let ol:=olMq (slV b0 np c0) m1 sv pl (qV (zT half hv (hiE np (zT half hv))) 2)
 let o:Nat→Value:=fun j=>(ol[j]?).getD .nilFunc
 have oo:∀ j,oneV (o j):=fun j=>by
  show oneV ((ol[j]?).getD .nilFunc)
  cases h:ol[j]? with
  | none=>trivial
  | some y=>
   have hy:=List.mem_of_getElem? h
   simp only [ol,olMq,List.mem_cons,List.mem_append,List.not_mem_nil,or_false] at hy
   rcases hy with rfl | rfl | rfl | hy | rfl
   ·trivial
   ·exact hm1
   ·exact hsv
   ·exact hp1 _ hy
   ·trivial
 obtain⟨l0,l1,l2,l3,l4,rfl⟩:∃ a b c d e,pl=[a,b,c,d,e]:=by
  match pl,hpl with
  | [a,b,c,d,e],_=>exact⟨a,b,c,d,e,rfl⟩
 let B:Base:={ toMem:=M1,sym:=symX x o (T.ofList .e 0 (tabMq half)) }
 have hone:∀ i,oneV (B.sym i):=fun i=>symX_one oo i
 have so:∀ j,j<8→B.sym (24+j)=o j:=fun j hj=>by
  obtain⟨e,he,hs⟩:=tabHas_get k2 j (.opq j) (by rw [List.getElem?_append_left (by simpa using hj),List.getElem?_map,List.getElem?_range hj]; rfl)
  exact symX_opq he hs
 have hC:CXOk B x o (cxMq np half):=by
  refine⟨fun _ _ _=>rfl,fun v => ?_,fact_nil x,(fun r hr => ?_),(fun q hq => ?_),oo,hg.pow _ _,hg.tabs⟩
  ·have t:=fun z:Int=>tmod_rg (z:=z) (n:=20) (by omega)
   have s:=hh.small
   refine bd_of (l:=bdMq) ?_ v
   exact⟨s 0 (by omega),s 1 (by omega),s 2 (by omega),s 3 (by omega),s 4 (by omega),s 5 (by omega),t _,t _,t _,t _,t _,t _,hdn,tmod_rn (n:=6) (by omega) hdn.1,trivial⟩
  ·have hr:r∈remsMq:=hr
   simp only [remsMq,List.mem_append,List.mem_map,List.mem_range,List.mem_cons,List.not_mem_nil,or_false] at hr
   rcases hr with⟨j,hj,rfl⟩ | rfl
   ·simp only [ev_P0]
    show (xMq hv dn j).tmod 20=xMq hv dn (6+j)
    rw [(xMq_h hv dn hj).1,(xMq_h hv dn hj).2]
   ·simp only [ev_P0]; rfl
  ·have hq:q∈[(24,np)]:=hq
   rw [List.mem_singleton.1 hq]
   exact⟨_,c0,by rw [show B.sym 24=o 0 from so 0 (by omega)]; rfl⟩
 have si:∀ j,j<6→B.sym j = .int .i8 (hv j):=fun j hj=>by
  obtain⟨e,he,hs⟩:=tabHas_get k1 j (.int .i8 (P0 j)) (by rw [List.getElem?_map,List.getElem?_range hj]; rfl)
  rw [Nat.zero_add] at he
  show symX x o (T.ofList .e 0 (tabMq half)) j=_
  rw [symX_int he hs,ev_P0]
  exact congrArg (Value.int .i8) (xMq_h hv dn hj).1
 have sd:B.sym 32 = .int .u8 dn:=by
  obtain⟨e,he,hs⟩:=tabHas_get k2 8 (.int .u8 (P0 12)) rfl
  show symX x o (T.ofList .e 0 (tabMq half)) (24+8)=_
  rw [symX_int he hs,ev_P0]; rfl
 have s46:B.sym 46=qV (zT half hv (hiE np (zT half hv))) 2:=by
  show symX x o (T.ofList .e 0 (tabMq half)) 46=_
  have e:(T.ofList .e 0 (tabMq half):T SE).get 46=some (.opq 8):=by
   rw [T.get_ofList,if_pos ⟨Nat.zero_le _,by simp [tabMq]⟩]; rfl
  rw [symX_get e]; rfl
 have vy:∀ E,StatOk B E → ∀ {i:Nat} {v:Value},B.sym i=v→VR E (syC i) v:=fun E hE i v h=>by show v=E.sym i; rw [hE.sym,h]
 have vh:∀ E,StatOk B E → ∀ i,i<6→VR E (syC (18+i)) (strV (canon (Num.val x ⟨htP half i,2⟩))):=fun E hE i hi=>by
  have h:=numsEq_ok hC hE k4
  have hl:=(VRL.get h (i:=i) (v:=syC (18+i)) (by rw [List.getElem?_map,List.getElem?_range hi]; rfl))
  obtain⟨y,hy,hv'⟩:=hl
  rw [List.getElem?_map,List.getElem?_map,List.getElem?_range hi] at hy
  cases hy
  exact hv'
 have vf:∀ E,StatOk B E→VR E (syC (40+l)) (qV (zT half hv l-(1+dn.tmod 6)) 2):=fun E hE=>by
  have h:=numsEq_ok hC hE k3
  obtain⟨y,hy,hv'⟩:=VRL.get h (i:=l) (v:=syC (40+l)) (by rw [List.getElem?_map,List.getElem?_range (by omega)]; rfl)
  rw [List.getElem?_map,List.getElem?_map,List.getElem?_range (by omega)] at hy
  cases hy
  have e:strV (canon (Num.val x ⟨flP half l,2⟩))=qV (zT half hv l-(1+dn.tmod 6)) 2:=by
   unfold qV Num.val
   rw [ev_flP hv dn half (by omega)]
  exact e ▸ hv'
 have vq:∀ E,StatOk B E → ∀ i,i<6→VR E (syC (18+i)) (qV (zT half hv i) 2):=fun E hE i hi=>by
  have h:=vh E hE i hi
  have e:strV (canon (Num.val x ⟨htP half i,2⟩))=qV (zT half hv i) 2:=by
   unfold qV Num.val
   rw [ev_htP hv dn half hi]
  exact e ▸ h
 have hkp:AllK B [(20,rmE np l)]:=AllK.cons (by rw [hll]; exact ends_rm (B:=B) hg hn hzb vq fun E hE=>vy E hE s46) AllK.nil
 have hK:KitOk B x o (kitMq np half l):=⟨hC,(fun f args v hv=>by simp [kitMq,primOf,T.get_e] at hv),(fun f es he e hm=>flatK_ok hkp f es he e hm),(fun n cs' hn'=>by simp [kitMq,T.get_e] at hn'),(fun p hp=>by cases hp),(fun p hp=>by cases hp),(fun p hp=>by cases hp)⟩
 have vH:∀ E,StatOk B E→VRL E histMq [slV b0 np c0,m1,strB baseB,sv]:=fun E hE=>VRL.cons (vy E hE (so 0 (by omega))) (VRL.cons (vy E hE (so 1 (by omega))) (VRL.cons rfl (VRL.cons (vy E hE (so 2 (by omega))) VRL.nil)))
 let bs:List Box:=[⟨p3,histMq,[slV b0 np c0,m1,strB baseB,sv],42⟩,
  ⟨p1,planMq half,[l0,l1,l2,l3,l4]++[.int .i8 (hv 0),.int .i8 (hv 1),.int .i8 (hv 2),.int .i8 (hv 3),.int .i8 (hv 4),.int .i8 (hv 5),.bool half,.int .u8 dn],33⟩,
  ⟨p2,modZ,[.slice none 0 0,.slice none 0 0,.string ⟨#[]⟩,.slice none 0 0,.slice none 0 0,.string ⟨#[]⟩],47⟩]
 have hbs:BoxesOk B w1 bs:=by
  refine⟨hon,fun b hb => ?_,fun b hb E hE => ?_,fun i j x y hi hj he => ?_,fun b hb => ?_⟩
  ·simp only [bs,List.mem_cons,List.not_mem_nil,or_false] at hb
   rcases hb with rfl | rfl | rfl
   ·exact h3
   ·exact h1
   ·exact h2
  ·simp only [bs,List.mem_cons,List.not_mem_nil,or_false] at hb
   rcases hb with rfl | rfl | rfl
   ·exact vH E hE
   ·exact VRL.cons (vy E hE (so 3 (by omega))) (VRL.cons (vy E hE (so 4 (by omega))) (VRL.cons (vy E hE (so 5 (by omega))) (VRL.cons (vy E hE (so 6 (by omega))) (VRL.cons (vy E hE (so 7 (by omega))) (VRL.cons (vy E hE (si 0 (by omega))) (VRL.cons (vy E hE (si 1 (by omega))) (VRL.cons (vy E hE (si 2 (by omega))) (VRL.cons (vy E hE (si 3 (by omega))) (VRL.cons (vy E hE (si 4 (by omega))) (VRL.cons (vy E hE (si 5 (by omega))) (VRL.cons rfl (VRL.cons (vy E hE sd) VRL.nil))))))))))))
   ·exact VRL.cons rfl (VRL.cons rfl (VRL.cons rfl (VRL.cons rfl (VRL.cons rfl (VRL.cons rfl VRL.nil)))))
  ·match i,j,hi,hj with
   | 0,0,_,_ | 1,1,_,_ | 2,2,_,_=>rfl
   | 0,1,hi,hj=>simp [bs] at hi hj; subst hi; subst hj; exact absurd he.symm n13
   | 0,2,hi,hj=>simp [bs] at hi hj; subst hi; subst hj; exact absurd he.symm n23
   | 1,0,hi,hj=>simp [bs] at hi hj; subst hi; subst hj; exact absurd he n13
   | 1,2,hi,hj=>simp [bs] at hi hj; subst hi; subst hj; exact absurd he n12
   | 2,0,hi,hj=>simp [bs] at hi hj; subst hi; subst hj; exact absurd he n23
   | 2,1,hi,hj=>simp [bs] at hi hj; subst hi; subst hj; exact absurd he.symm n12
   | n+3,_,hi,_=>simp [bs] at hi
   | 0,n+3,_,hj | 1,n+3,_,hj | 2,n+3,_,hj=>simp [bs] at hj
  ·simp only [bs,List.mem_cons,List.not_mem_nil,or_false] at hb
   rcases hb with rfl | rfl | rfl
   ·exact z3
   ·exact z1
   ·exact z2
 have hok:=boxes_ok (h:=hone) hbs
 have hfoot:∀ b,Foot (boxE B hone bs) (sMq half).h.get b→b=p1∨b=p2∨b=p3:=by
  intro b hf
  obtain⟨x,hx,rfl⟩:=boxes_foot (l:=bs) hf
  simp only [bs,List.mem_cons,List.not_mem_nil,or_false] at hx
  rcases hx with rfl | rfl | rfl
  ·exact .inr (.inr rfl)
  ·exact .inl rfl
  ·exact .inr (.inl rfl)
 have htr:TR (boxE B hone bs) (sMq half).t a.tmps:=by
  intro k v hk
  have hk:(((T.e.set 1 (V.ptr 65 0)).set 2 (.ptr 66 0)).set 3 (.ptr 64 0)).get k=some v:=hk
  rw [T.get_set] at hk
  by_cases c3:k=3
  ·rw [if_pos c3] at hk; cases hk; subst c3; exact⟨_,t3_,_,boxE_at (j:=0) rfl,rfl⟩
  ·rw [if_neg c3,T.get_set] at hk
   by_cases c2:k=2
   ·rw [if_pos c2] at hk; cases hk; subst c2; exact⟨_,t2_,_,boxE_at (j:=2) rfl,rfl⟩
   ·rw [if_neg c2,T.get_set] at hk
    by_cases c1:k=1
    ·rw [if_pos c1] at hk; cases hk; subst c1; exact⟨_,t1_,_,boxE_at (j:=1) rfl,rfl⟩
    ·rw [if_neg c1,T.get_e] at hk; cases hk
 split at hrun
 ·rename_i rs hrs
  refine tail_wp (kitMq np half l).tabOk ((kitMq np half l).fnOk hK hchk) hrs hok htr rfl hdf (by rw [ts]; exact rest53_dst) fun r hr y E' w' hx hst => ?_
  have hro:=List.all_eq_true.1 hrun r hr
  have hok':=hok.step hst
  let M':Mem:=⟨w'.heap,fun b=>(b<M1.heap.size∧M1.frz b)∨Foot E' r.2.1.get b⟩
  have hM1:M1.Le M':=⟨hok'.inv.size,fun b hb hz=>⟨.inl ⟨hb,hz⟩,hok'.inv.same b hb hz⟩⟩
  unfold okMq at hro
  split at hro
  ·rename_i va vb vc vd n k cap vf' hrv
   simp only [Bool.and_eq_true] at hro
   obtain⟨⟨⟨j1,j5⟩,j6⟩,j7⟩:=hro
   have j1:=V.eqL_eq _ _ j1
   have j5:=nbeq_true j5
   have j6:=nble_le j6
   rw [hrv] at hx
   obtain⟨xs,⟨y0,_,rfl,hy0,y1,_,rfl,hy1,y2,_,rfl,hy2,y3,_,rfl,hy3,tv,_,rfl,htv,u0,_,rfl,hu0,hxn⟩,rfl⟩:=hx
   rw [show _=[] from hxn]
   have hall:VRL E' (histMq++[syC (40+l)]) ([slV b0 np c0,m1,strB baseB,sv]++[qV (zT half hv l-(1+dn.tmod 6)) 2]):=(vH E' hok'.sym).append (VRL.cons (vf E' hok'.sym) VRL.nil)
   have hgot:VRL E' [va,vb,vc,vd,vf'] [y0,y1,y2,y3,u0]:=VRL.cons hy0 (VRL.cons hy1 (VRL.cons hy2 (VRL.cons hy3 (VRL.cons hu0 VRL.nil))))
   rw [j1] at hgot
   have heq:=VRL.det _ _ _ hgot hall
   split at j7
   ·rename_i cs' te ue ze hne
    obtain⟨ie,hie,rfl⟩:=htv
    obtain⟨ie',hie',hu,rc,fr,f1,f2,f3,xs,rest,hxs,hrc⟩:=hst.rel.obj _ _ hne
    rw [hie] at hie'; cases hie'
    have hnum:=numsEq_ok hC hok'.sym j7
    have hxs':=VRL.det _ _ _ hxs hnum
    have hts:((List.range np).map fun j=>(⟨htP half j,2⟩:Num)).map (fun e=>strV (canon (e.val x)))=htsR np (zT half hv):=by
     simp only [htsR,List.map_map]
     refine List.map_congr_left fun i hil => ?_
     have hil:=List.mem_range.1 hil
     simp only [Function.comp]
     unfold Num.val
     rw [ev_htP hv dn half (by omega)]; rfl
    rw [hts] at hxs'
    simp only [List.cons_append,List.nil_append,List.cons.injEq,and_true] at heq
    obtain⟨rfl,rfl,rfl,rfl,rfl⟩:=heq
    refine⟨_,M',rfl,hgr.trans hst.grew,fun b hb => ?_,rfl,hle.trans hM1,fun b hb => ?_,_,l,rfl,hM1,⟨ie.blk,capOf ie 0 cap,by rw [j5]; rfl,?_,.inr ⟨n,_,ie,hne,hie,rfl⟩,rc,te,fr,rest,f1,by rw [hrc,hxs']⟩,hl,hmin⟩
    ·rw [hst.frame b (Nat.lt_of_lt_of_le hb hgr.size) (fun hf=>by rcases hfoot b hf with rfl | rfl | rfl <;> omega),hfr b hb]
    ·rcases hb with⟨hb,hz⟩ | hb
     ·rcases hfrz b hz with h | ⟨h,h'⟩
      ·exact .inl h
      ·exact .inr ⟨h,Nat.lt_of_lt_of_le h' hst.grew.size⟩
     ·have hlt:b<w'.heap.size:=by
       obtain⟨n,o,i,hn,hi,rfl⟩:=hb
       obtain⟨i',hi',hob⟩:=hst.rel.obj n o hn
       rw [hi] at hi'; cases hi'
       exact hob.lt
      refine .inr ⟨?_,hlt⟩
      rcases Nat.lt_or_ge b w1.heap.size with h | h
      ·rcases hfoot b (hst.foot b h hb) with rfl | rfl | rfl <;> omega
      ·exact Nat.le_trans hgr.size h
    ·rw [← j5]
     unfold capOf
     split
     ·exact j6
     ·exact Nat.le_trans j6 (Nat.le_max_left _ _)
   ·cases j7
  ·cases hro
 ·cases hrun
end
set_option maxHeartbeats 1000000 in
theorem make53_walk {M:Mem} {np nt n:Nat} {X:Value→Value→Mem→Prop} {k s0 s1:Int} {hf half:Bool} {ds:Value} {hv:Nat→Int} {dn:Int} {w:World} (hw:M.On w)
  (h30:∀ w,M.On w→Calls Tryz.prog 18 #[.agg #[.int .u8 k,.int .i8 s0,.int .i8 s1,.bool hf,ds]] w (RetM M w (Post30N np nt n X))) {QQ:Exit→Act→World→Prop}
  (hQ:∀ (M1:Mem) (b0 c0 b1 c1:Nat) (sv:Value) (p1 p2 p3:Nat) (a:Act) (w1:World),M1.On w1→a.tmps.size=33→a.tmps[1]? = some (.pointer (some ⟨p1,0,none⟩))→a.tmps[2]? = some (.pointer (some ⟨p2,0,none⟩))→a.tmps[3]? = some (.pointer (some ⟨p3,0,none⟩))→a.defers=[] →
   w1.heap[p1]? = some (.cells ([Value.int .u8 k,.int .i8 s0,.int .i8 s1,.bool hf,ds]++[Value.int .i8 (hv 0),.int .i8 (hv 1),.int .i8 (hv 2),.int .i8 (hv 3),.int .i8 (hv 4),.int .i8 (hv 5),.bool half,.int .u8 dn]).toArray 33 (0,0)) →
   w1.heap[p2]? = some (.cells #[.slice none 0 0,.slice none 0 0,.string ⟨#[]⟩,.slice none 0 0,.slice none 0 0,.string ⟨#[]⟩] 47 (0,0)) →
   w1.heap[p3]? = some (.cells #[slV b0 np c0,slV b1 nt c1,strB baseB,sv] 42 (0,0))→p1≠p2→p1≠p3→p2≠p3 → ¬ (p1<M1.heap.size∧M1.frz p1) → ¬ (p2<M1.heap.size∧M1.frz p2) → ¬ (p3<M1.heap.size∧M1.frz p3) →
   M.Le M1→(∀ b,M1.frz b→(b<M.heap.size∧M.frz b)∨(w.heap.size≤b∧b<w1.heap.size))→Grew w w1→(∀ b,b<w.heap.size→w1.heap[b]? = w.heap[b]?)→w.heap.size≤p1→w.heap.size≤p2→w.heap.size≤p3→(∃ a c,sv=Value.slice a n c) →
   CallOk Tryz.prog M1 52 [.agg #[slV b0 np c0,slV b1 nt c1]] (.int .i64 0)→X (slV b0 np c0) (slV b1 nt c1) M1 →
   HistR M1 (slV b0 np c0) (slV b1 nt c1) sv→rest53.wp Tryz.prog QQ a w1) :
  Code.wp Tryz.prog ((sq1 (bodyOf Tryz.f7)).seq ((sq1 (sq2 (bodyOf Tryz.f7))).seq rest53)) QQ
   { tmps := #[.agg #[.int .u8 k,.int .i8 s0,.int .i8 s1,.bool hf,ds,.int .i8 (hv 0),.int .i8 (hv 1),.int .i8 (hv 2),.int .i8 (hv 3),.int .i8 (hv 4),.int .i8 (hv 5),.bool half,.int .u8 dn]]++Array.replicate (33-1) undef,defers:=[] } w:=by
 have H30:=Lib.hid h30; clear h30
 have HQ:=Lib.hid hQ; clear hQ
 have HW:=Lib.hid hw; clear hw
 generalize rest53=rest at *
 simp only [sq1,sq2,bodyOf,Tryz.f7,Option.getD_some,List.size_toArray,List.length_cons,List.length_nil,Nat.reduceAdd,Nat.reduceSub,Array.replicate_succ,Array.replicate_zero,List.push_toArray,List.append_toArray,List.nil_append,List.cons_append]
 go_wp2_with fail
 refine (H30.out _ (On.alloc (On.alloc HW.out _) _)).mono ?_
 rintro e w' ⟨y,M1,rfl,hgr,hfr,hh,hle,hz,b0,c0,b1,c1,sv,rfl,h1v,hck,hX,hhist⟩
 obtain⟨sva,svc,rfl⟩:=h1v
 have HGR:=Lib.hid hgr; clear hgr
 have HFR:=Lib.hid hfr; clear hfr
 have HH:=Lib.hid hh; clear hh
 have HLE:=Lib.hid hle; clear hle
 have HZ:=Lib.hid hz; clear hz
 have HCK:=Lib.hid hck; clear hck
 have HX:=Lib.hid hX; clear hX
 have HS:=Lib.hid hhist; clear hhist
 unfold slV strB
 go_wp2_with fail
 have hgr:=HGR.out
 have hfr:=HFR.out
 have hh:=HH.out
 have hle:=HLE.out
 have hz:=HZ.out
 have hwo:=HW.out
 have sz:∀ (w:World) (o:Obj),(w.alloc o).heap.size=w.heap.size+1:=fun w o=>by rw [alloc_heap,Array.size_push]
 have old:∀ (w:World) (o:Obj) (b:Nat),b<w.heap.size→(w.alloc o).heap[b]? = w.heap[b]? := fun w o b hb=>by rw [alloc_heap,Array.getElem?_push,if_neg (Nat.ne_of_lt hb)]
 have new:∀ (w:World) (o:Obj),(w.alloc o).heap[w.heap.size]? = some o:=fun w o=>by rw [alloc_heap,Array.getElem?_push,if_pos rfl]
 have new2:∀ (w:World) (o o':Obj),((w.alloc o).alloc o').heap[w.heap.size+1]? = some o':=fun w o o'=>by
  have:=new (w.alloc o) o'
  rwa [sz] at this
 have hsz:=hgr.size
 rw [sz,sz] at hsz
 have hM1:M1.heap.size=w'.heap.size:=by rw [hh]
 have n1:¬ (w.heap.size<M1.heap.size∧M1.frz w.heap.size):=fun⟨_,h⟩=>by
  rcases hz _ h with⟨h,_⟩ | ⟨h,_⟩
  ·have:=hwo.size; omega
  ·rw [sz,sz] at h; omega
 have n2:¬ (w.heap.size+1<M1.heap.size∧M1.frz (w.heap.size+1)):=fun⟨_,h⟩=>by
  rcases hz _ h with⟨h,_⟩ | ⟨h,_⟩
  ·have:=hwo.size; omega
  ·rw [sz,sz] at h; omega
 refine HQ.out M1 b0 c0 b1 c1 _ w.heap.size (w.heap.size+1) w'.heap.size _ _ ?_ rfl rfl rfl rfl rfl ?_ ?_ ?_ (by omega) (by omega) (by omega) n1 n2 (by omega) hle ?_ ?_ ?_ (by omega) (by omega) (by omega) ⟨sva,svc,rfl⟩ HCK.out HX.out HS.out
 ·refine On.alloc ⟨by omega,fun b hb _=>by rw [hh]⟩ _
 ·rw [old _ _ _ (by omega),hfr _ (by rw [sz,sz]; omega),old _ _ _ (by rw [sz]; omega),new]
  rfl
 ·rw [old _ _ _ (by omega),hfr _ (by rw [sz,sz]; omega)]
  exact new2 _ _ _
 ·exact new _ _
 ·intro b hb
  rcases hz b hb with h | ⟨h,h'⟩
  ·exact .inl h
  ·rw [sz,sz] at h
   exact .inr ⟨by omega,by rw [sz]; omega⟩
 ·exact⟨hgr.tape,hgr.os,hgr.output,by rw [sz]; omega⟩
 ·intro b hb
  rw [old _ _ _ (by omega),hfr _ (by rw [sz,sz]; omega),old _ _ _ (by rw [sz]; omega),old _ _ _ hb]
theorem body53:Tryz.f7.body=some ((sq1 (bodyOf Tryz.f7)).seq ((sq1 (sq2 (bodyOf Tryz.f7))).seq rest53)):=rfl
def Post53 (np nt n:Nat) (X:Value→Value→Mem→Prop) (z:Nat→Int) (dn:Int) (y:Value) (M':Mem):Prop:=
 ∃ b0 c0 b1 c1 sv tv l,y = .agg #[slV b0 np c0,slV b1 nt c1,strB baseB,sv,tv,qV (z l-(1+dn.tmod 6)) 2]∧(∃ a c,sv=Value.slice a n c)∧CallOk Tryz.prog M' 52 [.agg #[slV b0 np c0,slV b1 nt c1]] (.int .i64 0)∧X (slV b0 np c0) (slV b1 nt c1) M' ∧
  HistR M' (slV b0 np c0) (slV b1 nt c1) sv∧TerrRaw M' np z tv∧l<np ∧ ∀ k,k<np→z l≤z k
def planQ (k s0 s1:Int) (hf half:Bool) (ds:Value) (hv:Nat→Int) (dn:Int):Value:=
 .agg #[.int .u8 k,.int .i8 s0,.int .i8 s1,.bool hf,ds,.int .i8 (hv 0),.int .i8 (hv 1),.int .i8 (hv 2),.int .i8 (hv 3),.int .i8 (hv 4),.int .i8 (hv 5),.bool half,.int .u8 dn]
theorem make53 {M:Mem} (hg:Good M) {np nt n:Nat} (hn:np∈[3,4,5,6]) {X:Value→Value→Mem→Prop} (hX:∀ m0 m1 M M',M.Le M'→X m0 m1 M→X m0 m1 M') {k s0 s1:Int} {hf half:Bool} {ds:Value} (hds:oneV ds) {hv:Nat→Int} (hh:HeightsOk hv) {dn:Int} (hdn:0≤dn∧dn≤255) {w:World} (hw:M.On w)
  (h30:∀ w,M.On w→Calls Tryz.prog 18 #[.agg #[.int .u8 k,.int .i8 s0,.int .i8 s1,.bool hf,ds]] w (RetM M w (Post30N np nt n X))) :
  Calls Tryz.prog 7 #[planQ k s0 s1 hf half ds hv dn] w (RetM M w (Post53 np nt n X (zT half hv) dn)):=by
 refine calls_of_wp Tryz.func7 body53 ?_
 refine make53_walk hw h30 (QQ:=bodyPost Tryz.prog Tryz.f7 (RetM M w (Post53 np nt n X (zT half hv) dn))) ?_
 intro M1 b0 c0 b1 c1 sv p1 p2 p3 a w1 hon ts t1 t2 t3 hdf h1 h2 h3 n12 n13 n23 z1 z2 z3 hle hz hgr hfr w1_ w2_ w3_ hsv hck hx hhist
 have hsv1:oneV sv:=by obtain⟨_,_,rfl⟩:=hsv; trivial
 have:=make53_tail (hg.le hle) hn (half:=half) (b0:=b0) (c0:=c0) (m1:=slV b1 nt c1) trivial hsv1 hh hdn (pl:=[.int .u8 k,.int .i8 s0,.int .i8 s1,.bool hf,ds]) rfl
  (by intro x hx; simp only [List.mem_cons,List.not_mem_nil,or_false] at hx; rcases hx with rfl | rfl | rfl | rfl | rfl <;> first | trivial | exact hds) hon ts t1 t2 t3 hdf h1 h2 h3 n12 n13 n23 z1 z2 z3 hle hz hgr hfr w1_ w2_ w3_
 refine wp_mono this fun e a w h=>bodyPost_mono ?_ h
 rintro e w' ⟨y,M',rfl,g1,g2,g3,g4,g5,tv,l,rfl,g6,g7,g8,g9⟩
 exact⟨_,M',rfl,g1,g2,g3,g4,g5,b0,c0,b1,c1,sv,tv,l,rfl,hsv,hck.le g6,hX _ _ _ _ g6 hx,hhist.le g6,g7,g8,g9⟩
end Go.Proofs.YtkjinnjopoehhaaGreatDoor
namespace Go.Proofs.YtkjinnjopoehhaaGreatDoor
open Go.RowKit Go Ev
theorem box2 {w:World} {b t:Nat} {x0 x1:Value} (h:w.heap[b]? = some (.cells #[x0,x1] t (0,0))):w.cell? ⟨b,0,none⟩=some x0∧w.cell? ⟨b,1,none⟩=some x1:=by
 refine⟨?_,?_⟩ <;> (unfold World.cell?; simp only [h]; rfl)
theorem wl_load {P:Program} {ops:Array Oper} {Q:Exit→Act→World→Prop} {a:Act} {w:World} {rest:List Oper} {o:Oper} {t k:Nat} {ad:Addr} {v:Value} (h:o.op = .load t (.tmp k)) (hw:Region.wanted o (yielded ops a.tmps)=true)
  (ha:a.eval (.tmp k) = .pointer (some ad)) (hl:(loadVar t ad).run P w = .ok v w) (hk:wpList P ops Q rest (a.put o.dst v) w):wpList P ops Q (o::rest) a w:=by
 refine Go.BigFrame.wpList_want hw fun K hK => ?_
 unfold Oper.wp execOp
 rw [h]
 simp only [ha,Instr.loadAt,Instr.sureAddr,Sem.run_bind,Sem.run_pure,Result.andThen_ok,hl]
 exact hK _ _ hk
theorem plan_load {w:World} {b t:Nat} {l:List Value} (hl:l.length=13) (h:w.heap[b]? = some (.cells l.toArray t (0,0))):(loadVar 33 ⟨b,0,none⟩).run Tryz.prog w = .ok (.agg l.toArray) w:=by
 have hT:=(tabOk:TabOk tb0 Tryz.prog)
 have ha:=isAgg_run hT (t:=33) (b:=true) (by decide) w
 have hs:=size_run hT (t:=33) (n:=13) (by decide) w
 have hld:=run_loadCells_list (P:=Tryz.prog) w ⟨b,0,none⟩ l (fun j y hj=>by
  rw [add_off,cell_of h,Nat.zero_add]
  simpa using hj)
 rw [hl] at hld
 simp [loadVar,ha,hs,hld]
theorem fits30_walk {k s0 s1:Int} {hf:Bool} {b:Option Addr} {n c:Nat} (w:World) :
  Calls Tryz.prog 17 #[.agg #[.int .u8 k,.int .i8 s0,.int .i8 s1,.bool hf,.slice b n c]] w (QuietP (.bool (decide ((n:Int)≤3))) w):=by
 go_enter Tryz.func17,Tryz.ntmps17
 go_wp2_with fail
 go_ret
 exact⟨rfl,grew_alloc _ _,same_alloc _ _⟩
theorem fitsQ_walk {k s0 s1:Int} {hf half:Bool} {b:Option Addr} {n c:Nat} {hv:Nat→Int} {dn:Int} (w:World) :
  Calls Tryz.prog 6 #[planQ k s0 s1 hf half (.slice b n c) hv dn] w (QuietP (.bool (decide ((n:Int)≤2))) w):=by
 unfold planQ
 go_enter Tryz.func6,Tryz.ntmps6
 by_cases h:(n:Int)≤2
 ·have H:=Lib.hid h
  go_wp2_with fail
  refine Calls.mono (fits30_walk _) ?_
  rintro e w2 ⟨rfl,hgr,hsm⟩
  have HG:=Lib.hid hgr; clear hgr
  have HS:=Lib.hid hsm; clear hsm
  go_wp2_with fail
  go_ret
  exact⟨by rw [decide_eq_true h,decide_eq_true (show (n:Int)≤3 by omega)]; rfl,(grew_alloc _ _).trans HG.out,fun b hb=>(HS.out b (by rw [size_alloc]; omega)).trans (same_alloc _ _ b hb)⟩
 ·have H:=Lib.hid h
  go_wp2_with fail
  go_ret
  exact⟨by rw [decide_eq_false (by omega)]; rfl,grew_alloc _ _,same_alloc _ _⟩
end Go.Proofs.YtkjinnjopoehhaaGreatDoor
