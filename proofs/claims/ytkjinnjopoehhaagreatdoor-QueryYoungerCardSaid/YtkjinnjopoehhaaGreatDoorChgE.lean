/-
  klippe/event.Check on events with a change: another kind, another name, a unit of a dike.
-/
import Derived.Test.YtkjinnjopoehhaaGreatDoorHistX
import Derived.Test.YtkjinnjopoehhaaGreatDoorDealR
import Derived.Test.YtkjinnjopoehhaaGreatDoorEvMemo
set_option linter.unusedSectionVars false
set_option linter.unusedVariables false
set_option linter.unusedSimpArgs false
namespace Go.Proofs.YtkjinnjopoehhaaGreatDoor
open Go Ev Klp
set_option maxRecDepth 10000
def oC (m0 m1:Value) (l:List (List Value)) (j:Nat):Value:=if j=384 then m0 else if j=385 then m1 else (((l[j/32]?).getD [])[j%32]?).getD .nilFunc
theorem symC {m0 m1:Value} {l:List (List Value)} {j:Nat} (hj:j<386):symX (fun _=>0) (oC m0 m1 l) cxC.tab j=oC m0 m1 l j:=by
 unfold symX cxC
 simp only [T.get_ofList]
 rw [if_pos (by simp; omega)]
 simp [hj]
theorem oC_ev {m0 m1:Value} {l:List (List Value)} {e j:Nat} {ls:List Value} (he:l[e]? = some ls) (h2:e<12) (hj:j<32):oC m0 m1 l (32*e+j)=(ls[j]?).getD .nilFunc:=by
 unfold oC
 rw [if_neg (by omega),if_neg (by omega),show (32*e+j)/32=e from by omega,show (32*e+j)%32=j from by omega,he]
 rfl
theorem leafsC_ok {M:Mem} {m:Value} {p:Nat} {t:Item} {ls:List Value} (h:EvC M m t ls) {E:Env} (hs:∀ j,j<32→E.sym (32*p+j)=(ls[j]?).getD .nilFunc)
  (hu:∀ b c,ls[3]? = some (.slice (some ⟨b,0,none⟩) (t.sh+1) c)→t.sh<3 → ∃ i,E.at_ (33+p)=some i∧i.blk=b∧capOf i 0 (2*(t.sh+1)+1)=c):VRL E (leafsC p t.e t.sh) ls:=by
 refine VRL.of_get (by simp [leafsC,h.len]) fun l v x h1 h2 => ?_
 have hl:l<32:=by
  have:=(List.getElem?_eq_some_iff.1 h2).1
  rw [h.len] at this; exact this
 have hv:v=leafC p t.e t.sh l:=by
  simp [leafsC,hl] at h1
  exact h1.symm
 subst hv
 have other:VR E (.sym (32*p+l)) x:=by
  show x=E.sym (32*p+l)
  rw [hs l hl,h2]; rfl
 unfold leafC
 by_cases c8:8≤t.sh
 ·rw [show Nat.ble 8 t.sh=true from Nat.ble_eq_true_of_le c8,cond_true]; exact other
 rw [show Nat.ble 8 t.sh=false from by rw [← Bool.not_eq_true]; exact fun hh=>c8 (nble_le hh),cond_false]
 have c8:t.sh<8:=by omega
 by_cases c0:l=0
 ·subst c0
  rw [show Nat.beq 0 0=true from rfl,cond_true]
  rw [h.kind c8] at h2; cases h2; rfl
 rw [nbeq_false c0,cond_false]
 by_cases c3:l=3
 ·subst c3
  rw [show Nat.beq 3 3=true from rfl,cond_true]
  by_cases hsh:t.sh<3
  ·rw [show Nat.blt t.sh 3=true from Nat.ble_eq_true_of_le hsh,cond_true]
   obtain⟨b,c,rc,u,fr,rest,g1,g2,gz,g3,g4⟩:=h.units hsh
   rw [g1] at h2; cases h2
   obtain⟨i,hi,hb,hc⟩:=hu b c g1 hsh
   exact⟨i,hi,by rw [hb,hc]⟩
  ·have:Nat.blt t.sh 3=false:=by rw [← Bool.not_eq_true]; exact fun hh=>hsh (nblt_lt hh)
   rw [this,cond_false]
   rw [h.nounits c8 hsh] at h2; cases h2; rfl
 rw [nbeq_false c3,cond_false]
 by_cases c24:l=24
 ·subst c24
  rw [show Nat.beq 24 24=true from rfl,cond_true]
  rw [h.dike c8] at h2; cases h2; rfl
 rw [nbeq_false c24,cond_false]
 exact other
def EvsC (M:Mem) (lss:List (List Value)) (sv:Value):Prop:=
 (lss=[]∧sv = .slice none 0 0)∨(lss≠[] ∧ ∃ b c rc t fr rest,sv = .slice (some ⟨b,0,none⟩) lss.length c∧lss.length≤c∧M.frz b∧M.heap[b]? = some (.cells rc t fr)∧rc.toList=lss.flatten++rest)
theorem EvsRaw.toC {M:Mem} {evs:List (Nat × List Value)} {sv:Value} (h:EvsRaw M evs sv):EvsC M (evs.map (·.2)) sv:=by
 rcases h with⟨rfl,h⟩ | ⟨h0,b,c,rc,t,fr,rest,h1,h2,hz,h3,h4⟩
 ·exact .inl ⟨rfl,h⟩
 ·exact .inr ⟨by simpa using h0,b,c,rc,t,fr,rest,by rw [List.length_map]; exact h1,by rw [List.length_map]; exact h2,hz,h3,h4⟩
theorem memoC_mem:∀ {l:List Item} {e:Nat} {p:List V × V},p∈memoC e l → ∃ k t z,l[k]? = some t∧t.res=some z∧p=([.agg meshC,.agg (leafsC (e+k) t.e t.sh)],.int .i64 z)
 | [],e,p,h=>by cases h
 | x::l,e,p,h=>by
  have recc:p∈memoC (e+1) l → ∃ k t z,(x::l)[k]? = some t∧t.res=some z∧p=([.agg meshC,.agg (leafsC (e+k) t.e t.sh)],.int .i64 z):=fun h=>by
   obtain⟨k,t,z,h1,h2,rfl⟩:=memoC_mem h
   exact⟨k+1,t,z,by simpa using h1,h2,by rw [show e+1+k=e+(k+1) from by omega]⟩
  unfold memoC at h
  split at h
  ·rename_i z hz
   rcases List.mem_cons.1 h with rfl | h
   ·exact⟨0,x,z,rfl,hz,rfl⟩
   ·exact recc h
  ·exact recc h
theorem memoU_mem:∀ {l:List Item} {e:Nat} {p:List V × V},p∈memoU e l → ∃ k t,l[k]? = some t∧t.sh=9∧p=([.agg (leafsC (e+k) t.e t.sh)],.nils)
 | [],e,p,h=>by cases h
 | x::l,e,p,h=>by
  rcases List.mem_append.1 h with h | h
  ·by_cases hx:x.sh=9
   ·rw [show Nat.beq x.sh 9=true from by rw [hx]; rfl,cond_true] at h
    exact⟨0,x,rfl,hx,List.mem_singleton.1 h⟩
   ·rw [nbeq_false hx,cond_false] at h; cases h
  ·obtain⟨k,t,h1,h2,rfl⟩:=memoU_mem h
   exact⟨k+1,t,by simpa using h1,h2,by rw [show e+1+k=e+(k+1) from by omega]⟩
theorem unitsC_mem:∀ {l:List Item} {e:Nat} {p:Nat × List V},p∈unitsC e l → ∃ k t,l[k]? = some t∧t.sh<3∧p=(33+(e+k),(unitsB t.e t.sh).map .str)
 | [],e,p,h=>by cases h
 | x::l,e,p,h=>by
  rcases List.mem_append.1 h with h | h
  ·by_cases hx:x.sh<3
   ·rw [show Nat.blt x.sh 3=true from Nat.ble_eq_true_of_le hx,cond_true] at h
    exact⟨0,x,rfl,hx,List.mem_singleton.1 h⟩
   ·have:Nat.blt x.sh 3=false:=by rw [← Bool.not_eq_true]; exact fun hh=>hx (nblt_lt hh)
    rw [this,cond_false] at h; cases h
  ·obtain⟨k,t,h1,h2,rfl⟩:=unitsC_mem h
   exact⟨k+1,t,by simpa using h1,h2,by rw [show e+1+k=e+(k+1) from by omega]⟩
theorem cellsC_ok {E:Env}:∀ {l:List Item} {ls:List (List Value)} {e:Nat},l.length=ls.length→(∀ (k:Nat) (t:Item) (x:List Value),l[k]? = some t→ls[k]? = some x→VRL E (leafsC (e+k) t.e t.sh) x)→VRL E (cellsC e l) ls.flatten
 | [],[],_,_,_=>rfl
 | [],_::_,_,h,_=>by simp at h
 | _::_,[],_,h,_=>by simp at h
 | t::l,x::ls,e,hl,h=>by
  simp only [cellsC,List.flatten_cons]
  exact (h 0 t x rfl rfl).append (cellsC_ok (by simpa using hl) fun k u y hu hy=>by rw [show e+1+k=e+(k+1) from by omega]; exact h (k+1) u y (by simpa using hu) (by simpa using hy))
theorem unitInfoC {M:Mem} {m:Value} {t:Item} {ls:List Value} (h:EvC M m t ls):∃ i:Info,(∀ b c,ls[3]? = some (.slice (some ⟨b,0,none⟩) (t.sh+1) c)→t.sh<3→i.blk=b∧capOf i 0 (2*(t.sh+1)+1)=c):=by
 by_cases hsh:t.sh<3
 ·obtain⟨b,c,rc,u,fr,rest,g1,g2,gz,g3,g4⟩:=h.units hsh
  refine⟨{ blk:=b,size:=c,unit:=1 },fun b' c' h1 _ => ?_⟩
  rw [g1] at h1; cases h1
  refine⟨rfl,?_⟩
  unfold capOf
  rw [if_neg (by omega)]
  simp only [Nat.sub_zero,Nat.div_one]
  omega
 ·exact⟨{ blk:=0,size:=0,unit:=0 },fun _ _ _ h=>absurd h hsh⟩
theorem hist_c {M:Mem} (hg:Good M) {m0 m1:Value} (hm0:oneV m0) (hm1:oneV m1) (hm:CallOk Tryz.prog M 52 [.agg #[m0,m1]] (.int .i64 0)) {its:List Item} {lss:List (List Value)} (hl:its.length=lss.length) (h12:its.length≤12)
  (he:∀ (k:Nat) (t:Item) (ls:List Value),its[k]? = some t→lss[k]? = some ls→EvC M (.agg #[m0,m1]) t ls) {sv:Value} (hs:EvsC M lss sv) {bs:List UInt8} {z:Int} (hrun:runC bs its z=true) :
  CallOk Tryz.prog M 27 [.agg #[m0,m1,strB bs,sv]] (.int .i64 z):=by
 have hinfo:∀ k:Nat,∃ i:Info,∀ (t:Item) (ls:List Value),its[k]? = some t→lss[k]? = some ls→(∀ b c,ls[3]? = some (.slice (some ⟨b,0,none⟩) (t.sh+1) c)→t.sh<3→i.blk=b∧capOf i 0 (2*(t.sh+1)+1)=c):=by
  intro k
  cases hk:its[k]? with
  | none=>exact⟨{ blk:=0,size:=0,unit:=0 },(fun t ls ht=>by cases ht)⟩
  | some t=>
   cases hk':lss[k]? with
   | none=>exact⟨{ blk:=0,size:=0,unit:=0 },(fun t ls _ hx=>by cases hx)⟩
   | some ls=>
    obtain⟨i,hi⟩:=unitInfoC (he k t ls hk hk')
    exact⟨i,fun t' ls' h1 h2=>by cases h1; cases h2; exact hi⟩
 have hinfo':=fun k=>Classical.indefiniteDescription _ (hinfo k)
 have hei:∃ i:Info,(lss=[]∧sv = .slice none 0 0)∨(lss≠[]∧sv = .slice (some ⟨i.blk,0,none⟩) lss.length (capOf i 0 (2*lss.length+1)) ∧ ∃ rc t fr rest,M.frz i.blk∧M.heap[i.blk]? = some (.cells rc t fr)∧rc.toList=lss.flatten++rest):=by
  rcases hs with h | ⟨h0,b,c,rc,t,fr,rest,h1,h2,hz,h3,h4⟩
  ·exact⟨{ blk:=0,size:=0,unit:=0 },.inl h⟩
  ·refine⟨{ blk:=b,size:=c,unit:=1 },.inr ⟨h0,?_,rc,t,fr,rest,hz,h3,h4⟩⟩
   rw [h1]
   unfold capOf
   rw [if_neg (by omega)]
   simp only [Nat.sub_zero,Nat.div_one]
   congr 1
   omega
 obtain⟨iE,hE⟩:=hei
 let o:=oC m0 m1 lss
 let st:Nat→Info:=fun g=>if g=32 then iE else (hinfo' (g-33)).1
 let w0:Base:={ toMem:=M,sym:=symX (fun _=>0) o cxC.tab,stat:=st }
 have getBoth:∀ {k:Nat} {ls:List Value},lss[k]? = some ls → ∃ t,its[k]? = some t:=fun {k ls} h=>⟨its[k]'(by have:=(List.getElem?_eq_some_iff.1 h).1; omega),List.getElem?_eq_getElem _⟩
 have getBoth':∀ {k:Nat} {t:Item},its[k]? = some t → ∃ ls,lss[k]? = some ls:=fun {k t} h=>⟨lss[k]'(by have:=(List.getElem?_eq_some_iff.1 h).1; omega),List.getElem?_eq_getElem _⟩
 have ho:∀ j,oneV (o j):=by
  intro j
  show oneV (oC _ _ _ j)
  unfold oC
  split
  ·exact hm0
  ·split
   ·exact hm1
   ·cases h1:lss[j/32]? with
    | none=>simp; trivial
    | some ls=>
     simp only [Option.getD_some]
     cases h3:ls[j%32]? with
     | none=>trivial
     | some x=>
      obtain⟨t,ht⟩:=getBoth h1
      exact (he _ t ls ht h1).one x (List.mem_of_getElem? h3)
 have hone:∀ i,oneV (w0.sym i):=fun i=>symX_one ho i
 have key:∀ E,StatOk w0 E→(∀ (k:Nat) (t:Item) (ls:List Value),its[k]? = some t→lss[k]? = some ls→VRL E (leafsC k t.e t.sh) ls)∧VRL E meshC [m0,m1]:=by
  intro E hE
  have sy:∀ j,j<386→E.sym j=o j:=fun j hj=>by rw [hE.sym]; exact symC hj
  refine⟨fun k t ls hk hk' => ?_,?_⟩
  ·have hk2:k<12:=by have:=(List.getElem?_eq_some_iff.1 hk).1; omega
   refine leafsC_ok (he k t ls hk hk') (fun j hj => ?_) (fun b c h1 h2 => ?_)
   ·rw [sy _ (by omega)]
    exact oC_ev hk' hk2 hj
   ·have h3:=(hinfo' k).2 t ls hk hk' b c h1 h2
    refine⟨st (33+k),hE.stat _ (by omega) (by omega),?_⟩
    show (if 33+k=32 then iE else (hinfo' (33+k-33)).1).blk=b∧capOf (if 33+k=32 then iE else (hinfo' (33+k-33)).1) 0 _=c
    rw [if_neg (by omega),show 33+k-33=k from by omega]
    exact h3
  ·refine VRL.cons ?_ (VRL.cons ?_ VRL.nil)
   ·show m0=E.sym 384
    rw [sy 384 (by omega)]; rfl
   ·show m1=E.sym 385
    rw [sy 385 (by omega)]; rfl
 have hevK:∀ E,StatOk w0 E→VRL E (cellsC 0 its) lss.flatten:=fun E hE=>cellsC_ok hl fun k t ls hk hk'=>by rw [Nat.zero_add]; exact (key E hE).1 k t ls hk hk'
 have hK:KitOk w0 (fun _=>0) o (kitC its):=by
  refine⟨⟨(fun _ _ _=>rfl),(fun v => ?_),(fun f hf=>by cases hf),(fun r hr=>by cases hr),(fun p hp=>by cases hp),ho,hg.pow _ _,hg.tabs⟩,(fun f args v hv => ?_),(fun f es he => ?_),(fun n cs hn => ?_),(fun p hp=>by cases hp),(fun p hp=>by cases hp),(fun p hp=>by cases hp)⟩
  ·show Iv.has ((T.get .e v).getD (0,0)) 0
   rw [T.get_e]; exact⟨Int.le_refl _,Int.le_refl _⟩
  ·replace hv:primOf (tmk (memoCC its)) f args=some v:=hv
   refine tmk_prim ?_ hv
   intro e hem p hp
   simp only [memoCC,List.mem_cons,List.not_mem_nil,or_false] at hem
   rcases hem with rfl | rfl | rfl
   ·rw [List.mem_singleton.1 hp]
    exact hm.contract (Mem.Le.refl _) (fun E hE=>VRL.cons ⟨_,(key E hE).2,rfl⟩ VRL.nil) (fun E hE=>rfl)
   ·obtain⟨k,t,u,h1,hz,rfl⟩:=memoC_mem hp
    rw [Nat.zero_add]
    obtain⟨ls,h2⟩:=getBoth' h1
    have hq:=he k t ls h1 h2
    refine (hq.chk u hz).contract (Mem.Le.refl _) (fun E hE=>VRL.cons ⟨_,(key E hE).2,rfl⟩ (VRL.cons ⟨_,(key E hE).1 k t ls h1 h2,rfl⟩ VRL.nil)) (fun E hE=>rfl)
   ·obtain⟨k,t,h1,hz,rfl⟩:=memoU_mem hp
    rw [Nat.zero_add]
    obtain⟨ls,h2⟩:=getBoth' h1
    exact ((he k t ls h1 h2).nou hz).contract (Mem.Le.refl _) (fun E hE=>VRL.cons ⟨_,(key E hE).1 k t ls h1 h2,rfl⟩ VRL.nil) (fun E hE=>rfl)
  ·simp [kitC,T.get_e] at he
  ·replace hn:(tmk (glC its)).get n=some cs:=hn
   have hmm:=tmk_mem hn
   rcases List.mem_append.1 hmm with hmm | hmm
   ·rcases hE with⟨h0,_⟩ | ⟨_,_,rc,t,fr,rest,hz,h3,h4⟩
    ·have:its=[]:=by rw [h0] at hl; exact List.length_eq_zero_iff.1 (by simpa using hl)
     rw [this] at hmm; cases hmm
    ·have hmm:(n,cs)∈[(32,cellsC 0 its)]:=by
      cases he0:its with
      | nil=>rw [he0] at hmm; cases hmm
      | cons a b=>rw [he0] at hmm; exact hmm
     cases List.mem_singleton.1 hmm
     have hst:w0.stat 32=iE:=rfl
     refine⟨by omega,by omega,?_,?_,rc,t,fr,?_,fun E hE=>⟨_,rest,hevK E hE,h4⟩⟩
     ·rw [hst]; exact (Array.getElem?_eq_some_iff.1 h3).1
     ·rw [hst]; exact hz
     ·rw [hst]; exact h3
   ·obtain⟨k,t,h1,h2,h3⟩:=unitsC_mem hmm
    cases h3
    rw [Nat.zero_add]
    obtain⟨ls,h4⟩:=getBoth' h1
    have hk2:k<12:=by have:=(List.getElem?_eq_some_iff.1 h1).1; omega
    obtain⟨b,c,rc,u,fr,rest,g1,g2,gz,g3,g4⟩:=(he k t ls h1 h4).units h2
    obtain⟨hb,_⟩:=(hinfo' k).2 t ls h1 h4 b c g1 h2
    have hst:(w0.stat (33+k)).blk=b:=by
     show (if 33+k=32 then iE else (hinfo' (33+k-33)).1).blk=b
     rw [if_neg (by omega),show 33+k-33=k from by omega]; exact hb
    refine⟨by omega,by omega,?_,?_,rc,u,fr,?_,fun E hE=>⟨_,rest,strs_ok _,g4⟩⟩
    ·rw [hst]; exact (Array.getElem?_eq_some_iff.1 g3).1
    ·rw [hst]; exact gz
    ·rw [hst]; exact g3
 have hrun:=Kit.run hK (chkC _) hrun
 have hE0:StatOk w0 (baseE w0 hone):=base_stat
 refine hrun.callOk hE0 ?_ rfl
 refine VRL.cons ⟨[m0,m1]++[strB bs,sv],(key _ hE0).2.append (VRL.cons rfl (VRL.cons ?_ VRL.nil)),rfl⟩ VRL.nil
 rcases hE with⟨h0,rfl⟩ | ⟨h0,hsv,_⟩
 ·have:its.length=0:=by rw [hl,h0]; rfl
  rw [this]; rfl
 ·obtain⟨n,hn⟩:∃ n,lss.length=n+1:=⟨lss.length-1,by have:=List.length_pos_iff.2 h0; omega⟩
  rw [hl,hn]
  refine⟨iE,?_,by rw [← hn]; exact hsv⟩
  have:=hE0.stat 32 (by omega) (by omega)
  rw [this]
  rfl
noncomputable def kitU:Kit:=⟨cxC,[],[],.e,.e,.e,.e,⟨[],[],[]⟩⟩
def evU (n:Nat):List V:=(List.range 32).map fun l=>cond (Nat.beq l 0) (.int .i64 (Int.ofNat n)) (.sym l)
theorem runU:([2,3,5].all fun n=>memoOk kitU.tab 10000 60 55 [.agg (evU n)] .nils)=true:=by kernel_rfl
theorem nou_ok {M:Mem} (hg:Good M) {ls:List Value} (hl:ls.length=32) (h1:∀ x∈ls,oneV x) {n:Nat} (hn:n=2∨n=3∨n=5) (h0:ls[0]? = some (.int .i64 (Int.ofNat n))):CallOk Tryz.prog M 55 [.agg ls.toArray] (.slice none 0 0):=by
 let o:=oC .nilFunc .nilFunc [ls]
 have ho:∀ j,oneV (o j):=fun j=>by
  show oneV (oC _ _ _ j)
  unfold oC
  split
  ·trivial
  ·split
   ·trivial
   ·cases h2:([ls]:List (List Value))[j/32]? with
    | none=>simp; trivial
    | some l=>
     simp only [Option.getD_some]
     cases h3:l[j%32]? with
     | none=>trivial
     | some x=>
      have:l=ls:=by
       have:=List.mem_of_getElem? h2
       exact List.mem_singleton.1 this
      subst this
      exact h1 x (List.mem_of_getElem? h3)
 let w0:Base:={ toMem:=M,sym:=symX (fun _=>0) o cxC.tab }
 have hone:∀ i,oneV (w0.sym i):=fun i=>symX_one ho i
 have hK:KitOk w0 (fun _=>0) o kitU:=by
  refine⟨⟨(fun _ _ _=>rfl),(fun v => ?_),(fun f hf=>by cases hf),(fun r hr=>by cases hr),(fun p hp=>by cases hp),ho,hg.pow _ _,hg.tabs⟩,(fun f args v hv=>by simp [kitU,primOf,T.get_e] at hv),(fun f es he=>by simp [kitU,T.get_e] at he),
   (fun n cs hn=>by simp [kitU,T.get_e] at hn),(fun p hp=>by cases hp),(fun p hp=>by cases hp),(fun p hp=>by cases hp)⟩
  show Iv.has ((T.get .e v).getD (0,0)) 0
  rw [T.get_e]; exact⟨Int.le_refl _,Int.le_refl _⟩
 have hE0:StatOk w0 (baseE w0 hone):=base_stat
 refine (Kit.run hK (show kitU.chk=true from rfl) (List.all_eq_true.1 runU n (by rcases hn with rfl | rfl | rfl <;> simp))).callOk hE0 (VRL.cons ⟨ls,?_,rfl⟩ VRL.nil) rfl
 refine VRL.of_get (by simp [evU,hl]) fun l v x h2 h3 => ?_
 have h32:l<32:=by
  have:=(List.getElem?_eq_some_iff.1 h3).1
  rw [hl] at this; exact this
 simp only [evU,List.getElem?_map,List.getElem?_range h32,Option.map_some,Option.some.injEq] at h2
 subst h2
 by_cases c0:l=0
 ·subst c0
  rw [h0] at h3; cases h3; rfl
 ·rw [nbeq_false c0,cond_false]
  show x=(baseE w0 hone).sym l
  rw [hE0.sym]
  show x=symX _ o cxC.tab l
  rw [symC (by omega)]
  show x=oC _ _ _ l
  have:=oC_ev (m0:=.nilFunc) (m1:=.nilFunc) (l:=[ls]) (e:=0) (j:=l) (ls:=ls) rfl (by omega) h32
  rw [Nat.mul_zero,Nat.zero_add] at this
  rw [this,h3]; rfl
theorem hist_q {M:Mem} (hg:Good M) {m0 m1 sv:Value} (hm0:oneV m0) (hm1:oneV m1) (hsv:oneV sv) {z:Int} (hm:CallOk Tryz.prog M 52 [.agg #[m0,m1]] (.int .i64 z)) {n:Option Nat} (hn:∀ k,n=some k → ∃ a c,sv=Value.slice a k c) {bs:List UInt8} {u:Int} (hrun:runQ n z bs u=true) :
  CallOk Tryz.prog M 27 [.agg #[m0,m1,strB bs,sv]] (.int .i64 u):=by
 let o:Nat→Value:=fun j=>if j=0 then m0 else if j=1 then m1 else if j=2 then sv else .nilFunc
 have oo:∀ j,oneV (o j):=fun j=>by
  show oneV (if j=0 then _ else _)
  split
  ·exact hm0
  ·split
   ·exact hm1
   ·split
    ·exact hsv
    ·trivial
 let w0:Base:={ toMem:=M,sym:=symX (fun _=>0) o (cxQ n).tab }
 have hone:∀ i,oneV (w0.sym i):=fun i=>symX_one oo i
 have sy:∀ j,j<3→w0.sym j=o j:=fun j hj=>by
  show symX _ o (T.ofList .e 0 _) j=o j
  unfold symX
  simp only [T.get_ofList]
  rw [if_pos (by simp; omega)]
  simp [hj]
 have args:∀ E,StatOk w0 E→VRL E [.sym 0,.sym 1] [m0,m1]:=fun E hE=>by
  refine VRL.cons ?_ (VRL.cons ?_ VRL.nil)
  ·show m0=E.sym 0
   rw [hE.sym,sy 0 (by omega)]; rfl
  ·show m1=E.sym 1
   rw [hE.sym,sy 1 (by omega)]; rfl
 have hC:CXOk w0 (fun _=>0) o (cxQ n):=by
  refine⟨fun _ _ _=>rfl,fun v => ?_,(fun f hf=>by cases hf),(fun r hr=>by cases hr),(fun p hp => ?_),oo,hg.pow _ _,hg.tabs⟩
  ·show Iv.has ((T.get .e v).getD (0,0)) 0
   rw [T.get_e]; exact⟨Int.le_refl _,Int.le_refl _⟩
  ·cases n with
   | none=>cases hp
   | some k=>
    have hp:p∈[(2,k)]:=hp
    rw [List.mem_singleton.1 hp]
    obtain⟨a,c,e⟩:=hn k rfl
    exact⟨a,c,by rw [sy 2 (by omega)]; exact e⟩
 have hK:KitOk w0 (fun _=>0) o (kitQ n z):=by
  refine⟨hC,fun f args' v hv=>tmk_prim (l:=memoQ z) ?_ hv,(fun f es he=>by simp [kitQ,T.get_e] at he),(fun n cs hn=>by simp [kitQ,T.get_e] at hn),(fun p hp=>by cases hp),(fun p hp=>by cases hp),(fun p hp=>by cases hp)⟩
  intro q hq p hp
  rw [List.mem_singleton.1 hq] at hp ⊢
  rw [List.mem_singleton.1 hp]
  exact hm.contract (Mem.Le.refl _) (fun E hE=>VRL.cons ⟨_,args E hE,rfl⟩ VRL.nil) (fun E hE=>rfl)
 have hE0:StatOk w0 (baseE w0 hone):=base_stat
 refine (Kit.run hK (show (kitQ n z).chk=true from rfl) hrun).callOk hE0 (VRL.cons ⟨[m0,m1]++[strB bs,sv],(args _ hE0).append (VRL.cons rfl (VRL.cons ?_ VRL.nil)),rfl⟩ VRL.nil) rfl
 show sv=(baseE w0 hone).sym 2
 rw [hE0.sym,sy 2 (by omega)]; rfl
def slV (b n c:Nat):Value:=.slice (some ⟨b,0,none⟩) n c
structure ChgT where
 n:Nat
 nt:Nat
 j:Nat
 j5:Nat
 j4:Nat
 k:Nat
def max1 (n:Nat):Nat:=cond (Nat.beq n 0) 1 n
def ofN (n:Nat):Poly:=[([],Int.ofNat n)]
def j36 (j:Nat):Bool:=Nat.beq j 3||Nat.beq j 6
def remsG (t:ChgT):List (Poly × Nat × Poly):=[(P0 0,8,ofN t.j)]++cond (Nat.beq t.j 1) [(P0 1,5,ofN t.j5)] []++cond (j36 t.j) [(P0 1,4,ofN t.j4)] []++[(P0 1,max1 t.n,ofN t.k)]
def tabG:List SE:=[.int .u8 (P0 0),.int .u8 (P0 1),.int .i64 (P0 1),.int .i64 [([1],1),([],-1)]]++(List.range 98).map .opq
noncomputable def cxG (t:ChgT):CX:=⟨T.ofList .e 0 tabG,T.ofList .e 0 [(0,255),(0,255)],[],remsG t,[]⟩
def binsG (t:ChgT):List BinRow:=[⟨.rem,.sym 0,.int .u8 8,.int .u8 (Int.ofNat t.j)⟩]++cond (Nat.beq t.j 1) [⟨.rem,.sym 1,.int .u8 5,.int .u8 (Int.ofNat t.j5)⟩] []++cond (j36 t.j) [⟨.rem,.sym 1,.int .u8 4,.int .u8 (Int.ofNat t.j4)⟩] [] ++
 [⟨.rem,.sym 2,.int .i64 (Int.ofNat (max1 t.n)),.int .i64 (Int.ofNat t.k)⟩,⟨.sub,.sym 2,.int .i64 1,.sym 3⟩]
def evG (e:Nat):List V:=(List.range 32).map fun l=>.sym (4+(32*e+l))
def tiltL (l:Nat):V:=match l with
 | 0=>.int .i64 5
 | 1=>.str [116]
 | 2 | 3 | 4 | 15=>.nils
 | 25=>.int .i64 1
 | 26 | 27 | 28=>.int .i64 0
 | 29 | 30 | 31=>.str [48]
 | _=>.str []
def tiltG:List V:=(List.range 32).map tiltL
def namesG:List (List UInt8):=[[],[57],[120,45],[102,105,110,101]]
def basesG:List (List UInt8):=[[],[49],[97,32,98],[65,49],[107,48]]
def setAt {α:Type} (l:List (List α)) (k i:Nat) (v:α):List (List α):=l.set k (((l[k]?).getD []).set i v)
def expd {α:Type} (t:ChgT) (evs:List (List α)) (tilt:List α) (kind name z:α):List (List α):=match t.j with
 | 3=>evs++List.replicate (11+t.j4-t.n) tilt
 | 4=>evs++(evs.drop t.k).take 1
 | 5=>setAt evs t.k 0 kind
 | 6=>setAt evs t.k 1 name
 | 7=>setAt evs t.k 24 z
 | _=>evs
def nameG (t:ChgT):List UInt8:=(namesG[t.j4]?).getD []
def basG (t:ChgT):List UInt8:=cond (Nat.beq t.j 1) ((basesG[t.j5]?).getD []) b0
def expG (t:ChgT):List (List V):=expd t ((List.range t.n).map evG) tiltG (.sym 3) (.str (nameG t)) (.str [122])
def mG (t:ChgT):V:=cond (Nat.beq t.j 2) (.slice 33 0 t.nt (2*t.nt)) (.sym 101)
def mG' (t:ChgT):V:=cond (Nat.beq t.j 2) (.slice 33 (cond (Nat.beq t.nt 1) 0 3) (t.nt-1) (2*(t.nt-1))) (.sym 101)
def glCh (t:ChgT):List (Nat × List V):=cond (Nat.beq t.n 0) [] [(32,((List.range t.n).map evG).flatten)]
noncomputable def kitCh (t:ChgT):Kit:=⟨cxG t,binsG t,[⟨1,.i64,.sym 2⟩],.e,.e,.e,tmk (glCh t),⟨[],[],[]⟩⟩
def argG (t:ChgT):List V:=[.agg [.sym 100,mG t,.str b0,evsC t.n],.agg [.sym 0,.sym 1]]
noncomputable def okEvG (ex:List (List V)) (ev:V) (h:H):Bool:=match ex with
 | []=>V.eq ev .nils
 | ex=>match ev with
  | .slice ne 0 n cap=>Nat.beq n ex.length&&Nat.ble n (cap/2)&&(match h.get ne with
   | some (.cells cs _ _ _)=>V.eqL (cs.take (32*n)) ex.flatten
   | _=>false)
  | _=>false
noncomputable def okG (t:ChgT) (r:V × H × Nat):Bool:=match r.1 with
 | .agg [a,b,c,ev]=>V.eq a (.sym 100)&&V.eq b (mG' t)&&V.eq c (.str (basG t))&&okEvG (expG t) ev r.2.1
 | _=>false
noncomputable def runCh (t:ChgT):Bool:=(kitCh t).chk&&(match (recN (kitCh t).tab 10000 60).call 10 (argG t) .e 64 with
 | some r=>okG t r
 | none=>false)
noncomputable def runsG (j:Nat):Bool:=(List.range 4).all fun n=>(List.range (max1 n)).all fun k=>(List.range (cond (Nat.beq j 1) 5 1)).all fun j5=>(List.range (cond (j36 j) 4 1)).all fun j4=>(List.range (cond (Nat.beq j 2) 12 1)).all fun nt=>
 runCh ⟨n,nt+1,j,j5,j4,k⟩
theorem call_ret {w0:Base} {x:Nat→Int} {o:Nat→Value} {k:Kit} (hK:KitOk w0 x o k) (hc:k.chk=true) (hone:∀ i,oneV (w0.sym i)) {rounds n f:Nat} {args:List V} {v:V} {h':H} {nx':Nat}
  (hrun:(recN k.tab rounds n).call f args .e 64=some (v,h',nx')) {xs:List Value} (hx:VRL (baseE w0 hone) args xs) {w:World} (hw:w0.toMem.On w) {Q:Value→Mem→Prop}
  (hQ:∀ y (E':Env) w',VR E' v y→Ok w0 E' h'.get nx' w'→(∀ n o i,h'.get n=some o→E'.at_ n=some i→w.heap.size≤i.blk)→Q y ⟨w'.heap,fun b=>(b<w0.heap.size∧w0.frz b)∨Foot E' h'.get b⟩) :
  Calls Tryz.prog f xs.toArray w (RetM w0.toMem w Q):=by
 have hok:=base_ok (h:=hone) hw.size hw.same
 refine ((recN_ok k.tabOk (k.fnOk hK hc) rounds n).call f args .e 64 v h' nx' hrun (baseE w0 hone) w xs hok hx).mono ?_
 rintro e w' ⟨y,rfl,E',hv,hst⟩
 have hok':=hok.step hst
 have hnone:∀ b,¬ Foot (baseE w0 hone) (T.e:H).get b:=by
  rintro b ⟨n,o,i,hn,_⟩
  rw [T.get_e] at hn; cases hn
 have hnew:∀ b,Foot E' h'.get b→w.heap.size≤b∧b<w'.heap.size:=by
  intro b hb
  constructor
  ·rcases Nat.lt_or_ge b w.heap.size with h | h
   ·exact absurd (hst.foot b h hb) (hnone b)
   ·exact h
  ·obtain⟨n,o,i,hn,hi,rfl⟩:=hb
   obtain⟨i',hi',hob⟩:=hst.rel.obj n o hn
   rw [hi] at hi'; cases hi'
   exact hob.lt
 refine⟨y,⟨w'.heap,fun b=>(b<w0.heap.size∧w0.frz b)∨Foot E' h'.get b⟩,rfl,hst.grew,fun b hb=>hst.frame b hb (hnone b),rfl,⟨hok'.inv.size,fun b hb hz=>⟨.inl ⟨hb,hz⟩,hok'.inv.same b hb hz⟩⟩,fun b hb => ?_,hQ y E' w' hv hok' fun n o i hn hi => ?_⟩
 ·rcases hb with h | h
  ·exact .inl h
  ·exact .inr (hnew b h)
 ·exact (hnew i.blk ⟨n,o,i,hn,hi,rfl⟩).1
def LL (E:Env) (vs:List (List V)) (xs:List (List Value)):Prop:=vs.length=xs.length ∧ ∀ (k:Nat) (v:List V) (x:List Value),vs[k]? = some v→xs[k]? = some x→VRL E v x
theorem LL.flat {E:Env}:∀ {vs:List (List V)} {xs:List (List Value)},LL E vs xs→VRL E vs.flatten xs.flatten
 | [],[],_=>rfl
 | [],_::_,h=>by simp [LL] at h
 | _::_,[],h=>by simp [LL] at h
 | v::vs,x::xs,h=>by
  simp only [List.flatten_cons]
  exact (h.2 0 v x rfl rfl).append (LL.flat ⟨by simpa using h.1,fun k a b ha hb=>h.2 (k+1) a b (by simpa using ha) (by simpa using hb)⟩)
theorem LL.append {E:Env} {vs vs':List (List V)} {xs xs':List (List Value)} (h:LL E vs xs) (h':LL E vs' xs'):LL E (vs++vs') (xs++xs'):=by
 refine⟨by simp [h.1,h'.1],fun k v x hv hx => ?_⟩
 rw [List.getElem?_append] at hv hx
 rw [← h.1] at hx
 split at hv
 ·rename_i hk
  rw [if_pos hk] at hx
  exact h.2 k v x hv hx
 ·rename_i hk
  rw [if_neg hk] at hx
  exact h'.2 _ v x hv hx
theorem LL.drop {E:Env} {vs:List (List V)} {xs:List (List Value)} (n:Nat) (h:LL E vs xs):LL E (vs.drop n) (xs.drop n):=
 ⟨by simp [h.1],fun k v x hv hx=>h.2 (n+k) v x (by simpa [List.getElem?_drop] using hv) (by simpa [List.getElem?_drop] using hx)⟩
theorem LL.take {E:Env} {vs:List (List V)} {xs:List (List Value)} (n:Nat) (h:LL E vs xs):LL E (vs.take n) (xs.take n):=by
 refine⟨by simp [h.1],fun k v x hv hx => ?_⟩
 rw [List.getElem?_take] at hv hx
 split at hv
 ·rename_i hk
  rw [if_pos hk] at hx
  exact h.2 k v x hv hx
 ·cases hv
theorem VRL.setG {E:Env}:∀ {vs:List V} {xs:List Value} (i:Nat) {v:V} {x:Value},VRL E vs xs→VR E v x→VRL E (vs.set i v) (xs.set i x)
 | [],xs,i,v,x,h,_=>by rw [show xs=[] from h]; simp; rfl
 | u::vs,xs,0,v,x,⟨y,ys,e,hy,hs⟩,hv=>by rw [e]; exact⟨x,ys,rfl,hv,hs⟩
 | u::vs,xs,i+1,v,x,⟨y,ys,e,hy,hs⟩,hv=>by rw [e]; exact⟨y,ys.set i x,rfl,hy,VRL.setG i hs hv⟩
theorem LL.set {E:Env} {vs:List (List V)} {xs:List (List Value)} {k i:Nat} {v:V} {x:Value} (h:LL E vs xs) (hv:VR E v x):LL E (setAt vs k i v) (setAt xs k i x):=by
 unfold setAt
 refine⟨by simp [h.1],fun j a b ha hb => ?_⟩
 rw [List.getElem?_set] at ha hb
 by_cases hk:k=j
 ·subst hk
  rw [if_pos rfl] at ha hb
  split at ha
  ·rename_i hlt
   rw [if_pos (by rw [← h.1]; exact hlt)] at hb
   cases ha; cases hb
   have e1:vs[k]? = some vs[k]:=List.getElem?_eq_getElem hlt
   have e2:xs[k]? = some (xs[k]'(by rw [← h.1]; exact hlt)):=List.getElem?_eq_getElem _
   rw [e1,e2]
   exact VRL.setG i (h.2 k _ _ e1 e2) hv
  ·cases ha
 ·rw [if_neg hk] at ha hb
  exact h.2 j a b ha hb
theorem LL.rep {E:Env} {v:List V} {x:List Value} (n:Nat) (h:VRL E v x):LL E (List.replicate n v) (List.replicate n x):=by
 refine⟨by simp,fun k a b ha hb => ?_⟩
 rw [List.getElem?_replicate] at ha hb
 split at ha
 ·rename_i hk
  rw [if_pos hk] at hb
  cases ha; cases hb
  exact h
 ·cases ha
theorem LL.expd {E:Env} (t:ChgT) {vs:List (List V)} {xs:List (List Value)} (h:LL E vs xs) {tv:List V} {tx:List Value} (ht:VRL E tv tx) {a b c:V} {x y z:Value} (ha:VR E a x) (hb:VR E b y) (hc:VR E c z) :
  LL E (expd t vs tv a b c) (expd t xs tx x y z):=by
 unfold Proofs.YtkjinnjopoehhaaGreatDoor.expd
 split
 ·exact h.append (LL.rep _ ht)
 ·exact h.append ((h.drop _).take _)
 ·exact h.set ha
 ·exact h.set hb
 ·exact h.set hc
 ·exact h
def valG:V→Value
 | .int k n=>.int k n
 | .str s=>strB s
 | .nils=>.slice none 0 0
 | _=>.nilFunc
def tiltR:List Value:=tiltG.map valG
theorem tilt_plain:∀ v∈tiltG,(∃ k n,v = .int k n)∨(∃ s,v = .str s)∨v = .nils:=by
 intro v hv
 obtain⟨l,hl,rfl⟩:=List.mem_map.1 hv
 unfold tiltL
 split <;> first | exact .inl ⟨_,_,rfl⟩ | exact .inr (.inl ⟨_,rfl⟩) | exact .inr (.inr rfl)
theorem vals_ok {E:Env}:∀ {l:List V},(∀ v∈l,(∃ k n,v = .int k n)∨(∃ s,v = .str s)∨v = .nils)→VRL E l (l.map valG)
 | [],_=>rfl
 | v::l,h=>by
  refine VRL.cons ?_ (vals_ok fun u hu=>h u (List.mem_cons_of_mem _ hu))
  rcases h v (List.mem_cons_self ..) with⟨k,n,rfl⟩ | ⟨s,rfl⟩ | rfl <;> rfl
theorem tilt_vals (E:Env):VRL E tiltG tiltR:=vals_ok tilt_plain
theorem tilt_one:∀ x∈tiltR,oneV x:=by
 intro x hx
 obtain⟨v,hv,rfl⟩:=List.mem_map.1 hx
 rcases tilt_plain v hv with⟨k,n,rfl⟩ | ⟨s,rfl⟩ | rfl <;> trivial
def oG (m0 m1:Value) (l:List (List Value)) (j:Nat):Value:=if j=96 then m0 else if j=97 then m1 else (((l[j/32]?).getD [])[j%32]?).getD .nilFunc
def xG (kx at_:Int) (v:Nat):Int:=if v=0 then kx else if v=1 then at_ else 0
theorem tabG_opq {j:Nat} (hj:j<98):tabG[4+j]? = some (.opq j):=by
 show ([.int .u8 (P0 0),.int .u8 (P0 1),.int .i64 (P0 1),.int .i64 [([1],1),([],-1)]]++(List.range 98).map .opq:List SE)[4+j]? = _
 rw [List.getElem?_append_right (by simp),List.getElem?_map]
 simp [List.getElem?_range hj]
structure ChgOk (t:ChgT) (kx at_:Int) (n nt:Nat):Prop where
 few:t.n=n
 nt:t.j=2→t.nt=nt
 j:kx.tmod 8=t.j
 j5:t.j=1→at_.tmod 5=t.j5
 j4:t.j=3∨t.j=6→at_.tmod 4=t.j4
 k:at_.tmod (max1 n)=t.k
def cutV (b1 nt:Nat):Value:=.slice (some ⟨b1,cond (Nat.beq nt 1) 0 3,none⟩) (nt-1) (nt-1)
theorem changed_ok {M:Mem} (hg:Good M) {m0 sv:Value} (hm0:oneV m0) {b1 nt:Nat} {lss:List (List Value)} (h2:lss.length≤3) (hls:∀ ls∈lss,ls.length=32 ∧ ∀ x∈ls,oneV x) (hs:EvsC M lss sv)
  {kx at_:Int} (hk:0≤kx∧kx≤255) (ha:0≤at_∧at_≤255) {t:ChgT} (ht:ChgOk t kx at_ lss.length nt) (hrun:runCh t=true) {w:World} (hw:M.On w) :
  Calls Tryz.prog 10 #[.agg #[m0,slV b1 nt nt,strB b0,sv],.agg #[.int .u8 kx,.int .u8 at_]] w (RetM M w fun y M' => ∃ sv',y = .agg #[m0,cond (Nat.beq t.j 2) (cutV b1 nt) (slV b1 nt nt),strB (basG t),sv'] ∧
   EvsC M' (expd t lss tiltR (.int .i64 (at_-1)) (strB (nameG t)) (strB [122])) sv'):=by
 have hei:∃ i:Info,(lss=[]∧sv = .slice none 0 0)∨(lss≠[]∧sv = .slice (some ⟨i.blk,0,none⟩) lss.length (capOf i 0 (2*lss.length+1)) ∧ ∃ rc t fr rest,M.frz i.blk∧M.heap[i.blk]? = some (.cells rc t fr)∧rc.toList=lss.flatten++rest):=by
  rcases hs with h | ⟨h0,b,c,rc,t,fr,rest,h1,h2,hz,h3,h4⟩
  ·exact⟨{ blk:=0,size:=0,unit:=0 },.inl h⟩
  ·refine⟨{ blk:=b,size:=c,unit:=1 },.inr ⟨h0,?_,rc,t,fr,rest,hz,h3,h4⟩⟩
   rw [h1]
   unfold capOf
   rw [if_neg (by omega)]
   simp only [Nat.sub_zero,Nat.div_one]
   congr 1
   omega
 obtain⟨iE,hE⟩:=hei
 let m1:=slV b1 nt nt
 let x:=xG kx at_
 let o:=oG m0 m1 lss
 let st:Nat→Info:=fun g=>if g=32 then iE else { blk:=b1,size:=nt,unit:=1 }
 let w0:Base:={ toMem:=M,sym:=symX x o (cxG t).tab,stat:=st }
 have oo:∀ j,oneV (o j):=fun j=>by
  show oneV (oG _ _ _ j)
  unfold oG
  split
  ·exact hm0
  ·split
   ·trivial
   ·cases h1:lss[j/32]? with
    | none=>simp; trivial
    | some ls=>
     simp only [Option.getD_some]
     cases h3:ls[j%32]? with
     | none=>trivial
     | some y=>exact (hls ls (List.mem_of_getElem? h1)).2 y (List.mem_of_getElem? h3)
 have hone:∀ i,oneV (w0.sym i):=fun i=>symX_one oo i
 have getT:∀ i,(cxG t).tab.get i=tabG[i]? := fun i=>by
  show (T.ofList .e 0 tabG).get i=_
  rw [T.get_ofList]
  split
  ·rw [Nat.sub_zero]
  ·rename_i hi
   rw [T.get_e,List.getElem?_eq_none (by omega)]
 have sO:∀ j,j<98→w0.sym (4+j)=o j:=fun j hj=>by
  show symX x o (cxG t).tab (4+j)=o j
  unfold symX
  rw [getT,tabG_opq hj]
 have s0:w0.sym 0 = .int .u8 kx:=by
  show symX x o (cxG t).tab 0=_
  unfold symX
  rw [getT,show tabG[0]? = some (.int .u8 (P0 0)) from rfl]
  simp only [ev_P0]; rfl
 have s1:w0.sym 1 = .int .u8 at_:=by
  show symX x o (cxG t).tab 1=_
  unfold symX
  rw [getT,show tabG[1]? = some (.int .u8 (P0 1)) from rfl]
  simp only [ev_P0]; rfl
 have s3:w0.sym 3 = .int .i64 (at_-1):=by
  show symX x o (cxG t).tab 3=_
  unfold symX
  rw [getT,show tabG[3]? = some (.int .i64 [([1],1),([],-1)]) from rfl]
  have e:x 1=at_:=rfl
  simp only [Poly.ev,Poly.evM,e]
  congr 1
  omega
 have hC:CXOk w0 x o (cxG t):=by
  refine⟨fun _ _ _=>rfl,fun v => ?_,(fun f hf=>by cases hf),fun r hr => ?_,(fun p hp=>by cases hp),oo,hg.pow _ _,hg.tabs⟩
  ·show Iv.has (((T.ofList .e 0 [(0,255),(0,255)]:T Iv).get v).getD (0,0)) (xG kx at_ v)
   unfold xG
   rw [T.get_ofList]
   by_cases v0:v=0
   ·subst v0; exact hk
   ·by_cases v1:v=1
    ·subst v1; exact ha
    ·rw [if_neg (by simp; omega),T.get_e,if_neg v0,if_neg v1]
     exact⟨Int.le_refl _,Int.le_refl _⟩
  ·have evN:∀ n,Poly.ev x (ofN n)=(n:Int):=fun n=>by
    show (Int.ofNat n)*1+0=(n:Int)
    simp
   have hr:r∈remsG t:=hr
   simp only [remsG,List.mem_append,List.mem_singleton] at hr
   rcases hr with ((rfl | hr) | hr) | rfl
   ·rw [ev_P0,evN]; exact ht.j
   ·cases h:Nat.beq t.j 1 with
    | false=>rw [h] at hr; cases hr
    | true=>
     rw [h,cond_true,List.mem_singleton] at hr
     subst hr
     rw [ev_P0,evN]; exact ht.j5 (nbeq_true h)
   ·cases h:j36 t.j with
    | false=>rw [h] at hr; cases hr
    | true=>
     rw [h,cond_true,List.mem_singleton] at hr
     subst hr
     rw [ev_P0,evN]
     simp only [j36,Bool.or_eq_true] at h
     exact ht.j4 (h.imp nbeq_true nbeq_true)
   ·rw [ev_P0,evN]
    show at_.tmod ((max1 t.n:Nat):Int)=_
    rw [ht.few]; exact ht.k
 have hev:∀ E,StatOk w0 E→LL E ((List.range t.n).map evG) lss:=fun E hE=>by
  refine⟨by simp [ht.few],fun k v ls hv hl => ?_⟩
  have hkn:k<t.n:=by
   have:=(List.getElem?_eq_some_iff.1 hl).1
   rw [ht.few]; exact this
  simp only [List.getElem?_map,List.getElem?_range hkn,Option.map_some,Option.some.injEq] at hv
  subst hv
  have hls':=hls ls (List.mem_of_getElem? hl)
  refine VRL.of_get (by simp [evG,hls'.1]) fun l v y h1 h3 => ?_
  have hl32:l<32:=by
   have:=(List.getElem?_eq_some_iff.1 h3).1
   rw [hls'.1] at this; exact this
  simp only [evG,List.getElem?_map,List.getElem?_range hl32,Option.map_some,Option.some.injEq] at h1
  subst h1
  have hk2:k<3:=by have:=(List.getElem?_eq_some_iff.1 hl).1; omega
  show y=E.sym (4+(32*k+l))
  rw [hE.sym,sO _ (by omega)]
  show y=oG _ _ _ _
  unfold oG
  rw [if_neg (by omega),if_neg (by omega),show (32*k+l)/32=k from by omega,show (32*k+l)%32=l from by omega,hl]
  simp only [Option.getD_some,h3]
 have hK:KitOk w0 x o (kitCh t):=by
  refine⟨hC,(fun f args v hv=>by simp [kitCh,primOf,T.get_e] at hv),(fun f es he=>by simp [kitCh,T.get_e] at he),fun n cs hn => ?_,(fun p hp=>by cases hp),(fun p hp=>by cases hp),(fun p hp=>by cases hp)⟩
  have hm:=tmk_mem (l:=glCh t) hn
  unfold glCh at hm
  rcases hE with⟨h0,_⟩ | ⟨h0,_,rc,u,fr,rest,hz,h3,h4⟩
  ·have:t.n=0:=by rw [ht.few,h0]; rfl
   rw [this] at hm; cases hm
  ·have:t.n≠0:=by rw [ht.few]; have:=List.length_pos_iff.2 h0; omega
   rw [nbeq_false this,cond_false] at hm
   cases List.mem_singleton.1 hm
   have hst:w0.stat 32=iE:=rfl
   refine⟨by omega,by omega,?_,?_,rc,u,fr,?_,fun E hE=>⟨_,rest,(hev E hE).flat,h4⟩⟩
   ·rw [hst]; exact (Array.getElem?_eq_some_iff.1 h3).1
   ·rw [hst]; exact hz
   ·rw [hst]; exact h3
 have hE0:StatOk w0 (baseE w0 hone):=base_stat
 simp only [runCh,Bool.and_eq_true] at hrun
 obtain⟨hchk,hrun⟩:=hrun
 have hargs:VRL (baseE w0 hone) (argG t) [.agg #[m0,m1,strB b0,sv],.agg #[.int .u8 kx,.int .u8 at_]]:=by
  refine VRL.cons ⟨[m0,m1,strB b0,sv],VRL.cons ?_ (VRL.cons ?_ (VRL.cons rfl (VRL.cons ?_ VRL.nil))),rfl⟩ (VRL.cons ⟨[_,_],VRL.cons ?_ (VRL.cons ?_ VRL.nil),rfl⟩ VRL.nil)
  ·show m0=w0.sym 100
   rw [sO 96 (by omega)]; rfl
  ·unfold mG
   cases h:Nat.beq t.j 2 with
   | false=>
    show m1=w0.sym 101
    rw [sO 97 (by omega)]; rfl
   | true=>
    rw [cond_true,ht.nt (nbeq_true h)]
    refine⟨st 33,hE0.stat 33 (by omega) (by omega),?_⟩
    show slV b1 nt nt = .slice (some ⟨b1,0,none⟩) nt (capOf { blk:=b1,size:=nt,unit:=1 } 0 (2*nt))
    unfold capOf slV
    rw [if_pos (by omega),Nat.mul_div_cancel_left _ (by omega)]
  ·rcases hE with⟨h0,rfl⟩ | ⟨h0,hsv,_⟩
   ·have:t.n=0:=by rw [ht.few,h0]; rfl
    rw [this]; rfl
   ·obtain⟨n,hn⟩:∃ n,lss.length=n+1:=⟨lss.length-1,by have:=List.length_pos_iff.2 h0; omega⟩
    rw [ht.few,hn]
    exact⟨iE,hE0.stat 32 (by omega) (by omega),by rw [← hn]; exact hsv⟩
  ·show _=w0.sym 0
   rw [s0]
  ·show _=w0.sym 1
   rw [s1]
 split at hrun
 ·rename_i r hr
  obtain⟨v,h',nx'⟩:=r
  refine call_ret hK hchk hone hr hargs hw fun y E' w' hv hok' hnew => ?_
  unfold okG at hrun
  split at hrun
  ·rename_i va vb vc ev hrv
   simp only [Bool.and_eq_true] at hrun
   obtain⟨⟨⟨k1,k2⟩,k3⟩,k4⟩:=hrun
   replace hrv:v = .agg [va,vb,vc,ev]:=hrv
   rw [V.eq_eq _ _ k1,V.eq_eq _ _ k2,V.eq_eq _ _ k3] at hrv
   rw [hrv] at hv
   obtain⟨xs,⟨x0,_,rfl,hx0,x1,_,rfl,hx1,x2,_,rfl,hx2,sv',_,rfl,hsv,hxn⟩,rfl⟩:=hv
   rw [show _=[] from hxn]
   have e0:x0=m0:=by rw [show x0=E'.sym 100 from hx0,hok'.sym.sym,sO 96 (by omega)]; rfl
   have e2:x2=strB (basG t):=hx2
   have e1:x1=cond (Nat.beq t.j 2) (cutV b1 nt) (slV b1 nt nt):=by
    unfold mG' at hx1
    cases h:Nat.beq t.j 2 with
    | false=>
     rw [h] at hx1
     rw [show x1=E'.sym 101 from hx1,hok'.sym.sym,sO 97 (by omega)]; rfl
    | true=>
     rw [h,cond_true,ht.nt (nbeq_true h)] at hx1
     obtain⟨i,hi,rfl⟩:=hx1
     rw [hok'.sym.stat 33 (by omega) (by omega)] at hi
     cases hi
     rw [cond_true]
     show Value.slice (some ⟨b1,cond (Nat.beq nt 1) 0 3,none⟩) (nt-1) (capOf { blk:=b1,size:=nt,unit:=1 } _ (2*(nt-1)))=_
     unfold capOf cutV
     rw [if_pos (by omega),Nat.mul_div_cancel_left _ (by omega)]
   subst e0; subst e1; subst e2
   refine⟨sv',rfl,?_⟩
   have hLL:LL E' (expG t) (expd t lss tiltR (.int .i64 (at_-1)) (strB (nameG t)) (strB [122])):=(hev E' hok'.sym).expd t (tilt_vals E') (by show _=E'.sym 3; rw [hok'.sym.sym,s3]) rfl rfl
   generalize expd t lss tiltR (.int .i64 (at_-1)) (strB (nameG t)) (strB [122])=ex at hLL ⊢
   unfold okEvG at k4
   split at k4
   ·rename_i hex
    rw [V.eq_eq _ _ k4] at hsv
    rw [hex] at hLL
    exact .inl ⟨List.length_eq_zero_iff.1 (by simpa using hLL.1.symm),hsv⟩
   ·rename_i hex
    split at k4
    ·rename_i ne n cap
     simp only [Bool.and_eq_true] at k4
     obtain⟨⟨j1,j2⟩,j4⟩:=k4
     have j1:=nbeq_true j1
     have j2:=nble_le j2
     split at j4
     ·rename_i cs te ue ze hne
      obtain⟨ie,hie,rfl⟩:=hsv
      obtain⟨ie',hie',hu,rc,fr,g1,g2,g3,xs,rest,hxs,hrc⟩:=hok'.rel.obj _ _ hne
      rw [hie] at hie'; cases hie'
      have htk:=hxs.take (32*n)
      rw [V.eqL_eq _ _ j4] at htk
      have hfl:=VRL.det _ _ _ htk hLL.flat
      refine .inr ⟨fun h0=>hex (List.length_eq_zero_iff.1 (by rw [hLL.1,h0]; rfl)),ie.blk,capOf ie 0 cap,rc,te,fr,xs.drop (32*n)++rest,?_,?_,.inr ⟨ne,_,ie,hne,hie,rfl⟩,g1,?_⟩
      ·rw [← hLL.1,← j1]
      ·rw [← hLL.1,← j1]
       unfold capOf
       split <;> omega
      ·rw [hrc,← hfl,← List.append_assoc,List.take_append_drop]
     ·cases j4
    ·cases k4
  ·cases hrun
 ·cases hrun
def chgs (kind:Nat):List (Nat × V × Int):=
 ((List.range 5).filter fun i => !Nat.beq (i+1) kind).map (fun i=>(0,.int .i64 (Int.ofNat (i+1)),7))++[(1,.str [102,105,110,101],0),(24,.str [122],cond (Nat.beq kind 4) 0 7)]
def vOf:V→Value
 | .int k n=>.int k n
 | .str s=>strB s
 | _=>.nilFunc
theorem chgs_plain {kind:Nat} {c:Nat × V × Int} (h:c∈chgs kind):(∃ n,c.2.1 = .int .i64 n) ∨ ∃ s,c.2.1 = .str s:=by
 rcases List.mem_append.1 h with h | h
 ·obtain⟨i,_,rfl⟩:=List.mem_map.1 h
  exact .inl ⟨_,rfl⟩
 ·simp only [List.mem_cons,List.not_mem_nil,or_false] at h
  rcases h with rfl | rfl <;> exact .inr ⟨_,rfl⟩
theorem vOf_ok {E:Env} {kind:Nat} {c:Nat × V × Int} (h:c∈chgs kind):VR E c.2.1 (vOf c.2.1):=by
 rcases chgs_plain h with⟨n,e⟩ | ⟨s,e⟩ <;> rw [e] <;> rfl
theorem chgs_ren {kind:Nat} {c:Nat × V × Int} (h:c∈chgs kind) (r:Nat→Nat):renV r c.2.1=c.2.1:=by
 rcases chgs_plain h with⟨n,e⟩ | ⟨s,e⟩ <;> rw [e] <;> rfl
theorem VRL_set {E:Env}:∀ {vs:List V} {xs:List Value} (i:Nat) {v:V} {x:Value},VRL E vs xs→VR E v x→VRL E (vs.set i v) (xs.set i x)
 | [],xs,i,v,x,h,_=>by rw [show xs=[] from h]; simp; rfl
 | u::vs,xs,0,v,x,⟨y,ys,e,hy,hs⟩,hv=>by rw [e]; exact⟨x,ys,rfl,hv,hs⟩
 | u::vs,xs,i+1,v,x,⟨y,ys,e,hy,hs⟩,hv=>by rw [e]; exact⟨y,ys.set i x,rfl,hy,VRL_set i hs hv⟩
theorem renL_set {r:Nat→Nat}:∀ (l:List V) (i:Nat) {v:V},renV r v=v→renL r (l.set i v)=(renL r l).set i v
 | [],i,v,h=>by simp [renL]
 | u::l,0,v,h=>by simp [renL,h]
 | u::l,i+1,v,h=>by simp [renL,renL_set l i h]
theorem nmL_set {k:Nat}:∀ (l:List V) (i:Nat) {v:V},nmV k v=true→nmL k l=true→nmL k (l.set i v)=true
 | [],i,v,h,hl=>by simpa using hl
 | u::l,0,v,h,hl=>by
  simp only [nmL,Bool.and_eq_true] at hl
  simp [nmL,h,hl.2]
 | u::l,i+1,v,h,hl=>by
  simp only [nmL,Bool.and_eq_true] at hl
  simp [nmL,hl.1,nmL_set l i h hl.2]
noncomputable def okChg (d:DealT) (fs:Facts) (t:TabsR):Bool:=match d.pv with
 | .agg cs=>(chgs d.kind).all fun c=>memoOk (kitD d fs t (glD 32 (cellsD d))).tab 10000 60 54 [mD,renV fz (.agg (cs.set c.1 c.2.1))] (.int .i64 c.2.2)
 | _=>false
noncomputable def okChgs (d:DealT):List Facts→List TabsR→Bool
 | [],[]=>true
 | f::fs,t::ts=>okChg d f t&&okChgs d fs ts
 | _,_=>false
noncomputable def DealT.okX (d:DealT):Bool:=okChgs d (fsAll d.kind) d.cs
theorem okChgs_mem {d:DealT}:∀ {fs:List Facts} {ts:List TabsR},okCs d fs ts=true→okChgs d fs ts=true → ∀ f∈fs,∃ t,okC d f t=true∧okChg d f t=true
 | [],_,_,_,f,hf=>by cases hf
 | _::_,[],h,_,_,_=>by cases h
 | g::fs,t::ts,h,h',f,hf=>by
  simp only [okCs,okChgs,Bool.and_eq_true] at h h'
  rcases List.mem_cons.1 hf with rfl | hf
  ·exact⟨t,h.1,h'.1⟩
  ·exact okChgs_mem h.2 h'.2 f hf
section
variable {w0:Base} {d:DealT} {dd:Nat→Int} {m0 m1:Value} (HD:DealIn w0 d dd m0 m1) (ho:d.ok=true) (hx:d.okX=true)
include HD ho hx
theorem chg_fz {cs:List (List V)} (hcs:subCells d.ps=some cs) {pc:List V} (hpv:d.pv = .agg pc) {c:Nat × V × Int} (hc:c∈chgs d.kind):FzOk Tryz.prog w0 54 [mD,.agg (pc.set c.1 c.2.1)] cs (.int .i64 c.2.2):=by
 simp only [DealT.ok,Bool.and_eq_true] at ho
 obtain⟨⟨⟨h1,h2⟩,h3⟩,h4⟩:=ho
 intro w1 hs g1 hl
 have H1:=HD.le hs g1
 obtain⟨fs,hfs,hf⟩:=fsAll_ok dd d.kind
 obtain⟨t,ht,ht2⟩:=okChgs_mem h2 hx fs hfs
 simp only [okC,Bool.and_eq_true] at ht
 have hgl:∀ n c,(n,c)∈glD 32 (cellsD d)→Lies w1 n c:=by
  have key:∀ (l:List (List V)) (k:Nat),(∀ j c,l[j]? = some c→Lies w1 (k+j) (renL fz c)) → ∀ n c,(n,c)∈glD k l→Lies w1 n c:=by
   intro l
   induction l with
   | nil=>intro k _ n c hm; cases hm
   | cons x l ih=>
    intro k hk n c hm
    rcases List.mem_cons.1 hm with e | hm
    ·cases e; exact hk 0 x rfl
    ·exact ih (k+1) (fun j c hj=>by rw [show k+1+j=k+(j+1) from by omega]; exact hk (j+1) c (by simpa using hj)) n c hm
  unfold cellsD
  rw [hcs]
  exact key cs 32 hl
 simp only [okChg,hpv] at ht2
 exact Kit.run (H1.kit h3 hf hgl) ht.1 (List.all_eq_true.1 ht2 c hc)
theorem event_chg {E:Env} {h:H} {nx:Nat} {w:World} (hok:Ok w0 E h.get nx w) {ord:List Nat} {lv:List V} {ls:List Value} (hxl:VRL E lv ls)
  (hf:fits ord [mD,.agg lv] h nx [mD,d.pv] d.ps=true):∀ c∈chgs d.kind,CallOk Tryz.prog (memAt w0 E w ord) 54 [.agg #[m0,m1],.agg (ls.set c.1 (vOf c.2.1)).toArray] (.int .i64 c.2.2):=by
 intro c hc
 have hd':=ho
 simp only [DealT.ok,Bool.and_eq_true] at hd'
 have h4:=hd'.2
 simp only [okEv,Bool.and_eq_true] at h4
 obtain⟨hp,h4⟩:=h4
 have hp':=hp
 simp only [patOk,Bool.and_eq_true] at hp'
 have hm:VR E mD (.agg #[m0,m1]):=mD_ok HD hok.sym
 cases hcs:subCells d.ps with
 | none=>rw [hcs] at hp'; exact absurd hp'.2 (by simp)
 | some cs=>
  split at h4
  ·rename_i pc hpv
   have hfits:fits ord [mD,.agg (lv.set c.1 c.2.1)] h nx [mD,.agg (pc.set c.1 c.2.1)] d.ps=true:=by
    simp only [fits,Bool.and_eq_true] at hf ⊢
    refine⟨⟨?_,hf.1.2⟩,hf.2⟩
    have f1:=V.eqL_eq _ _ hf.1.1
    rw [hpv] at f1
    simp only [renL,renV,List.cons.injEq,V.agg.injEq,and_true] at f1
    have e:renL (invN ord ord.length nx) [mD,.agg (pc.set c.1 c.2.1)]=[mD,.agg (lv.set c.1 c.2.1)]:=by
     simp only [renL,renV,List.cons.injEq,V.agg.injEq,and_true]
     exact⟨f1.1,by rw [renL_set _ _ (chgs_ren hc _),f1.2]⟩
    rw [e]
    exact V.eqL_refl _
   have hpat:patOk [mD,.agg (pc.set c.1 c.2.1)] d.ps=true:=by
    simp only [patOk,Bool.and_eq_true]
    refine⟨?_,hp'.2⟩
    have h1:=hp'.1
    rw [hpv] at h1
    simp only [nmL,nmV,Bool.and_eq_true,and_true] at h1 ⊢
    refine⟨h1.1,nmL_set _ _ ?_ h1.2⟩
    rcases chgs_plain hc with⟨n,e⟩ | ⟨s,e⟩ <;> rw [e] <;> rfl
   exact callOk_of_fits (xs:=[.agg #[m0,m1],.agg (ls.set c.1 (vOf c.2.1)).toArray]) hok (VRL.cons hm (VRL.cons (show VR E (.agg _) (.agg _) from ⟨_,VRL_set c.1 hxl (vOf_ok hc),rfl⟩) VRL.nil)) hfits hpat hcs (chg_fz HD ho hx hcs hpv hc) (fun E' _=>rfl)
  ·cases h4
end
def cellO (nm:Option (List UInt8)) (l:Nat):V:=match l,nm with
 | 1,some s=>.str s
 | l,_=>.sym l
def cellsO (nm:Option (List UInt8)):List V:=(List.range 32).map (cellO nm)
noncomputable def cxO (b:Iv) (fs:Facts):CX:=⟨T.ofList .e 0 (.int .i64 (P0 0)::(List.range 33).map fun j=>.opq (j+1)),T.ofList .e 0 [b],fs,[],[]⟩
def mO:V:=.agg [.sym 32,.sym 33]
noncomputable def kitO (b:Iv) (fs:Facts):Kit:=⟨cxO b fs,[],[],.e,tmk [(52,[([mO],.int .i64 0)])],.e,.e,⟨[],[],[]⟩⟩
def i64R:Iv:=(-9223372036854775808,9223372036854775807)
def fsKL:Facts:=[([([0],1),([],-1)],⟨true,false,false⟩)]
def fsKH:Facts:=[([([0],1),([],-1)],⟨false,false,true⟩),([([0],1),([],-5)],⟨false,false,true⟩)]
theorem runKL:memoOk (kitO i64R fsKL).tab 10000 60 54 [mO,.agg (cellsO none)] (.int .i64 12)=true:=by kernel_rfl
theorem runKH:memoOk (kitO i64R fsKH).tab 10000 60 54 [mO,.agg (cellsO none)] (.int .i64 12)=true:=by kernel_rfl
theorem runNm0:memoOk (kitO (1,5) []).tab 10000 60 54 [mO,.agg (cellsO (some []))] (.int .i64 8)=true:=by kernel_rfl
theorem runNm1:memoOk (kitO (1,5) []).tab 10000 60 54 [mO,.agg (cellsO (some [57]))] (.int .i64 8)=true:=by kernel_rfl
theorem runNm2:memoOk (kitO (1,5) []).tab 10000 60 54 [mO,.agg (cellsO (some [120,45]))] (.int .i64 8)=true:=by kernel_rfl
theorem event_any {M:Mem} (hg:Good M) {m0 m1:Value} (hm0:oneV m0) (hm1:oneV m1) (hm:CallOk Tryz.prog M 52 [.agg #[m0,m1]] (.int .i64 0)) {ls:List Value} (hl:ls.length=32) (h1:∀ x∈ls,oneV x) {z:Int} (h0:ls[0]? = some (.int .i64 z))
  {nm:Option (List UInt8)} (hn:∀ s,nm=some s→ls[1]? = some (strB s)) {b:Iv} {fs:Facts} {e:Int} (hb:b.has z) (hfs:FactsHold (fun v=>if v=0 then z else 0) fs) (hrun:memoOk (kitO b fs).tab 10000 60 54 [mO,.agg (cellsO nm)] (.int .i64 e)=true) :
  CallOk Tryz.prog M 54 [.agg #[m0,m1],.agg ls.toArray] (.int .i64 e):=by
 let x:Nat→Int:=fun v=>if v=0 then z else 0
 let o:Nat→Value:=fun j=>if j<32 then (ls[j]?).getD .nilFunc else if j=32 then m0 else if j=33 then m1 else .nilFunc
 have oo:∀ j,oneV (o j):=fun j=>by
  show oneV (if j<32 then _ else _)
  split
  ·cases h:ls[j]? with
   | none=>trivial
   | some y=>exact h1 y (List.mem_of_getElem? h)
  ·split
   ·exact hm0
   ·split
    ·exact hm1
    ·trivial
 let w0:Base:={ toMem:=M,sym:=symX x o (cxO b fs).tab }
 have hone:∀ i,oneV (w0.sym i):=fun i=>symX_one oo i
 have get0:(cxO b fs).tab.get 0=some (.int .i64 (P0 0)):=by
  show (T.ofList .e 0 _).get 0=_
  rw [T.get_ofList]; rfl
 have getS:∀ j,1≤j→j<34→(cxO b fs).tab.get j=some (.opq j):=fun j h2 h3=>by
  show (T.ofList .e 0 _).get j=_
  rw [T.get_ofList,if_pos ⟨Nat.zero_le _,by simp; omega⟩]
  obtain⟨k,rfl⟩:∃ k,j=k+1:=⟨j-1,by omega⟩
  simp [List.getElem?_range (show k<33 by omega)]
 have s0:w0.sym 0 = .int .i64 z:=by
  show symX x o (cxO b fs).tab 0=_
  unfold symX
  rw [get0]
  simp only [ev_P0]; rfl
 have sj:∀ j,1≤j→j<34→w0.sym j=o j:=fun j h2 h3=>by
  show symX x o (cxO b fs).tab j=_
  unfold symX
  rw [getS j h2 h3]
 have hC:CXOk w0 x o (cxO b fs):=by
  refine⟨fun _ _ _=>rfl,fun v => ?_,hfs,(fun r hr=>by cases hr),(fun p hp=>by cases hp),oo,hg.pow _ _,hg.tabs⟩
  show (((T.ofList .e 0 [b]).get v).getD (0,0)).has (x v)
  rw [T.get_ofList]
  by_cases hv:v=0
  ·subst hv
   simpa [x] using hb
  ·rw [if_neg (by simp; omega),T.get_e]
   show Iv.has (0,0) (if v=0 then z else 0)
   rw [if_neg hv]
   exact⟨Int.le_refl _,Int.le_refl _⟩
 have hmO:∀ E,StatOk w0 E→VR E mO (.agg #[m0,m1]):=fun E hE=>by
  refine⟨[m0,m1],VRL.cons ?_ (VRL.cons ?_ VRL.nil),rfl⟩
  ·show m0=E.sym 32
   rw [hE.sym,sj 32 (by omega) (by omega)]; rfl
  ·show m1=E.sym 33
   rw [hE.sym,sj 33 (by omega) (by omega)]; rfl
 have hK:KitOk w0 x o (kitO b fs):=by
  refine⟨hC,fun f args v hv=>tmk_prim (l:=[(52,[([mO],.int .i64 0)])]) ?_ hv,(fun f es he=>by simp [kitO,T.get_e] at he),(fun n cs hn=>by simp [kitO,T.get_e] at hn),(fun p hp=>by cases hp),(fun p hp=>by cases hp),(fun p hp=>by cases hp)⟩
  intro q hq p hp
  rw [List.mem_singleton.1 hq] at hp ⊢
  rw [List.mem_singleton.1 hp]
  exact hm.contract (Mem.Le.refl _) (fun E hE=>VRL.cons (hmO E hE) VRL.nil) (fun E hE=>rfl)
 have hE0:StatOk w0 (baseE w0 hone):=base_stat
 refine (Kit.run hK (show (kitO b fs).chk=true from rfl) hrun).callOk hE0 (VRL.cons (hmO _ hE0) (VRL.cons ⟨ls,VRL.of_get (by simp [cellsO,hl]) (fun l v y h2 h3 => ?_),rfl⟩ VRL.nil)) rfl
 have hlt:l<32:=by
  have:=(List.getElem?_eq_some_iff.1 h3).1
  rw [hl] at this; exact this
 have hv:v=cellO nm l:=by
  simp only [cellsO,List.getElem?_map,List.getElem?_range hlt,Option.map_some,Option.some.injEq] at h2
  exact h2.symm
 by_cases c0:l=0
 ·subst c0
  rw [h0] at h3; cases h3
  have hv:v = .sym 0:=by rw [hv]; cases nm <;> rfl
  rw [hv]
  exact s0.symm
 ·have other:v = .sym l→VR (baseE w0 hone) v y:=fun e=>by
   rw [e]
   show y=w0.sym l
   rw [sj l (by omega) (by omega)]
   show y=if l<32 then (ls[l]?).getD .nilFunc else _
   rw [if_pos hlt,h3]; rfl
  by_cases c1:l=1
  ·subst c1
   cases hnm:nm with
   | none=>exact other (by rw [hv,hnm]; rfl)
   | some s=>
    rw [hv,hnm]
    have:=hn s hnm
    rw [h3] at this; cases this
    rfl
  ·refine other ?_
   rw [hv]
   unfold cellO
   split
   ·exact absurd rfl c1
   ·rfl
end Go.Proofs.YtkjinnjopoehhaaGreatDoor
