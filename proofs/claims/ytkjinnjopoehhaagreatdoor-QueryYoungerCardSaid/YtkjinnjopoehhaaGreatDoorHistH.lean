/-
  A history that is right, with its events.
-/
import Derived.Test.YtkjinnjopoehhaaGreatDoorChgE
import Derived.Test.YtkjinnjopoehhaaGreatDoorHistK
import Derived.Test.YtkjinnjopoehhaaGreatDoorHistN
import Derived.Test.YtkjinnjopoehhaaGreatDoorHistT
import Derived.Test.YtkjinnjopoehhaaGreatDoorHistU
set_option linter.unusedSectionVars false
set_option linter.unusedVariables false
set_option linter.unusedSimpArgs false
namespace Go.Proofs.YtkjinnjopoehhaaGreatDoor
open Go Ev Klp
structure EvIn (M:Mem) (m:Value) (e sh:Nat) (ls:List Value):Prop where
 raw:EvRaw M m e sh ls
 few:sh<7
 chg:∀ c∈chgs (shKind sh),CallOk Tryz.prog M 54 [m,.agg (ls.set c.1 (vOf c.2.1)).toArray] (.int .i64 c.2.2)
theorem EvIn.le {M M':Mem} (hl:M.Le M') {m:Value} {e sh:Nat} {ls:List Value} (h:EvIn M m e sh ls):EvIn M' m e sh ls:=⟨h.raw.le hl,h.few,fun c hc=>(h.chg c hc).le hl⟩
def EvsIn (M:Mem) (m:Value) (sv:Value):Prop := ∃ evs:List (Nat × List Value),evs.length≤3∧EvsRaw M evs sv ∧ ∀ (k:Nat) (p:Nat × List Value),evs[k]? = some p→EvIn M m k p.1 p.2
theorem EvsRaw.le {M M':Mem} (hl:M.Le M') {evs:List (Nat × List Value)} {sv:Value} (h:EvsRaw M evs sv):EvsRaw M' evs sv:=by
 rcases h with h | ⟨h0,b,c,rc,t,fr,rest,g1,g2,z,g3,g4⟩
 ·exact .inl h
 ·obtain⟨z',e'⟩:=hl.same b (Array.getElem?_eq_some_iff.1 g3).1 z
  exact .inr ⟨h0,b,c,rc,t,fr,rest,g1,g2,z',e'.trans g3,g4⟩
theorem EvsIn.le {M M':Mem} (hl:M.Le M') {m sv:Value} (h:EvsIn M m sv):EvsIn M' m sv:=by
 obtain⟨evs,h1,h2,h3⟩:=h
 exact⟨evs,h1,h2.le hl,fun k p hk=>(h3 k p hk).le hl⟩
def EvL (M:Mem) (m:Value):List Item→List (List Value)→Prop
 | [],[]=>True
 | t::its,ls::lss=>EvC M m t ls∧EvL M m its lss
 | _,_=>False
theorem EvL.len {M:Mem} {m:Value}:∀ {its:List Item} {lss:List (List Value)},EvL M m its lss→its.length=lss.length
 | [],[],_=>rfl
 | [],_::_,h=>h.elim
 | _::_,[],h=>h.elim
 | _::_,_::_,h=>by simp [EvL.len h.2]
theorem EvL.get {M:Mem} {m:Value}:∀ {its:List Item} {lss:List (List Value)},EvL M m its lss → ∀ (k:Nat) (t:Item) (ls:List Value),its[k]? = some t→lss[k]? = some ls→EvC M m t ls
 | [],[],_,k,t,ls,h,_=>by simp at h
 | [],_::_,h,_,_,_,_,_=>h.elim
 | _::_,[],h,_,_,_,_,_=>h.elim
 | a::its,b::lss,h,0,t,ls,h1,h2=>by simp at h1 h2; subst h1; subst h2; exact h.1
 | a::its,b::lss,h,k+1,t,ls,h1,h2=>EvL.get h.2 k t ls (by simpa using h1) (by simpa using h2)
theorem EvL.append {M:Mem} {m:Value}:∀ {its:List Item} {lss:List (List Value)} {its':List Item} {lss':List (List Value)},EvL M m its lss→EvL M m its' lss'→EvL M m (its++its') (lss++lss')
 | [],[],_,_,_,h=>h
 | [],_::_,_,_,h,_=>h.elim
 | _::_,[],_,_,h,_=>h.elim
 | _::_,_::_,_,_,h,h'=>⟨h.1,EvL.append h.2 h'⟩
theorem EvL.rep {M:Mem} {m:Value} {t:Item} {ls:List Value} (h:EvC M m t ls):∀ n,EvL M m (List.replicate n t) (List.replicate n ls)
 | 0=>trivial
 | n+1=>⟨h,EvL.rep h n⟩
theorem allC_at {f:List Nat→Bool} (h0:f []=true) (h:∀ a∈CL,partC f a=true):∀ {l:List Nat},l.length≤3→(∀ a∈l,a∈CL)→f l=true
 | [],_,_=>h0
 | [a],_,ha=>by
  have:=h a (ha a (by simp))
  simp only [partC,Bool.and_eq_true] at this
  exact this.1
 | [a,b],_,ha=>by
  have:=h a (ha a (by simp))
  simp only [partC,Bool.and_eq_true] at this
  have:=List.all_eq_true.1 this.2 b (ha b (by simp))
  simp only [Bool.and_eq_true] at this
  exact this.1
 | [a,b,c],_,ha=>by
  have:=h a (ha a (by simp))
  simp only [partC,Bool.and_eq_true] at this
  have:=List.all_eq_true.1 this.2 b (ha b (by simp))
  simp only [Bool.and_eq_true] at this
  exact List.all_eq_true.1 this.2 c (ha c (by simp))
 | _::_::_::_::_,h,_=>absurd h (by simp)
theorem cls_or {sh:Nat} (h:sh<7):(cls sh=9∧(shKind sh=2∨shKind sh=3∨shKind sh=5))∨(cls sh=sh∧(sh=0∨sh=1∨sh=2∨sh=5)):=by
 have:sh=0∨sh=1∨sh=2∨sh=3∨sh=4∨sh=5∨sh=6:=by omega
 rcases this with rfl | rfl | rfl | rfl | rfl | rfl | rfl <;> decide
theorem cls_mem {sh:Nat} (h:sh<7):cls sh∈CL:=by
 have:sh=0∨sh=1∨sh=2∨sh=3∨sh=4∨sh=5∨sh=6:=by omega
 rcases this with rfl | rfl | rfl | rfl | rfl | rfl | rfl <;> decide
theorem set_same {α:Type} {l:List α} {i:Nat} {v:α} (h:l[i]? = some v):l.set i v=l:=by
 apply List.ext_getElem?
 intro j
 rw [List.getElem?_set]
 by_cases hij:i=j
 ·subst hij
  rw [if_pos rfl,if_pos (List.getElem?_eq_some_iff.1 h).1,h]
 ·rw [if_neg hij]
theorem runTilt:memoOk (kitO (0,0) []).tab 10000 60 54 [mO,.agg tiltG] (.int .i64 0)=true:=by kernel_rfl
section
variable {M:Mem} (hg:Good M) {m0 m1:Value} (hm0:oneV m0) (hm1:oneV m1) (hm:CallOk Tryz.prog M 52 [.agg #[m0,m1]] (.int .i64 0))
include hg hm0 hm1 hm
theorem hist_l {its:List Item} {lss:List (List Value)} (h:EvL M (.agg #[m0,m1]) its lss) (h12:its.length≤12) {sv:Value} (hs:EvsC M lss sv) {bs:List UInt8} {z:Int} (hrun:runC bs its z=true) :
  CallOk Tryz.prog M 27 [.agg #[m0,m1,strB bs,sv]] (.int .i64 z):=hist_c hg hm0 hm1 hm h.len h12 h.get hs hrun
theorem tilt_c:EvC M (.agg #[m0,m1]) tiltI tiltR:=by
 refine⟨by simp [tiltR,tiltG],tilt_one,fun h=>absurd h (show ¬ (9:Nat)<8 by omega),fun h=>absurd h (show ¬ (9:Nat)<3 by omega),fun h=>absurd h (show ¬ (9:Nat)<8 by omega),fun h=>absurd h (show ¬ (9:Nat)<8 by omega),fun z hz => ?_,
  fun _=>nou_ok hg (by simp [tiltR,tiltG]) tilt_one (n:=5) (.inr (.inr rfl)) rfl⟩
 cases hz
 let o:Nat→Value:=fun j=>if j=32 then m0 else if j=33 then m1 else .nilFunc
 have oo:∀ j,oneV (o j):=fun j=>by
  show oneV (if j=32 then _ else _)
  split
  ·exact hm0
  ·split
   ·exact hm1
   ·trivial
 let w0:Base:={ toMem:=M,sym:=symX (fun _=>0) o (cxO (0,0) []).tab }
 have hone:∀ i,oneV (w0.sym i):=fun i=>symX_one oo i
 have sj:∀ j,1≤j→j<34→w0.sym j=o j:=fun j h2 h3=>by
  show symX _ o (T.ofList .e 0 _) j=o j
  unfold symX
  rw [T.get_ofList,if_pos ⟨Nat.zero_le _,by simp; omega⟩]
  obtain⟨k,rfl⟩:∃ k,j=k+1:=⟨j-1,by omega⟩
  simp [List.getElem?_range (show k<33 by omega)]
 have hC:CXOk w0 (fun _=>0) o (cxO (0,0) []):=by
  refine⟨fun _ _ _=>rfl,fun v => ?_,(fun f hf=>by cases hf),(fun r hr=>by cases hr),(fun p hp=>by cases hp),oo,hg.pow _ _,hg.tabs⟩
  show Iv.has (((T.ofList .e 0 [(0,0)]:T Iv).get v).getD (0,0)) 0
  rw [T.get_ofList]
  by_cases hv:v=0
  ·subst hv
   exact⟨Int.le_refl _,Int.le_refl _⟩
  ·rw [if_neg (by simp; omega),T.get_e]
   exact⟨Int.le_refl _,Int.le_refl _⟩
 have hmO:∀ E,StatOk w0 E→VR E mO (.agg #[m0,m1]):=fun E hE=>by
  refine⟨[m0,m1],VRL.cons ?_ (VRL.cons ?_ VRL.nil),rfl⟩
  ·show m0=E.sym 32
   rw [hE.sym,sj 32 (by omega) (by omega)]; rfl
  ·show m1=E.sym 33
   rw [hE.sym,sj 33 (by omega) (by omega)]; rfl
 have hK:KitOk w0 (fun _=>0) o (kitO (0,0) []):=by
  refine⟨hC,fun f args v hv=>tmk_prim (l:=[(52,[([mO],.int .i64 0)])]) ?_ hv,(fun f es he=>by simp [kitO,T.get_e] at he),(fun n cs hn=>by simp [kitO,T.get_e] at hn),(fun p hp=>by cases hp),(fun p hp=>by cases hp),(fun p hp=>by cases hp)⟩
  intro q hq p hp
  rw [List.mem_singleton.1 hq] at hp ⊢
  rw [List.mem_singleton.1 hp]
  exact hm.contract (Mem.Le.refl _) (fun E hE=>VRL.cons (hmO E hE) VRL.nil) (fun E hE=>rfl)
 have hE0:StatOk w0 (baseE w0 hone):=base_stat
 exact (Kit.run hK (show (kitO (0,0) []).chk=true from rfl) runTilt).callOk hE0 (VRL.cons (hmO _ hE0) (VRL.cons ⟨tiltR,tilt_vals _,rfl⟩ VRL.nil)) rfl
end
theorem one_set {ls:List Value} {i:Nat} {v:Value} (h:∀ x∈ls,oneV x) (hv:oneV v):∀ x∈ls.set i v,oneV x:=fun x hx=>by
 rcases List.mem_or_eq_of_mem_set hx with h' | rfl
 ·exact h x h'
 ·exact hv
theorem bad_c {M:Mem} {m:Value} {z:Int} {ls:List Value} (hl:ls.length=32) (h1:∀ x∈ls,oneV x) (h:CallOk Tryz.prog M 54 [m,.agg ls.toArray] (.int .i64 z)):EvC M m (badI z) ls:=
 ⟨hl,h1,fun h=>absurd h (show ¬ (8:Nat)<8 by omega),fun h=>absurd h (show ¬ (8:Nat)<3 by omega),fun h=>absurd h (show ¬ (8:Nat)<8 by omega),fun h=>absurd h (show ¬ (8:Nat)<8 by omega),fun u hu=>by cases hu; exact h,fun h=>absurd h (show ¬ (8:Nat)=9 by omega)⟩
theorem any_c {M:Mem} {m:Value} {ls:List Value} (hl:ls.length=32) (h1:∀ x∈ls,oneV x):EvC M m anyI ls:=
 ⟨hl,h1,fun h=>absurd h (show ¬ (8:Nat)<8 by omega),fun h=>absurd h (show ¬ (8:Nat)<3 by omega),fun h=>absurd h (show ¬ (8:Nat)<8 by omega),fun h=>absurd h (show ¬ (8:Nat)<8 by omega),(fun u hu=>by cases hu),fun h=>absurd h (show ¬ (8:Nat)=9 by omega)⟩
theorem none_c {M:Mem} (hg:Good M) {m:Value} {e n:Nat} (hn:n=2∨n=3∨n=5) {ls:List Value} (hl:ls.length=32) (h1:∀ x∈ls,oneV x) (h0:ls[0]? = some (.int .i64 (Int.ofNat n))) (h:CallOk Tryz.prog M 54 [m,.agg ls.toArray] (.int .i64 0)):EvC M m ⟨e,9,some 0⟩ ls:=
 ⟨hl,h1,fun h=>absurd h (show ¬ (9:Nat)<8 by omega),fun h=>absurd h (show ¬ (9:Nat)<3 by omega),fun h=>absurd h (show ¬ (9:Nat)<8 by omega),fun h=>absurd h (show ¬ (9:Nat)<8 by omega),fun u hu=>by cases hu; exact h,fun _=>nou_ok hg hl h1 hn h0⟩
theorem EvIn.c {M:Mem} (hg:Good M) {m:Value} {e sh:Nat} {ls:List Value} (h:EvIn M m e sh ls):EvC M m ⟨e,cls sh,some 0⟩ ls:=by
 rcases cls_or h.few with⟨e9,hk⟩ | ⟨es,_⟩
 ·rw [e9]
  exact none_c hg hk h.raw.len h.raw.one h.raw.kind h.raw.chk
 ·rw [es]
  exact h.raw.toC h.few
theorem EvIn.fine {M:Mem} (hg:Good M) {m:Value} {e sh:Nat} {ls:List Value} (h:EvIn M m e sh ls):EvC M m ⟨e,cls sh,some 0⟩ (ls.set 1 (strB [102,105,110,101])):=by
 have hk:∀ j,j≠1→(ls.set 1 (strB [102,105,110,101]))[j]? = ls[j]? := fun j hj=>by rw [List.getElem?_set,if_neg (Ne.symm hj)]
 have hch:=h.chg (1,.str [102,105,110,101],0) (List.mem_append_right _ (List.mem_cons_self ..))
 have hl:(ls.set 1 (strB [102,105,110,101])).length=32:=by rw [List.length_set]; exact h.raw.len
 rcases cls_or h.few with⟨e9,hkd⟩ | ⟨es,_⟩
 ·rw [e9]
  exact none_c hg hkd hl (one_set h.raw.one trivial) (by rw [hk 0 (by omega)]; exact h.raw.kind) hch
 ·rw [es]
  have hc:=h.raw.toC h.few
  have h7:=h.few
  exact⟨hl,one_set hc.one trivial,fun h8=>by rw [hk 0 (by omega)]; exact hc.kind h8,fun hs=>by rw [hk 3 (by omega)]; exact hc.units hs,fun h8 hs=>by rw [hk 3 (by omega)]; exact hc.nounits h8 hs,fun h8=>by rw [hk 24 (by omega)]; exact hc.dike h8,fun z hz=>by cases hz; exact hch,
   fun (h9:sh=9)=>absurd h9 (by omega)⟩
theorem EvIn.unitz {M:Mem} {m:Value} {e:Nat} {ls:List Value} (h:EvIn M m e 5 ls):EvC M m ⟨e,7,some 0⟩ (ls.set 24 (strB [122])):=by
 have hc:=h.raw.toC h.few
 have hk:∀ j,j≠24→(ls.set 24 (strB [122]))[j]? = ls[j]? := fun j hj=>by rw [List.getElem?_set,if_neg (Ne.symm hj)]
 refine⟨by rw [List.length_set]; exact hc.len,one_set hc.one trivial,fun _=>by rw [hk 0 (by omega)]; exact hc.kind (show (5:Nat)<8 by omega),fun hs=>absurd hs (show ¬ (7:Nat)<3 by omega),
  fun _ _=>by rw [hk 3 (by omega)]; exact hc.nounits (show (5:Nat)<8 by omega) (show ¬ (5:Nat)<3 by omega),fun _ => ?_,fun z hz => ?_,fun h=>absurd h (show ¬ (7:Nat)=9 by omega)⟩
 ·rw [List.getElem?_set,if_pos rfl,if_pos (by rw [hc.len]; omega)]; rfl
 ·cases hz
  exact h.chg (24,.str [122],cond (Nat.beq (shKind 5) 4) 0 7) (List.mem_append_right _ (List.mem_cons_of_mem _ (List.mem_cons_self ..)))
theorem EvIn.noz {M:Mem} {m:Value} {e sh:Nat} {ls:List Value} (h:EvIn M m e sh ls) (h5:sh≠5):EvC M m (badI 7) (ls.set 24 (strB [122])):=by
 refine bad_c (by rw [List.length_set]; exact h.raw.len) (one_set h.raw.one trivial) ?_
 have hk:Nat.beq (shKind sh) 4=false:=by
  refine nbeq_false ?_
  have:=h.few
  have:sh=0∨sh=1∨sh=2∨sh=3∨sh=4∨sh=6:=by omega
  rcases this with rfl | rfl | rfl | rfl | rfl | rfl <;> decide
 have:=h.chg (24,.str [122],cond (Nat.beq (shKind sh) 4) 0 7) (List.mem_append_right _ (List.mem_cons_of_mem _ (List.mem_cons_self ..)))
 rw [hk] at this
 exact this
theorem shKind_rg {sh:Nat} (h:sh<7):1≤shKind sh∧shKind sh≤5:=by
 have:sh=0∨sh=1∨sh=2∨sh=3∨sh=4∨sh=5∨sh=6:=by omega
 rcases this with rfl | rfl | rfl | rfl | rfl | rfl | rfl <;> decide
section
variable {M:Mem} (hg:Good M) {m0 m1:Value} (hm0:oneV m0) (hm1:oneV m1) (hm:CallOk Tryz.prog M 52 [.agg #[m0,m1]] (.int .i64 0))
include hg hm0 hm1 hm
theorem EvIn.kindz {e sh:Nat} {ls:List Value} (h:EvIn M (.agg #[m0,m1]) e sh ls) {z:Int} (hz : -9223372036854775808≤z∧z≤9223372036854775807):ls.set 0 (.int .i64 z)=ls ∨ ∃ u∈errsC,EvC M (.agg #[m0,m1]) (badI u) (ls.set 0 (.int .i64 z)):=by
 have hl:(ls.set 0 (.int .i64 z)).length=32:=by rw [List.length_set]; exact h.raw.len
 have h1:∀ x∈ls.set 0 (.int .i64 z),oneV x:=one_set h.raw.one trivial
 have h0:(ls.set 0 (.int .i64 z))[0]? = some (.int .i64 z):=by rw [List.getElem?_set,if_pos rfl,if_pos (by rw [h.raw.len]; omega)]
 have fx:(fun v=>if v=0 then z else 0:Nat→Int) 0=z:=rfl
 by_cases lo:z<1
 ·refine .inr ⟨12,by simp [errsC],bad_c hl h1 (event_any hg hm0 hm1 hm hl h1 h0 (nm:=none) (fun s hs=>by cases hs) (b:=i64R) hz (fs:=fsKL) (fact_cons ?_ (fact_nil _)) runKL)⟩
  have:Poly.ev (fun v=>if v=0 then z else 0) [([0],1),([],-1)]=z-1:=by
   show 1*(z*1)+(-1*1+0)=z-1
   omega
  rw [this]
  exact⟨fun _=>rfl,fun e=>by omega,fun e=>by omega⟩
 ·by_cases hi:5<z
  ·refine .inr ⟨12,by simp [errsC],bad_c hl h1 (event_any hg hm0 hm1 hm hl h1 h0 (nm:=none) (fun s hs=>by cases hs) (b:=i64R) hz (fs:=fsKH) (fact_cons ?_ (fact_cons ?_ (fact_nil _))) runKH)⟩
   ·have:Poly.ev (fun v=>if v=0 then z else 0) [([0],1),([],-1)]=z-1:=by
     show 1*(z*1)+(-1*1+0)=z-1
     omega
    rw [this]
    exact⟨fun e=>by omega,fun e=>by omega,fun _=>rfl⟩
   ·have:Poly.ev (fun v=>if v=0 then z else 0) [([0],1),([],-5)]=z-5:=by
     show 1*(z*1)+(-5*1+0)=z-5
     omega
    rw [this]
    exact⟨fun e=>by omega,fun e=>by omega,fun _=>rfl⟩
  ·obtain⟨n,rfl⟩:∃ n:Nat,z=Int.ofNat (n+1):=⟨(z-1).toNat,by simp; omega⟩
   have hn5:n<5:=by have:Int.ofNat (n+1)=(n:Int)+1:=rfl; omega
   by_cases hk:n+1=shKind sh
   ·left
    refine set_same ?_
    rw [h.raw.kind,hk]
   ·refine .inr ⟨7,by simp [errsC],bad_c hl h1 ?_⟩
    refine h.chg (0,.int .i64 (Int.ofNat (n+1)),7) (List.mem_append_left _ (List.mem_map.2 ⟨n,List.mem_filter.2 ⟨List.mem_range.2 hn5,?_⟩,rfl⟩))
    rw [nbeq_false hk]; rfl
theorem EvIn.namez {e sh:Nat} {ls:List Value} (h:EvIn M (.agg #[m0,m1]) e sh ls) {nm:List UInt8} (hn:nm=[]∨nm=[57]∨nm=[120,45]):EvC M (.agg #[m0,m1]) (badI 8) (ls.set 1 (strB nm)):=by
 have hl:(ls.set 1 (strB nm)).length=32:=by rw [List.length_set]; exact h.raw.len
 have h1:∀ x∈ls.set 1 (strB nm),oneV x:=one_set h.raw.one trivial
 have h0:(ls.set 1 (strB nm))[0]? = some (.int .i64 (Int.ofNat (shKind sh))):=by rw [List.getElem?_set,if_neg (by omega)]; exact h.raw.kind
 have h1':(ls.set 1 (strB nm))[1]? = some (strB nm):=by rw [List.getElem?_set,if_pos rfl,if_pos (by rw [h.raw.len]; omega)]
 have hk:=shKind_rg h.few
 have hb:Iv.has (1,5) (Int.ofNat (shKind sh)):=⟨Int.ofNat_le.2 hk.1,Int.ofNat_le.2 hk.2⟩
 refine bad_c hl h1 ?_
 rcases hn with rfl | rfl | rfl
 ·exact event_any hg hm0 hm1 hm hl h1 h0 (nm:=some []) (fun s hs=>by cases hs; exact h1') hb (fs:=[]) (fact_nil _) runNm0
 ·exact event_any hg hm0 hm1 hm hl h1 h0 (nm:=some [57]) (fun s hs=>by cases hs; exact h1') hb (fs:=[]) (fact_nil _) runNm1
 ·exact event_any hg hm0 hm1 hm hl h1 h0 (nm:=some [120,45]) (fun s hs=>by cases hs; exact h1') hb (fs:=[]) (fact_nil _) runNm2
end
def clsL (evs:List (Nat × List Value)):List Nat:=evs.map fun p=>cls p.1
theorem evs_l {M:Mem} (hg:Good M) {m:Value}:∀ {evs:List (Nat × List Value)} {e:Nat},(∀ (k:Nat) (p:Nat × List Value),evs[k]? = some p→EvIn M m (e+k) p.1 p.2)→EvL M m (itemsOf e (clsL evs)) (evs.map (·.2))
 | [],_,_=>trivial
 | p::l,e,h=>⟨(h 0 p rfl).c hg,evs_l hg fun k q hk=>by rw [show e+1+k=e+(k+1) from by omega]; exact h (k+1) q (by simpa using hk)⟩
theorem evs_any {M:Mem} {m:Value}:∀ {evs:List (Nat × List Value)},(∀ p∈evs,p.2.length=32 ∧ ∀ x∈p.2,oneV x)→EvL M m (List.replicate evs.length anyI) (evs.map (·.2))
 | [],_=>trivial
 | p::l,h=>⟨any_c (h p (List.mem_cons_self ..)).1 (h p (List.mem_cons_self ..)).2,evs_any fun q hq=>h q (List.mem_cons_of_mem _ hq)⟩
theorem items_len:∀ (l:List Nat) (e:Nat),(itemsOf e l).length=l.length
 | [],_=>rfl
 | _::l,e=>by simp [itemsOf,items_len l]
theorem items_get:∀ (l:List Nat) (e k sh:Nat),l[k]? = some sh→(itemsOf e l)[k]? = some ⟨e+k,sh,some 0⟩
 | [],_,_,_,h=>by simp at h
 | a::l,e,0,sh,h=>by simp at h; subst h; rfl
 | a::l,e,k+1,sh,h=>by
  have:=items_get l (e+1) k sh (by simpa using h)
  rw [show e+1+k=e+(k+1) from by omega] at this
  exact this
theorem EvL.set {M:Mem} {m:Value}:∀ {its:List Item} {lss:List (List Value)} (k:Nat) {t:Item} {ls:List Value},EvL M m its lss→EvC M m t ls→EvL M m (its.set k t) (lss.set k ls)
 | [],[],_,_,_,_,_=>trivial
 | [],_::_,_,_,_,h,_=>h.elim
 | _::_,[],_,_,_,h,_=>h.elim
 | _::_,_::_,0,_,_,h,h'=>⟨h',h.2⟩
 | _::_,_::_,k+1,_,_,h,h'=>⟨h.1,EvL.set k h.2 h'⟩
theorem EvsC.one {M:Mem} {lss:List (List Value)} {sv:Value} (h:EvsC M lss sv):oneV sv:=by
 rcases h with⟨_,rfl⟩ | ⟨_,_,_,_,_,_,_,rfl,_⟩ <;> trivial
theorem EvsC.len {M:Mem} {lss:List (List Value)} {sv:Value} (h:EvsC M lss sv) (h0:lss≠[]):∃ a c,sv=Value.slice a lss.length c:=by
 rcases h with⟨h,_⟩ | ⟨_,_,_,_,_,_,_,rfl,_⟩
 ·exact absurd h h0
 ·exact⟨_,_,rfl⟩
theorem dup_rg (a:Nat):0≤dupSh a∧dupSh a≤40:=by unfold dupSh; cases (Nat.blt a 3||Nat.beq a 5) <;> simp
theorem errs_rg {u:Int} (h:u∈errsC):0≤u∧u≤40:=by
 simp only [errsC,List.mem_cons,List.not_mem_nil,or_false] at h
 rcases h with rfl | rfl | rfl <;> omega
section
variable {M:Mem} (hg:Good M) {m0 m1:Value} (hm0:oneV m0) (hm1:oneV m1) (hm:CallOk Tryz.prog M 52 [.agg #[m0,m1]] (.int .i64 0))
 {evs:List (Nat × List Value)} (h2:evs.length≤3) (hin:∀ (k:Nat) (p:Nat × List Value),evs[k]? = some p→EvIn M (.agg #[m0,m1]) k p.1 p.2)
include hg hm0 hm1 hm h2 hin
theorem cls_few:∀ a∈clsL evs,a∈CL:=fun a ha=>by
 obtain⟨p,hp,rfl⟩:=List.mem_map.1 ha
 obtain⟨k,hk⟩:=List.mem_iff_getElem?.1 hp
 exact cls_mem (hin k p hk).few
theorem hin_all:∀ p∈evs,p.2.length=32 ∧ ∀ x∈p.2,oneV x:=fun p hp=>by
 obtain⟨k,hk⟩:=List.mem_iff_getElem?.1 hp
 exact⟨(hin k p hk).raw.len,(hin k p hk).raw.one⟩
theorem hist_all {f:List Nat→Bool} (h0:f []=true) (ha:CL.all (partC f)=true):f (clsL evs)=true:=
 allC_at h0 (fun a h=>List.all_eq_true.1 ha a h) (by rw [clsL,List.length_map]; exact h2) (cls_few hg hm0 hm1 hm h2 hin)
theorem hist_its:EvL M (.agg #[m0,m1]) (itemsOf 0 (clsL evs)) (evs.map (·.2)):=evs_l hg fun k p hk=>by rw [Nat.zero_add]; exact hin k p hk
theorem its_len:(itemsOf 0 (clsL evs)).length=evs.length:=by rw [items_len,clsL,List.length_map]
theorem hist_plain {sv:Value} (hs:EvsC M (evs.map (·.2)) sv):CallOk Tryz.prog M 27 [.agg #[m0,m1,strB b0,sv]] (.int .i64 0):=
 hist_l hg hm0 hm1 hm (hist_its hg hm0 hm1 hm h2 hin) (by rw [its_len hg hm0 hm1 hm h2 hin]; omega) hs (hist_all hg hm0 hm1 hm h2 hin plain_0 plain_a)
theorem hist_base {sv:Value} (hs:EvsC M (evs.map (·.2)) sv) {j:Nat} (hj:j<5):∃ z:Int,CallOk Tryz.prog M 27 [.agg #[m0,m1,strB ((basesG[j]?).getD []),sv]] (.int .i64 z)∧0≤z∧z≤40:=by
 have hL:=hist_its hg hm0 hm1 hm h2 hin
 have hlen:(itemsOf 0 (clsL evs)).length≤12:=by rw [its_len hg hm0 hm1 hm h2 hin]; omega
 have hq:∀ bs∈([[],[49],[97,32,98]]:List (List UInt8)),CallOk Tryz.prog M 27 [.agg #[m0,m1,strB bs,sv]] (.int .i64 8):=fun bs hbs=>
  hist_q hg hm0 hm1 hs.one hm (n:=none) (fun k hk=>by cases hk) (List.all_eq_true.1 runQ_b bs hbs)
 match j,hj with
 | 0,_=>exact⟨8,hq [] (by simp),by omega,by omega⟩
 | 1,_=>exact⟨8,hq [49] (by simp),by omega,by omega⟩
 | 2,_=>exact⟨8,hq [97,32,98] (by simp),by omega,by omega⟩
 | 3,_=>exact⟨_,hist_l hg hm0 hm1 hm hL hlen hs (hist_all hg hm0 hm1 hm h2 hin baseA_0 baseA_a),by cases (Nat.blt (firstSh (clsL evs)) 3) <;> simp,by cases (Nat.blt (firstSh (clsL evs)) 3) <;> simp⟩
 | 4,_=>exact⟨_,hist_l hg hm0 hm1 hm hL hlen hs (hist_all hg hm0 hm1 hm h2 hin baseK_0 baseK_a),by cases (Nat.beq (firstSh (clsL evs)) 5) <;> simp,by cases (Nat.beq (firstSh (clsL evs)) 5) <;> simp⟩
 | n+5,h=>exact absurd h (by omega)
theorem hist_tilts {sv:Value} {j:Nat} (hj:j<4) (hs:EvsC M (evs.map (·.2)++List.replicate (11+j-evs.length) tiltR) sv):∃ z:Int,CallOk Tryz.prog M 27 [.agg #[m0,m1,strB b0,sv]] (.int .i64 z)∧0≤z∧z≤40:=by
 have hT:∀ n,EvL M (.agg #[m0,m1]) (itemsOf 0 (clsL evs)++List.replicate n tiltI) (evs.map (·.2)++List.replicate n tiltR):=fun n=>(hist_its hg hm0 hm1 hm h2 hin).append (EvL.rep (tilt_c hg hm0 hm1 hm) n)
 have hlen:(evs.map (·.2)++List.replicate (11+j-evs.length) tiltR).length=11+j:=by simp; omega
 have hne:evs.map (·.2)++List.replicate (11+j-evs.length) tiltR≠[]:=fun h=>by rw [h] at hlen; simp at hlen; omega
 have hsl:=hs.len hne
 rw [hlen] at hsl
 have hl':=(hT (11+j-evs.length)).len
 rw [hlen] at hl'
 have hcl:(clsL evs).length=evs.length:=by rw [clsL,List.length_map]
 rcases (by omega:j=0∨j=1∨j=2∨j=3) with rfl | rfl | rfl | rfl
 ·have hr:=hist_all hg hm0 hm1 hm h2 hin t11_0 t11_a
  unfold t11C at hr
  rw [hcl] at hr
  exact⟨0,hist_l hg hm0 hm1 hm (hT (11-evs.length)) (Nat.le_trans (Nat.le_of_eq hl') (by omega)) hs hr,by omega,by omega⟩
 ·have hr:=hist_all hg hm0 hm1 hm h2 hin t12_0 t12_a
  unfold t12C at hr
  rw [hcl] at hr
  exact⟨0,hist_l hg hm0 hm1 hm (hT (12-evs.length)) (Nat.le_trans (Nat.le_of_eq hl') (by omega)) hs hr,by omega,by omega⟩
 ·exact⟨4,hist_q hg hm0 hm1 hs.one hm (n:=some 13) (fun k hk=>by cases hk; exact hsl) runQ_13,by omega,by omega⟩
 ·exact⟨4,hist_q hg hm0 hm1 hs.one hm (n:=some 14) (fun k hk=>by cases hk; exact hsl) runQ_14,by omega,by omega⟩
theorem nth_cls {k:Nat} {p:Nat × List Value} (hk:evs[k]? = some p):nthC (clsL evs) k=cls p.1:=by
 unfold nthC clsL
 rw [List.getElem?_map,hk]; rfl
theorem hist_copy {k:Nat} (hk:k<max1 evs.length) {sv:Value} (hs:EvsC M (evs.map (·.2)++((evs.map (·.2)).drop k).take 1) sv):∃ z:Int,CallOk Tryz.prog M 27 [.agg #[m0,m1,strB b0,sv]] (.int .i64 z)∧0≤z∧z≤40:=by
 by_cases h0:evs=[]
 ·subst h0
  exact⟨0,hist_plain hg hm0 hm1 hm h2 hin (by simpa using hs),by omega,by omega⟩
 ·have hkl:k<evs.length:=by
   have:=List.length_pos_iff.2 h0
   unfold max1 at hk
   rw [nbeq_false (by omega),cond_false] at hk
   exact hk
  have hp:evs[k]? = some evs[k]:=List.getElem?_eq_getElem hkl
  generalize evs[k]=p at hp
  have hd:((evs.map (·.2)).drop k).take 1=[p.2]:=by
   rw [List.drop_eq_getElem_cons (by rw [List.length_map]; exact hkl),List.take_succ_cons,List.take_zero]
   have:(evs.map (·.2))[k]? = some p.2:=by rw [List.getElem?_map,hp]; rfl
   rw [List.getElem?_eq_getElem (by rw [List.length_map]; exact hkl)] at this
   rw [Option.some.inj this]
  rw [hd] at hs
  have hr:=hist_all hg hm0 hm1 hm h2 hin copy_0 copy_a
  have hcl:(clsL evs).length=evs.length:=by rw [clsL,List.length_map]
  have hr:=List.all_eq_true.1 hr k (List.mem_range.2 (by omega))
  rw [nth_cls hg hm0 hm1 hm h2 hin hp] at hr
  exact⟨_,hist_l hg hm0 hm1 hm ((hist_its hg hm0 hm1 hm h2 hin).append (its':=[⟨k,cls p.1,some 0⟩]) (lss':=[p.2]) ⟨(hin k p hp).c hg,trivial⟩) (by rw [List.length_append,its_len hg hm0 hm1 hm h2 hin]; simp; omega) hs hr,dup_rg _⟩
theorem hist_set {k:Nat} {p:Nat × List Value} (hk:evs[k]? = some p) {ls':List Value} {it:Item} (hit:EvC M (.agg #[m0,m1]) it ls')
  (hc:it=⟨k,cls p.1,some 0⟩∨(it=⟨k,7,some 0⟩∧p.1=5) ∨ ∃ u∈errsC,it=badI u) {sv:Value} (hs:EvsC M ((evs.map (·.2)).set k ls') sv) :
  ∃ z:Int,CallOk Tryz.prog M 27 [.agg #[m0,m1,strB b0,sv]] (.int .i64 z)∧0≤z∧z≤40:=by
 have hkl:=(List.getElem?_eq_some_iff.1 hk).1
 have hcl:(clsL evs).length=evs.length:=by rw [clsL,List.length_map]
 have hck:(clsL evs)[k]? = some (cls p.1):=by rw [clsL,List.getElem?_map,hk]; rfl
 have hL:=(hist_its hg hm0 hm1 hm h2 hin).set k hit
 have hl:((itemsOf 0 (clsL evs)).set k it).length≤12:=by rw [List.length_set,its_len hg hm0 hm1 hm h2 hin]; omega
 rcases hc with rfl | ⟨rfl,h5⟩ | ⟨u,hu,rfl⟩
 ·have he:(itemsOf 0 (clsL evs)).set k ⟨k,cls p.1,some 0⟩=itemsOf 0 (clsL evs):=set_same (by have:=items_get _ 0 k _ hck; rwa [Nat.zero_add] at this)
  rw [he] at hL hl
  exact⟨0,hist_l hg hm0 hm1 hm hL hl hs (hist_all hg hm0 hm1 hm h2 hin plain_0 plain_a),by omega,by omega⟩
 ·have hr:=hist_all hg hm0 hm1 hm h2 hin unit_0 unit_a
  have hr:=List.all_eq_true.1 hr k (List.mem_range.2 (by omega))
  rw [nth_cls hg hm0 hm1 hm h2 hin hk,h5,show Nat.beq (cls 5) 5=true from rfl,cond_true] at hr
  exact⟨0,hist_l hg hm0 hm1 hm hL hl hs hr,by omega,by omega⟩
 ·have hin':∀ (j:Nat) (q:Nat × List Value),(evs.take k)[j]? = some q→EvIn M (.agg #[m0,m1]) j q.1 q.2:=fun j q hj=>by
   rw [List.getElem?_take] at hj
   split at hj
   ·exact hin j q hj
   ·cases hj
  have hpre:EvL M (.agg #[m0,m1]) (itemsOf 0 (clsL (evs.take k))) ((evs.take k).map (·.2)):=evs_l hg fun j q hj=>by rw [Nat.zero_add]; exact hin' j q hj
  have hsuf:EvL M (.agg #[m0,m1]) (List.replicate (evs.drop (k+1)).length anyI) ((evs.drop (k+1)).map (·.2)):=evs_any fun q hq=>hin_all hg hm0 hm1 hm h2 hin q (List.mem_of_mem_drop hq)
  have hall:=hpre.append (its':=badI u::List.replicate (evs.drop (k+1)).length anyI) (lss':=ls'::(evs.drop (k+1)).map (·.2)) ⟨hit,hsuf⟩
  have e1:(evs.take k).map (·.2)++ls'::(evs.drop (k+1)).map (·.2)=(evs.map (·.2)).set k ls':=by
   rw [List.set_eq_take_append_cons_drop,if_pos (by rw [List.length_map]; exact hkl),List.map_take,List.map_drop]
  rw [← e1] at hs
  have ht:(evs.take k).length=k:=by rw [List.length_take]; omega
  have hr:=hist_all hg hm0 hm1 hm (evs:=evs.take k) (by omega) hin' bad_0 bad_a
  unfold badC at hr
  rw [show (clsL (evs.take k)).length=k from by rw [clsL,List.length_map,ht]] at hr
  have hr:=List.all_eq_true.1 hr (evs.drop (k+1)).length (List.mem_range.2 (by rw [List.length_drop]; omega))
  exact⟨u,hist_l hg hm0 hm1 hm hall (by rw [hall.len]; simp; omega) hs (List.all_eq_true.1 hr u hu),errs_rg hu⟩
end
theorem setAt_nil {α:Type} (k i:Nat) (v:α):setAt [] k i v=[]:=by simp [setAt]
theorem setAt_map {evs:List (Nat × List Value)} {k:Nat} {p:Nat × List Value} (hk:evs[k]? = some p) (i:Nat) (v:Value):setAt (evs.map (·.2)) k i v=(evs.map (·.2)).set k (p.2.set i v):=by
 unfold setAt
 rw [List.getElem?_map,hk]; rfl
theorem set_self {evs:List (Nat × List Value)} {k:Nat} {p:Nat × List Value} (hk:evs[k]? = some p):(evs.map (·.2)).set k p.2=evs.map (·.2):=set_same (by rw [List.getElem?_map,hk]; rfl)
theorem hist_changed {M:Mem} (hg:Good M) {m0:Value} (hm0:oneV m0) {b1 nt:Nat} (hm:CallOk Tryz.prog M 52 [.agg #[m0,slV b1 nt nt]] (.int .i64 0)) {evs:List (Nat × List Value)} (h2:evs.length≤3)
  (hin:∀ (k:Nat) (p:Nat × List Value),evs[k]? = some p→EvIn M (.agg #[m0,slV b1 nt nt]) k p.1 p.2) {at_:Int} (ha:0≤at_∧at_≤255) {t:ChgT} (hn:t.n=evs.length) (hj:t.j<8) (hj5:t.j=1→t.j5<5) (hj4:t.j=3∨t.j=6→t.j4<4) (hk:t.k<max1 evs.length)
  (hbad:t.j=2 → ∃ z:Nat,z<30∧CallOk Tryz.prog M 52 [.agg #[m0,cutV b1 nt]] (.int .i64 (Int.ofNat (z+1))))
  {sv:Value} (hs:EvsC M (expd t (evs.map (·.2)) tiltR (.int .i64 (at_-1)) (strB (nameG t)) (strB [122])) sv) :
  ∃ z:Int,CallOk Tryz.prog M 27 [.agg #[m0,cond (Nat.beq t.j 2) (cutV b1 nt) (slV b1 nt nt),strB (basG t),sv]] (.int .i64 z)∧(0≤z∧z≤40)∧(z=0→t.j≠2):=by
 obtain⟨n,nt',j,j5,j4,k⟩:=t
 simp only at hn hj hj5 hj4 hk hbad
 have hm1:oneV (slV b1 nt nt):=trivial
 have plain:EvsC M (evs.map (·.2)) sv → ∃ z:Int,CallOk Tryz.prog M 27 [.agg #[m0,slV b1 nt nt,strB b0,sv]] (.int .i64 z)∧0≤z∧z≤40:=fun h=>⟨0,hist_plain hg hm0 hm1 hm h2 hin h,by omega,by omega⟩
 have hev:evs=[] ∨ ∃ p,evs[k]? = some p:=by
  cases evs with
  | nil=>exact .inl rfl
  | cons a l=>
   have hk:k<l.length+1:=hk
   exact .inr ⟨(a::l)[k],List.getElem?_eq_getElem (by simpa using hk)⟩
 have fin:j≠2→j≠1→(∃ z:Int,CallOk Tryz.prog M 27 [.agg #[m0,slV b1 nt nt,strB b0,sv]] (.int .i64 z)∧0≤z∧z≤40) → ∃ z:Int,CallOk Tryz.prog M 27 [.agg #[m0,cond (Nat.beq j 2) (cutV b1 nt) (slV b1 nt nt),strB (basG ⟨n,nt',j,j5,j4,k⟩),sv]] (.int .i64 z)∧(0≤z∧z≤40)∧(z=0→j≠2):=by
  rintro h2 h1 ⟨z,hz,hr⟩
  refine⟨z,?_,hr,fun _=>h2⟩
  have e:basG ⟨n,nt',j,j5,j4,k⟩=b0:=by
   show cond (Nat.beq j 1) _ b0=b0
   rw [nbeq_false h1,cond_false]
  rw [e,nbeq_false h2,cond_false]
  exact hz
 match j,hj with
 | 0,_=>exact fin (by omega) (by omega) (plain hs)
 | 1,_=>
  obtain⟨z,hz,hr⟩:=hist_base hg hm0 hm1 hm h2 hin hs (hj5 rfl)
  exact⟨z,hz,hr,fun _=>show (1:Nat)≠2 by omega⟩
 | 2,_=>
  obtain⟨z,hz,hc⟩:=hbad rfl
  refine⟨_,hist_q hg hm0 (show oneV (cutV b1 nt) from trivial) (EvsC.one hs) hc (n:=none) (fun k hk=>by cases hk) (List.all_eq_true.1 runQ_m z (List.mem_range.2 hz)),⟨Int.natCast_nonneg _,?_⟩,fun h => ?_⟩
  ·have:Int.ofNat (z+1)=(z:Int)+1:=rfl
   omega
  ·have:Int.ofNat (z+1)=(z:Int)+1:=rfl
   exfalso
   omega
 | 3,_=>
  have hs:EvsC M (evs.map (·.2)++List.replicate (11+j4-n) tiltR) sv:=hs
  rw [hn] at hs
  exact fin (by omega) (by omega) (hist_tilts hg hm0 hm1 hm h2 hin (hj4 (.inl rfl)) hs)
 | 4,_=>exact fin (by omega) (by omega) (hist_copy hg hm0 hm1 hm h2 hin hk hs)
 | 5,_=>
  refine fin (by omega) (by omega) ?_
  have hs:EvsC M (setAt (evs.map (·.2)) k 0 (.int .i64 (at_-1))) sv:=hs
  rcases hev with rfl | ⟨p,hp⟩
  ·rw [List.map_nil,setAt_nil] at hs
   exact plain hs
  ·rw [setAt_map hp] at hs
   rcases (hin k p hp).kindz hg hm0 hm1 hm (z:=at_-1) (by omega) with e | ⟨u,hu,hc⟩
   ·rw [e,set_self hp] at hs
    exact plain hs
   ·exact hist_set hg hm0 hm1 hm h2 hin hp hc (.inr (.inr ⟨u,hu,rfl⟩)) hs
 | 6,_=>
  refine fin (by omega) (by omega) ?_
  have hs:EvsC M (setAt (evs.map (·.2)) k 1 (strB ((namesG[j4]?).getD []))) sv:=hs
  rcases hev with rfl | ⟨p,hp⟩
  ·rw [List.map_nil,setAt_nil] at hs
   exact plain hs
  ·rw [setAt_map hp] at hs
   have bad:∀ nm,(nm=[]∨nm=[57]∨nm=[120,45])→EvsC M ((evs.map (·.2)).set k (p.2.set 1 (strB nm))) sv → ∃ z:Int,CallOk Tryz.prog M 27 [.agg #[m0,slV b1 nt nt,strB b0,sv]] (.int .i64 z)∧0≤z∧z≤40:=fun nm h hs=>
    hist_set hg hm0 hm1 hm h2 hin hp ((hin k p hp).namez hg hm0 hm1 hm h) (.inr (.inr ⟨8,by simp [errsC],rfl⟩)) hs
   match j4,hj4 (.inr rfl) with
   | 0,_=>exact bad [] (.inl rfl) hs
   | 1,_=>exact bad [57] (.inr (.inl rfl)) hs
   | 2,_=>exact bad [120,45] (.inr (.inr rfl)) hs
   | 3,_=>exact hist_set hg hm0 hm1 hm h2 hin hp ((hin k p hp).fine hg) (.inl rfl) hs
   | m+4,h=>exact absurd h (by omega)
 | 7,_=>
  refine fin (by omega) (by omega) ?_
  have hs:EvsC M (setAt (evs.map (·.2)) k 24 (strB [122])) sv:=hs
  rcases hev with rfl | ⟨p,hp⟩
  ·rw [List.map_nil,setAt_nil] at hs
   exact plain hs
  ·rw [setAt_map hp] at hs
   by_cases h5:p.1=5
   ·have hi:=hin k p hp
    rw [h5] at hi
    exact hist_set hg hm0 hm1 hm h2 hin hp hi.unitz (.inr (.inl ⟨rfl,h5⟩)) hs
   ·exact hist_set hg hm0 hm1 hm h2 hin hp ((hin k p hp).noz h5) (.inr (.inr ⟨7,by simp [errsC],rfl⟩)) hs
 | m+8,h=>exact absurd h (by omega)
structure HistR (M:Mem) (m0 m1 sv:Value):Prop where
 chk:CallOk Tryz.prog M 27 [.agg #[m0,m1,strB b0,sv]] (.int .i64 0)
 evs:EvsIn M (.agg #[m0,m1]) sv
theorem HistR.le {M M':Mem} (hl:M.Le M') {m0 m1 sv:Value} (h:HistR M m0 m1 sv):HistR M' m0 m1 sv:=⟨h.chk.le hl,h.evs.le hl⟩
theorem EvsIn.hist {M:Mem} (hg:Good M) {m0 m1:Value} (hm0:oneV m0) (hm1:oneV m1) (hm:CallOk Tryz.prog M 52 [.agg #[m0,m1]] (.int .i64 0)) {sv:Value} (h:EvsIn M (.agg #[m0,m1]) sv):HistR M m0 m1 sv:=by
 obtain⟨evs,h2,hr,hin⟩:=id h
 exact⟨hist_plain hg hm0 hm1 hm h2 hin hr.toC,h⟩
end Go.Proofs.YtkjinnjopoehhaaGreatDoor
