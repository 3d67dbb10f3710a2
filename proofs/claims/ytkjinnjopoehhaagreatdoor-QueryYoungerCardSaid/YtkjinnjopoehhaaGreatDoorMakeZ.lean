/-
  klippelaw30.Make at a plan of at most two events.
-/
import Derived.Test.YtkjinnjopoehhaaGreatDoorSimA
import Derived.Test.YtkjinnjopoehhaaGreatDoorHistH
set_option linter.unusedSectionVars false
set_option linter.unusedVariables false
set_option linter.unusedSimpArgs false
namespace Go.Proofs.YtkjinnjopoehhaaGreatDoor
open Go Ev Klp
def DeedsRaw (M:Mem) (ds:Value) (dds:List (Nat→Int)):Prop:=
 ∃ b cap,ds = .slice b dds.length cap∧dds.length≤cap ∧ ∀ (i:Nat) (dd:Nat→Int),dds[i]? = some dd → ∃ ad,b=some ad∧ad.block<M.heap.size∧M.frz ad.block ∧
  ∀ w:World,w.heap[ad.block]? = M.heap[ad.block]? → ∀ j y,(deedR dd)[j]? = some y→w.cell? ((ad.add (i*12)).add j)=some y
theorem DeedsRaw.le {M M':Mem} (hl:M.Le M') {ds:Value} {dds:List (Nat→Int)} (h:DeedsRaw M ds dds):DeedsRaw M' ds dds:=by
 obtain⟨b,cap,e,hc,h⟩:=h
 refine⟨b,cap,e,hc,fun i dd hi => ?_⟩
 obtain⟨ad,e1,h1,h2,h3⟩:=h i dd hi
 obtain⟨z,e2⟩:=hl.same _ h1 h2
 exact⟨ad,e1,Nat.lt_of_lt_of_le h1 hl.size,z,fun w hw=>h3 w (hw.trans e2)⟩
def tabN (l:List DealT) (i:Nat):T SE:=match l[i]? with | some d=>d.tab | none=>.e
noncomputable def symM (l:List DealT) (dds:List (Nat→Int)) (m0 m1 ds:Value) (sh:List Value) (i:Nat):Value:=
 if i<768 then symX (xD ((dds[i/256]?).getD fun _=>0)) (fun _=>.nilFunc) (tabN l (i/256)) i
 else if i=768 then m0 else if i=769 then m1 else if i<774 then (sh[i-770]?).getD .nilFunc else if i<776 then ds
 else match ds with | .slice (some ad) _ _=>.pointer (some (ad.add ((i-776)*12))) | _=>.nilFunc
theorem symM_one {l:List DealT} {dds:List (Nat→Int)} {m0 m1 ds:Value} {sh:List Value} (h0:oneV m0) (h1:oneV m1) (h2:oneV ds) (h3:∀ x∈sh,oneV x) (i:Nat):oneV (symM l dds m0 m1 ds sh i):=by
 unfold symM
 split
 ·exact symX_one (o:=fun _=>.nilFunc) (fun _=>trivial) i
 ·split
  ·exact h0
  ·split
   ·exact h1
   ·split
    ·cases h:sh[i-770]? with
     | none=>trivial
     | some x=>exact h3 x (List.mem_of_getElem? h)
    ·split
     ·exact h2
     ·split <;> trivial
theorem und_deeds:tb0.und 26=some (.slice 116):=by kernel_rfl
theorem size_deed:tb0.size 116=some 12:=by kernel_rfl
theorem agg_deed:tb0.isAgg 116=some true:=by kernel_rfl
section
variable {M1:Mem} (hg:Good M1) {np:Nat} {m0 m1:Value} (hm0:∃ a k,m0=Value.slice a np k) (hm1:∃ a n k,m1=Value.slice a n k) (hmesh:CallOk Tryz.prog M1 52 [.agg #[m0,m1]] (.int .i64 0))
 {l:List DealT} (hl:l.length≤3) (hidx:∀ (i:Nat) (d:DealT),l[i]? = some d→d.e=i∧d.np=np∧d.ok=true)
 {dds:List (Nat→Int)} (hdl:dds.length=l.length) (hdd:∀ (i:Nat) (d:DealT) (dd:Nat→Int),l[i]? = some d→dds[i]? = some dd→DeedOk dd∧Kinded dd d.kind d.sub)
 {ds:Value} (hds:DeedsRaw M1 ds dds) {sh:List Value}
include hg hm0 hm1 hmesh hl hidx hdl hdd hds
theorem dealIn {B:Base} (hB:B.toMem=M1) (hsym:B.sym=symM l dds m0 m1 ds sh) {i:Nat} {d:DealT} {dd:Nat→Int} (hi:l[i]? = some d) (hd:dds[i]? = some dd):DealIn B d dd m0 m1:=by
 obtain⟨e1,e2,e3⟩:=hidx i d hi
 obtain⟨h1,h2⟩:=hdd i d dd hi hd
 have hi2:i<3:=by have:=(List.getElem?_eq_some_iff.1 hi).1; omega
 refine⟨h1,h2,fun k en hk => ?_,by rw [hsym]; rfl,by rw [hsym]; rfl,by rw [e2]; exact hm0,by rw [hB]; exact hg,by rw [hB]; exact hmesh⟩
 simp only [DealT.ok,okOwn,Bool.and_eq_true] at e3
 have ht:=tall_ok e3.1.2.2 k en hk
 simp only [id,Bool.and_eq_true] at ht
 have g1:=nble_le ht.1
 have g2:=nblt_lt ht.2
 rw [e1] at g1 g2
 have hq:k/256=i:=by omega
 rw [hsym]
 unfold symM
 rw [if_pos (by omega),hq,hd]
 show symX (xD dd) _ (tabN l i) k=_
 have ht:tabN l i=d.tab:=by unfold tabN; rw [hi]
 rw [ht]
theorem kitM_ok {B:Base} (hB:B.toMem=M1) (hsym:B.sym=symM l dds m0 m1 ds sh):KitOk B (fun _=>0) (fun _=>.nilFunc) (kitM l):=by
 have hfit:∀ i,i<l.length → ∃ d dd,l[i]? = some d∧dds[i]? = some dd:=fun i hi=>⟨l[i],dds[i]'(by omega),List.getElem?_eq_getElem hi,List.getElem?_eq_getElem (by omega)⟩
 obtain⟨b,cap,rfl,hcap,hel⟩:=id hds
 have s774:B.sym 774 = .slice b dds.length cap:=by rw [hsym]; rfl
 have s775:B.sym 775 = .slice b dds.length cap:=by rw [hsym]; rfl
 refine⟨⟨(fun i e h => ?_),(fun v => ?_),(fun f hf=>by cases hf),(fun r hr=>by cases hr),(fun p hp => ?_),(fun _=>trivial),by rw [show B=⟨B.toMem,B.sym,B.stat⟩ from rfl,hB]; exact hg.pow _ _,by rw [hB]; exact hg.tabs⟩,
  (fun f args v hv=>by simp [kitM,primOf,T.get_e] at hv),(fun f es he e hm => ?_),(fun n cs hn=>by simp [kitM,T.get_e] at hn),(fun p hp => ?_),(fun p hp => ?_),(fun p hp => ?_)⟩
 ·have h:(T.e:T SE).get i=some e:=h
  rw [T.get_e] at h; cases h
 ·show Iv.has (((T.e:T Iv).get v).getD (0,0)) 0
  rw [T.get_e]; exact⟨Int.le_refl _,Int.le_refl _⟩
 ·have hp:p∈[(774,l.length),(775,l.length)]:=hp
  simp only [List.mem_cons,List.not_mem_nil,or_false] at hp
  rcases hp with rfl | rfl
  ·exact⟨b,cap,by rw [s774,hdl]⟩
  ·exact⟨b,cap,by rw [s775,hdl]⟩
 ·replace he:(flatK (l.map fun d=>(41,d.rm))).get f=some es:=he
  refine flatK_ok ?_ f es he e hm
  intro p hp
  obtain⟨d,hd,rfl⟩:=List.mem_map.1 hp
  obtain⟨i,hi⟩:=List.mem_iff_getElem?.1 hd
  obtain⟨d',dd,h1,h2⟩:=hfit i (List.getElem?_eq_some_iff.1 hi).1
  rw [hi] at h1; cases h1
  exact deal_rm (dealIn hg hm0 hm1 hmesh hl hidx hdl hdd hds hB hsym hi h2) (hidx i d hi).2.2
 ·have hp:p∈[(26,774,l.length,V.sym 775)]:=hp
  intro E hE j w
  rw [List.mem_singleton.1 hp]
  refine⟨.slice b dds.length cap,?_,by show _=E.sym 775; rw [hE.sym,s775]⟩
  rw [s774,← hdl]
  have h1000:dds.length<1000:=by omega
  simp only [cutLo,cutHi,if_pos h1000]
  exact cut_run tabOk und_deeds size_deed hcap j w
 ·have hp:p∈(List.range l.length).map fun i=>(26,775,i,V.sym (776+i)):=hp
  intro E hE j w
  obtain⟨i,hi,rfl⟩:=List.mem_map.1 hp
  have hi:=List.mem_range.1 hi
  obtain⟨d,dd,h1,h2⟩:=hfit i hi
  obtain⟨ad,rfl,g1,g2,g3⟩:=hel i dd h2
  refine⟨.pointer (some (ad.add (i*12))),?_,?_⟩
  ·simp only
   rw [s775]
   exact adr_run tabOk und_deeds size_deed (by omega) j w
  ·show _=E.sym (776+i)
   rw [hE.sym,hsym]
   unfold symM
   rw [if_neg (by omega),if_neg (by omega),if_neg (by omega),if_neg (by omega),if_neg (by omega)]
   simp only
   rw [show 776+i-776=i from by omega]
 ·have hp:p∈(List.range l.length).map fun i=>(116,776+i,deedV i):=hp
  obtain⟨i,hi,rfl⟩:=List.mem_map.1 hp
  have hi:=List.mem_range.1 hi
  obtain⟨d,dd,h1,h2⟩:=hfit i hi
  obtain⟨ad,rfl,g1,g2,g3⟩:=hel i dd h2
  have hin:=dealIn hg hm0 hm1 hmesh hl hidx hdl hdd hds hB hsym h1 h2
  have hown:okOwn d=true:=by
   have:=(hidx i d h1).2.2
   simp only [DealT.ok,Bool.and_eq_true] at this
   exact this.1.2
  refine⟨ad.add (i*12),deedR dd,?_,.inl ⟨agg_deed,size_deed⟩,fun E hE => ?_,?_,fun w hw j y hy => ?_⟩
  ·show B.sym (776+i)=_
   rw [hsym]
   unfold symM
   rw [if_neg (by omega),if_neg (by omega),if_neg (by omega),if_neg (by omega),if_neg (by omega)]
   simp only
   rw [show 776+i-776=i from by omega]
  ·have:=deedV_ok hin hown hE
   rw [(hidx i d h1).1] at this
   exact this
  ·have e:(ad.add (i*12)).block=ad.block:=by unfold Addr.add; split <;> rfl
   rw [e,hB]; exact⟨g1,g2⟩
  ·have e:(ad.add (i*12)).block=ad.block:=by unfold Addr.add; split <;> rfl
   rw [e,hB] at hw
   exact g3 w hw j y hy
end
theorem rest30_dst:dstOk 35 rest30=true:=by kernel_rfl
theorem fits_names {ord:List Nat} {args:List V} {h:H} {nx:Nat} {pargs:List V} {psub:List O} (hf:fits ord args h nx pargs psub=true):∀ n∈ord,∃ o,h.get n=some o:=by
 simp only [fits,Bool.and_eq_true] at hf
 obtain⟨hl,hg⟩:=matchSub_at hf.1.2
 intro n hn
 obtain⟨j,hj⟩:=List.mem_iff_getElem?.1 hn
 have hlt:=(List.getElem?_eq_some_iff.1 hj).1
 obtain⟨o',_,h2⟩:=hg j _ n (List.getElem?_eq_getElem (by omega)) hj
 exact⟨o',h2⟩
theorem okL_get {r:R3}:∀ {l:List DealT} {cs:List V},okL r cs l=true → ∀ (k:Nat) (d:DealT),l[k]? = some d→((cs.drop (32*k)).take 32).length=32 ∧
  fits (orderOf r.2.1 1000 (namesL ((cs.drop (32*k)).take 32)) []) [mD,.agg ((cs.drop (32*k)).take 32)] r.2.1 r.2.2 [mD,d.pv] d.ps=true
 | [],_,_,k,d,h=>by simp at h
 | d0::l,cs,h,k,d,hk=>by
  simp only [okL,Bool.and_eq_true] at h
  cases k with
  | zero=>
   simp at hk; subst hk
   rw [Nat.mul_zero,List.drop_zero]
   exact⟨nbeq_true h.1.1,h.1.2⟩
  | succ k=>
   have:=okL_get h.2 k d (by simpa using hk)
   rw [List.drop_drop,show 32+32*k=32*(k+1) from by omega] at this
   exact this
theorem chunks:∀ (n:Nat) (xs:List Value),xs.length=32*n→(((List.range n).map fun k=>(xs.drop (32*k)).take 32).flatten)=xs
 | 0,xs,h=>by
  have:xs=[]:=List.length_eq_zero_iff.1 (by omega)
  subst this; rfl
 | n+1,xs,h=>by
  rw [List.range_succ_eq_map,List.map_cons,List.flatten_cons,Nat.mul_zero,List.drop_zero,List.map_map]
  have ih:=chunks n (xs.drop 32) (by simp; omega)
  have e:(List.map ((fun k=>(xs.drop (32*k)).take 32) ∘ Nat.succ) (List.range n))=(List.range n).map fun k=>((xs.drop 32).drop (32*k)).take 32:=by
   apply List.map_congr_left
   intro k _
   simp only [Function.comp,List.drop_drop]
   rw [show 32+32*k=32*(k+1) from by omega]
  rw [e,ih,List.take_append_drop]
section
variable {M1:Mem} (hg:Good M1) {np:Nat} {m0 m1:Value} (hm0:∃ a k,m0=Value.slice a np k) (hm1:∃ a n k,m1=Value.slice a n k) (hmesh:CallOk Tryz.prog M1 52 [.agg #[m0,m1]] (.int .i64 0))
 {l:List DealT} (hl:l.length≤3) (hidx:∀ (i:Nat) (d:DealT),l[i]? = some d→d.e=i∧d.np=np∧d.ok=true) (hshp:∀ d∈l,shOf d.kind d.sub<7) (hox:∀ d∈l,d.okX=true∧shKind (shOf d.kind d.sub)=d.kind)
 {dds:List (Nat→Int)} (hdl:dds.length=l.length) (hdd:∀ (i:Nat) (d:DealT) (dd:Nat→Int),l[i]? = some d→dds[i]? = some dd→DeedOk dd∧Kinded dd d.kind d.sub)
 {ds:Value} (hds:DeedsRaw M1 ds dds) (hrun:runM l=true)
include hg hm0 hm1 hmesh hl hidx hdl hdd hds hshp hox hrun
theorem make30_tail {c0 c1 c2 c3:Value} (hc:∀ x∈[c0,c1,c2,c3],oneV x) {M:Mem} {w w1:World} {a:Act} {p1 p2 p3:Nat} (hon:M1.On w1) (ts:a.tmps.size=35)
  (t1:a.tmps[1]? = some (.pointer (some ⟨p1,0,none⟩))) (t2:a.tmps[2]? = some (.pointer (some ⟨p2,0,none⟩))) (t3:a.tmps[3]? = some (.pointer (some ⟨p3,0,none⟩))) (hdf:a.defers=[])
  (h1:w1.heap[p1]? = some (.cells #[c0,c1,c2,c3,ds] 28 (0,0))) (h2:w1.heap[p2]? = some (.cells #[.slice none 0 0,.slice none 0 0,.string ⟨#[]⟩,.slice none 0 0] 42 (0,0)))
  (h3:w1.heap[p3]? = some (.cells #[m0,m1,strB baseB,.slice none 0 0] 42 (0,0))) (n12:p1≠p2) (n13:p1≠p3) (n23:p2≠p3)
  (z1:¬ (p1<M1.heap.size∧M1.frz p1)) (z2:¬ (p2<M1.heap.size∧M1.frz p2)) (z3:¬ (p3<M1.heap.size∧M1.frz p3)) (hle:M.Le M1) (hfrz:∀ b,M1.frz b→(b<M.heap.size∧M.frz b)∨(w.heap.size≤b∧b<w1.heap.size))
  (hgr:Grew w w1) (hfr:∀ b,b<w.heap.size→w1.heap[b]? = w.heap[b]?) (q1:w.heap.size≤p1) (q2:w.heap.size≤p2) (q3:w.heap.size≤p3) :
  rest30.wp Tryz.prog (bodyPost Tryz.prog Tryz.f18 (RetM M w fun y M' => ∃ sv,y = .agg #[m0,m1,strB baseB,sv]∧(∃ a n c,sv=Value.slice a n c)∧M1.Le M'∧HistR M' m0 m1 sv ∧ ∃ a c,sv=Value.slice a l.length c)) a w1:=by
 have om0:oneV m0:=by obtain⟨_,_,rfl⟩:=hm0; trivial
 have om1:oneV m1:=by obtain⟨_,_,_,rfl⟩:=hm1; trivial
 have ods:oneV ds:=by obtain⟨_,_,rfl,_⟩:=hds; trivial
 let B:Base:={ toMem:=M1,sym:=symM l dds m0 m1 ds [c0,c1,c2,c3] }
 let E:Env:={ sym:=B.sym,one:=symM_one om0 om1 ods hc,at_:=fun n=>if n<32 then some { blk:=n,size:=0,unit:=0 } else if n<64 then some (B.stat n) else if n=64 then some { blk:=p3,size:=4,unit:=0 } else if n=65 then some { blk:=p1,size:=5,unit:=0 } else if n=66 then some { blk:=p2,size:=4,unit:=0 } else none }
 have e64:E.at_ 64=some { blk:=p3,size:=4,unit:=0 }:=rfl
 have e65:E.at_ 65=some { blk:=p1,size:=5,unit:=0 }:=rfl
 have e66:E.at_ 66=some { blk:=p2,size:=4,unit:=0 }:=rfl
 have hE:StatOk B E:=⟨rfl,fun g g1 g2=>by show (if g<32 then _ else if g<64 then _ else _)=_; rw [if_neg (by omega),if_pos g2]⟩
 have hget:∀ n o,sM.h.get n=some o→(n=64∧o = .cells [.sym 768,.sym 769,.str baseB,.nils] 42 0 false)∨(n=65∧o = .cells [.sym 770,.sym 771,.sym 772,.sym 773,.sym 774] 28 0 false) ∨
   (n=66∧o = .cells [.nils,.nils,.str [],.nils] 42 0 false):=by
  intro n o hn
  have hn:((((T.e:H).set 64 _).set 65 _).set 66 _).get n=some o:=hn
  rw [T.get_set] at hn
  by_cases c66:n=66
  ·rw [if_pos c66] at hn; cases hn; exact .inr (.inr ⟨c66,rfl⟩)
  ·rw [if_neg c66,T.get_set] at hn
   by_cases c65:n=65
   ·rw [if_pos c65] at hn; cases hn; exact .inr (.inl ⟨c65,rfl⟩)
   ·rw [if_neg c65,T.get_set] at hn
    by_cases c64:n=64
    ·rw [if_pos c64] at hn; cases hn; exact .inl ⟨c64,rfl⟩
    ·rw [if_neg c64,T.get_e] at hn; cases hn
 have hblk:∀ n o i,sM.h.get n=some o→E.at_ n=some i→i.blk=p1∨i.blk=p2∨i.blk=p3:=by
  intro n o i hn hi
  rcases hget n o hn with⟨rfl,_⟩ | ⟨rfl,_⟩ | ⟨rfl,_⟩
  ·rw [e64] at hi; cases hi; exact .inr (.inr rfl)
  ·rw [e65] at hi; cases hi; exact .inl rfl
  ·rw [e66] at hi; cases hi; exact .inr (.inl rfl)
 have hfoot:∀ b,Foot E sM.h.get b→b=p1∨b=p2∨b=p3:=by
  rintro b ⟨n,o,i,hn,hi,rfl⟩
  exact hblk n o i hn hi
 have hok:Ok B E sM.h.get sM.nx w1:=by
  refine⟨⟨fun n o hn => ?_,fun n m o p i j hn hm hi hj hb => ?_⟩,fun n hn => ?_,fun g hg'=>⟨{ blk:=g,size:=0,unit:=0 },by show (if g<32 then _ else _)=_; rw [if_pos hg'],rfl⟩,⟨hon.size,hon.same,fun b hb hz hf => ?_⟩,hE⟩
  ·rcases hget n o hn with⟨rfl,rfl⟩ | ⟨rfl,rfl⟩ | ⟨rfl,rfl⟩
   ·exact⟨_,e64,rfl,_,_,h3,rfl,fun _=>rfl,[m0,m1,strB baseB,.slice none 0 0],[],⟨_,_,rfl,rfl,_,_,rfl,rfl,_,_,rfl,rfl,_,_,rfl,rfl,rfl⟩,by simp⟩
   ·exact⟨_,e65,rfl,_,_,h1,rfl,fun _=>rfl,[c0,c1,c2,c3,ds],[],⟨_,_,rfl,rfl,_,_,rfl,rfl,_,_,rfl,rfl,_,_,rfl,rfl,_,_,rfl,rfl,rfl⟩,by simp⟩
   ·exact⟨_,e66,rfl,_,_,h2,rfl,fun _=>rfl,[.slice none 0 0,.slice none 0 0,.string ⟨#[]⟩,.slice none 0 0],[],⟨_,_,rfl,rfl,_,_,rfl,rfl,_,_,rfl,rfl,_,_,rfl,rfl,rfl⟩,by simp⟩
  ·rcases hget n o hn with⟨rfl,_⟩ | ⟨rfl,_⟩ | ⟨rfl,_⟩ <;> rcases hget m p hm with⟨rfl,_⟩ | ⟨rfl,_⟩ | ⟨rfl,_⟩ <;> first | rfl | skip
   all_goals
    simp only [e64,e65,e66,Option.some.injEq] at hi hj
    subst hi; subst hj
    simp only at hb
    omega
  ·have hn:67≤n:=hn
   show (if n<32 then _ else _)=_
   rw [if_neg (by omega),if_neg (by omega),if_neg (by omega),if_neg (by omega),if_neg (by omega)]
  ·rcases hfoot b hf with rfl | rfl | rfl
   ·exact z1 ⟨hb,hz⟩
   ·exact z2 ⟨hb,hz⟩
   ·exact z3 ⟨hb,hz⟩
 have htr:TR E sM.t a.tmps:=by
  intro k v hk
  have hk:(((T.e.set 1 (V.ptr 65 0)).set 2 (.ptr 66 0)).set 3 (.ptr 64 0)).get k=some v:=hk
  rw [T.get_set] at hk
  by_cases c3:k=3
  ·rw [if_pos c3] at hk; cases hk; subst c3; exact⟨_,t3,_,e64,rfl⟩
  ·rw [if_neg c3,T.get_set] at hk
   by_cases c2:k=2
   ·rw [if_pos c2] at hk; cases hk; subst c2; exact⟨_,t2,_,e66,rfl⟩
   ·rw [if_neg c2,T.get_set] at hk
    by_cases c1:k=1
    ·rw [if_pos c1] at hk; cases hk; subst c1; exact⟨_,t1,_,e65,rfl⟩
    ·rw [if_neg c1,T.get_e] at hk; cases hk
 have hK:=kitM_ok hg hm0 hm1 hmesh hl hidx hdl hdd hds (sh:=[c0,c1,c2,c3]) (B:=B) rfl rfl
 have hkc:(kitM l).chk=true:=rfl
 unfold runM at hrun
 split at hrun
 ·rename_i rs hrs
  refine tail_wp (kitM l).tabOk ((kitM l).fnOk hK hkc) hrs hok htr rfl hdf (by rw [ts]; exact rest30_dst) fun r hr x E' w' hx hst => ?_
  have hro:=List.all_eq_true.1 hrun r hr
  have hok':=hok.step hst
  let M':Mem:=⟨w'.heap,fun b=>(b<M1.heap.size∧M1.frz b)∨Foot E' r.2.1.get b⟩
  have hM1:M1.Le M':=⟨hok'.inv.size,fun b hb hz=>⟨.inl ⟨hb,hz⟩,hok'.inv.same b hb hz⟩⟩
  have hmem:∀ {ord:List Nat},(∀ n∈ord,∃ o,r.2.1.get n=some o)→(memAt B E' w' ord).Le M':=fun ho=>⟨Nat.le_refl _,fun b hb hz=>⟨by
   rcases hz with hz | ⟨n,hn,i,hi,he⟩
   ·exact .inl hz
   ·obtain⟨o,ho⟩:=ho n hn
    exact .inr ⟨n,o,i,ho,hi,he⟩,rfl⟩⟩
  unfold okR at hro
  split at hro
  ·rename_i va vb vc ev hrv
   simp only [Bool.and_eq_true] at hro
   obtain⟨⟨⟨k1,k2⟩,k3⟩,k4⟩:=hro
   have k1:=V.eq_eq _ _ k1
   have k2:=V.eq_eq _ _ k2
   have k3:=V.eq_eq _ _ k3
   subst k1; subst k2; subst k3
   rw [hrv] at hx
   obtain⟨xs,⟨x0,_,rfl,hx0,x1,_,rfl,hx1,x2,_,rfl,hx2,sv,_,rfl,hsv,hxn⟩,rfl⟩:=hx
   rw [show _=[] from hxn]
   have e0:x0=m0:=by rw [show x0=E'.sym 768 from hx0,hok'.sym.sym]; rfl
   have e1:x1=m1:=by rw [show x1=E'.sym 769 from hx1,hok'.sym.sym]; rfl
   have e2:x2=strB baseB:=hx2
   subst e0; subst e1; subst e2
   have hsl:∃ a c,sv=Value.slice a l.length c:=by
    cases hlc:l with
    | nil=>
     rw [hlc] at k4
     rw [V.eq_eq _ _ k4] at hsv
     exact⟨none,0,hsv⟩
    | cons d0 l0=>
     rw [hlc] at k4
     have k4:okEvs (d0::l0) r ev=true:=k4
     unfold okEvs at k4
     split at k4
     ·simp only [Bool.and_eq_true] at k4
      have j1:=nbeq_true k4.1.1.1
      obtain⟨i,_,e⟩:=hsv
      exact⟨_,_,by rw [e,j1]⟩
     ·cases k4
   obtain⟨sa,sc,esv⟩:=hsl
   refine⟨_,M',rfl,hgr.trans hst.grew,fun b hb => ?_,rfl,hle.trans hM1,fun b hb => ?_,sv,rfl,⟨_,_,_,esv⟩,hM1,?_,sa,sc,esv⟩
   ·rw [hst.frame b (Nat.lt_of_lt_of_le hb hgr.size) (fun hf=>by rcases hfoot b hf with rfl | rfl | rfl <;> omega),hfr b hb]
   ·rcases hb with⟨hb,hz⟩ | hb
    ·rcases hfrz b hz with h | ⟨h,h'⟩
     ·exact .inl h
     ·exact .inr ⟨h,Nat.lt_of_lt_of_le h' hst.grew.size⟩
    ·have hlt:b<w'.heap.size:=by
      obtain⟨n,o,i,hn,hi,rfl⟩:=hb
      obtain⟨i',hi',hob⟩:=hst.rel.obj n o hn
      rw [hi] at hi'; cases hi'
      exact hob.lt
     refine .inr ⟨?_,hlt⟩
     rcases Nat.lt_or_ge b w1.heap.size with h | h
     ·rcases hfoot b (hst.foot b h hb) with rfl | rfl | rfl <;> omega
     ·exact Nat.le_trans hgr.size h
   ·
    have hG':=hg.le hM1
    have hms':=hmesh.le hM1
    cases hlc:l with
    | nil=>
     rw [hlc] at k4
     have k4:=V.eq_eq _ _ k4
     subst k4
     exact EvsIn.hist hG' om0 om1 hms' ⟨[],by simp,.inl ⟨rfl,hsv⟩,fun k p hk=>by simp at hk⟩
    | cons d0 l0=>
     have k4:okEvs l r ev=true:=by
      rw [hlc] at k4 ⊢
      exact k4
     unfold okEvs at k4
     split at k4
     ·rename_i ne n cap k4o
      simp only [Bool.and_eq_true] at k4
      obtain⟨⟨⟨j1,j2⟩,j3⟩,j4⟩:=k4
      have j1:=nbeq_true j1
      have j2:=nble_le j2
      split at j4
      ·rename_i cs te ue ze hne
       simp only [Bool.and_eq_true] at j4
       have jl:=nbeq_true j4.1
       obtain⟨ie,hie,rfl⟩:=hsv
       obtain⟨ie',hie',hu,rc,fr,g1,g2,g3,xs,rest,hxs,hrc⟩:=hst.rel.obj _ _ hne
       rw [hie] at hie'; cases hie'
       have hxl:xs.length=32*l.length:=by rw [hxs.length,jl]
       let evs:List (Nat × List Value):=(List.range l.length).map fun k=>(((l[k]?).map fun d=>shOf d.kind d.sub).getD 0,(xs.drop (32*k)).take 32)
       have hevl:evs.length=l.length:=by simp [evs]
       have hevk:∀ (k:Nat) (p:Nat × List Value),evs[k]? = some p → ∃ d,l[k]? = some d∧p=(shOf d.kind d.sub,(xs.drop (32*k)).take 32):=by
        intro k p hk
        have hlt:=(List.getElem?_eq_some_iff.1 hk).1
        rw [hevl] at hlt
        refine⟨l[k],List.getElem?_eq_getElem hlt,?_⟩
        simp only [evs,List.getElem?_map,List.getElem?_range hlt,Option.map_some,Option.some.injEq] at hk
        rw [← hk,List.getElem?_eq_getElem hlt]; rfl
       refine EvsIn.hist hG' om0 om1 hms' ⟨evs,by omega,.inr ⟨?_,ie.blk,capOf ie 0 cap,rc,te,fr,rest,?_,?_,.inr ⟨ne,_,ie,hne,hie,rfl⟩,g1,?_⟩,fun k p hk => ?_⟩
       ·intro h0
        have:=congrArg List.length h0
        rw [hevl,hlc] at this
        simp at this
       ·rw [hevl,j1]
       ·rw [hevl,← j1]
        unfold capOf
        split
        ·exact j2
        ·exact Nat.le_trans j2 (Nat.le_max_left _ _)
       ·have e1:evs.map (·.2)=(List.range l.length).map fun k=>(xs.drop (32*k)).take 32:=by simp [evs,Function.comp]
        have e2:(evs.map (·.2)).flatten=xs:=by rw [e1]; exact chunks _ _ hxl
        exact hrc.trans (congrArg (· ++ rest) e2.symm)
       ·obtain⟨d,hd,rfl⟩:=hevk k p hk
        obtain⟨_,hfit⟩:=okL_get j4.2 k d hd
        have hkl:=(List.getElem?_eq_some_iff.1 hd).1
        have hddk:dds[k]? = some (dds[k]'(by omega)):=List.getElem?_eq_getElem (by omega)
        have hin:=dealIn hg hm0 hm1 hmesh hl hidx hdl hdd hds (sh:=[c0,c1,c2,c3]) (B:=B) rfl rfl hd hddk
        obtain⟨i1,_,i3⟩:=hidx k d hd
        have hraw:=event_raw hin i3 hok' ((hxs.drop (32*k)).take 32) hfit
        rw [i1] at hraw
        obtain⟨x1,x2⟩:=hox d (List.mem_of_getElem? hd)
        refine⟨hraw.le (hmem (fits_names hfit)),hshp d (List.mem_of_getElem? hd),fun c hc => ?_⟩
        rw [x2] at hc
        exact (event_chg hin i3 x1 hok' ((hxs.drop (32*k)).take 32) hfit c hc).le (hmem (fits_names hfit))
      ·cases j4
     ·cases k4
  ·cases hro
 ·cases hrun
end
end Go.Proofs.YtkjinnjopoehhaaGreatDoor
namespace Go.Proofs.YtkjinnjopoehhaaGreatDoor
open Go.RowKit Go Ev Klp
def Post12 (np nt:Nat) (X:Value→Value→Mem→Prop) (y:Value) (M':Mem):Prop:=
 ∃ b0 c0 b1 c1,y = .agg #[slV b0 np c0,slV b1 nt c1]∧CallOk Tryz.prog M' 52 [y] (.int .i64 0)∧X (slV b0 np c0) (slV b1 nt c1) M'
def Post30N (np nt n:Nat) (X:Value→Value→Mem→Prop) (y:Value) (M':Mem):Prop:=
 ∃ b0 c0 b1 c1 sv,y = .agg #[slV b0 np c0,slV b1 nt c1,strB baseB,sv]∧(∃ a c,sv=Value.slice a n c)∧CallOk Tryz.prog M' 52 [.agg #[slV b0 np c0,slV b1 nt c1]] (.int .i64 0)∧X (slV b0 np c0) (slV b1 nt c1) M' ∧
  HistR M' (slV b0 np c0) (slV b1 nt c1) sv
theorem alloc_heap (w:World) (o:Obj):(w.alloc o).heap=w.heap.push o:=rfl
theorem On.alloc {M:Mem} {w:World} (h:M.On w) (o:Obj):M.On (w.alloc o):=by
 refine⟨?_,fun b hb hz => ?_⟩
 ·rw [alloc_heap,Array.size_push]; exact Nat.le_succ_of_le h.size
 ·have:b<w.heap.size:=Nat.lt_of_lt_of_le hb h.size
  rw [← h.same b hb hz]
  rw [alloc_heap,Array.getElem?_push,if_neg (Nat.ne_of_lt this)]
set_option maxHeartbeats 1000000 in
theorem make30_walk {M:Mem} {np nt:Nat} {X:Value→Value→Mem→Prop} {k s0 s1:Int} {hf:Bool} {ds:Value} {w:World} (hw:M.On w)
  (h12:∀ w,M.On w→Calls Tryz.prog 39 #[.agg #[.int .u8 k,.int .i8 s0,.int .i8 s1,.bool hf]] w (RetM M w (Post12 np nt X))) {QQ:Exit→Act→World→Prop}
  (hQ:∀ (M1:Mem) (b0 c0 b1 c1 p1 p2 p3:Nat) (a:Act) (w1:World),M1.On w1→a.tmps.size=35→a.tmps[1]? = some (.pointer (some ⟨p1,0,none⟩))→a.tmps[2]? = some (.pointer (some ⟨p2,0,none⟩))→a.tmps[3]? = some (.pointer (some ⟨p3,0,none⟩))→a.defers=[] →
   w1.heap[p1]? = some (.cells #[.int .u8 k,.int .i8 s0,.int .i8 s1,.bool hf,ds] 28 (0,0))→w1.heap[p2]? = some (.cells #[.slice none 0 0,.slice none 0 0,.string ⟨#[]⟩,.slice none 0 0] 42 (0,0)) →
   w1.heap[p3]? = some (.cells #[slV b0 np c0,slV b1 nt c1,strB baseB,.slice none 0 0] 42 (0,0))→p1≠p2→p1≠p3→p2≠p3 → ¬ (p1<M1.heap.size∧M1.frz p1) → ¬ (p2<M1.heap.size∧M1.frz p2) → ¬ (p3<M1.heap.size∧M1.frz p3) →
   M.Le M1→(∀ b,M1.frz b→(b<M.heap.size∧M.frz b)∨(w.heap.size≤b∧b<w1.heap.size))→Grew w w1→(∀ b,b<w.heap.size→w1.heap[b]? = w.heap[b]?)→w.heap.size≤p1→w.heap.size≤p2→w.heap.size≤p3 →
   CallOk Tryz.prog M1 52 [.agg #[slV b0 np c0,slV b1 nt c1]] (.int .i64 0)→X (slV b0 np c0) (slV b1 nt c1) M1→rest30.wp Tryz.prog QQ a w1) :
  Code.wp Tryz.prog ((sq1 (bodyOf Tryz.f18)).seq ((sq1 (sq2 (bodyOf Tryz.f18))).seq rest30)) QQ { tmps := #[.agg #[.int .u8 k,.int .i8 s0,.int .i8 s1,.bool hf,ds]]++Array.replicate (35-1) undef,defers:=[] } w:=by
 have H12:=Lib.hid h12; clear h12
 have HQ:=Lib.hid hQ; clear hQ
 have HW:=Lib.hid hw; clear hw
 generalize rest30=rest at *
 simp only [sq1,sq2,bodyOf,Tryz.f18,Option.getD_some,List.size_toArray,List.length_cons,List.length_nil,Nat.reduceAdd,Nat.reduceSub,Array.replicate_succ,Array.replicate_zero,List.push_toArray,List.append_toArray,List.nil_append,List.cons_append]
 go_wp2_with fail
 refine (H12.out _ (On.alloc (On.alloc HW.out _) _)).mono ?_
 rintro e w' ⟨y,M1,rfl,hgr,hfr,hh,hle,hz,b0,c0,b1,c1,rfl,hck,hX⟩
 have HGR:=Lib.hid hgr; clear hgr
 have HFR:=Lib.hid hfr; clear hfr
 have HH:=Lib.hid hh; clear hh
 have HLE:=Lib.hid hle; clear hle
 have HZ:=Lib.hid hz; clear hz
 have HCK:=Lib.hid hck; clear hck
 have HX:=Lib.hid hX; clear hX
 unfold slV
 go_wp2_with fail
 have hgr:=HGR.out
 have hfr:=HFR.out
 have hh:=HH.out
 have hle:=HLE.out
 have hz:=HZ.out
 have hwo:=HW.out
 have sz:∀ (w:World) (o:Obj),(w.alloc o).heap.size=w.heap.size+1:=fun w o=>by rw [alloc_heap,Array.size_push]
 have old:∀ (w:World) (o:Obj) (b:Nat),b<w.heap.size→(w.alloc o).heap[b]? = w.heap[b]? := fun w o b hb=>by rw [alloc_heap,Array.getElem?_push,if_neg (Nat.ne_of_lt hb)]
 have new:∀ (w:World) (o:Obj),(w.alloc o).heap[w.heap.size]? = some o:=fun w o=>by rw [alloc_heap,Array.getElem?_push,if_pos rfl]
 have hsz:=hgr.size
 rw [sz,sz] at hsz
 have hM1:M1.heap.size=w'.heap.size:=by rw [hh]
 have n1:¬ (w.heap.size<M1.heap.size∧M1.frz w.heap.size):=fun⟨_,h⟩=>by
  rcases hz _ h with⟨h,_⟩ | ⟨h,_⟩
  ·have:=hwo.size; omega
  ·rw [sz,sz] at h; omega
 have n2:¬ (w.heap.size+1<M1.heap.size∧M1.frz (w.heap.size+1)):=fun⟨_,h⟩=>by
  rcases hz _ h with⟨h,_⟩ | ⟨h,_⟩
  ·have:=hwo.size; omega
  ·rw [sz,sz] at h; omega
 refine HQ.out M1 b0 c0 b1 c1 w.heap.size (w.heap.size+1) w'.heap.size _ _ ?_ rfl rfl rfl rfl rfl ?_ ?_ ?_ (by omega) (by omega) (by omega) n1 n2 (by omega) hle ?_ ?_ ?_ (by omega) (by omega) (by omega) HCK.out HX.out
 ·refine On.alloc ⟨by omega,fun b hb _=>by rw [hh]⟩ _
 ·rw [old _ _ _ (by omega),hfr _ (by rw [sz,sz]; omega),old _ _ _ (by rw [sz]; omega),new]
 ·rw [old _ _ _ (by omega),hfr _ (by rw [sz,sz]; omega)]
  have:=new (w.alloc (Obj.cells #[Value.int IntKind.u8 k,Value.int IntKind.i8 s0,Value.int IntKind.i8 s1,Value.bool hf,ds] 28)) (Obj.cells #[Value.slice none 0 0,Value.slice none 0 0,Value.string ⟨#[]⟩,Value.slice none 0 0] 42)
  rw [sz] at this
  exact this
 ·exact new _ _
 ·intro b hb
  rcases hz b hb with h | ⟨h,h'⟩
  ·exact .inl h
  ·rw [sz,sz] at h
   exact .inr ⟨by omega,by rw [sz]; omega⟩
 ·exact⟨hgr.tape,hgr.os,hgr.output,by rw [sz]; omega⟩
 ·intro b hb
  rw [old _ _ _ (by omega),hfr _ (by rw [sz,sz]; omega),old _ _ _ (by rw [sz]; omega),old _ _ _ hb]
theorem bodyPost_mono {P:Program} {fn:Func} {R R':Ending→World→Prop} (h:∀ e w,R e w→R' e w) {e:Exit} {a:Act} {w:World} (hp:bodyPost P fn R e a w):bodyPost P fn R' e a w:=by
 cases e <;> first | exact⟨hp.1,hp.2.choose,hp.2.choose_spec.1,h _ _ hp.2.choose_spec.2⟩ | exact⟨hp.1,h _ _ hp.2⟩ | exact h _ _ hp | exact hp
theorem body30:Tryz.f18.body=some ((sq1 (bodyOf Tryz.f18)).seq ((sq1 (sq2 (bodyOf Tryz.f18))).seq rest30)):=rfl
theorem make30N {M:Mem} (hg:Good M) {np nt:Nat} {X:Value→Value→Mem→Prop} (hX:∀ m0 m1 M M',M.Le M'→X m0 m1 M→X m0 m1 M') {k s0 s1:Int} {hf:Bool} {ds:Value} {w:World} (hw:M.On w)
  (h12:∀ w,M.On w→Calls Tryz.prog 39 #[.agg #[.int .u8 k,.int .i8 s0,.int .i8 s1,.bool hf]] w (RetM M w (Post12 np nt X)))
  {l:List DealT} (hl:l.length≤3) (hidx:∀ (i:Nat) (d:DealT),l[i]? = some d→d.e=i∧d.np=np∧d.ok=true) (hshp:∀ d∈l,shOf d.kind d.sub<7) (hox:∀ d∈l,d.okX=true∧shKind (shOf d.kind d.sub)=d.kind)
  {dds:List (Nat→Int)} (hdl:dds.length=l.length) (hdd:∀ (i:Nat) (d:DealT) (dd:Nat→Int),l[i]? = some d→dds[i]? = some dd→DeedOk dd∧Kinded dd d.kind d.sub) (hds:DeedsRaw M ds dds) (hrun:runM l=true) :
  Calls Tryz.prog 18 #[.agg #[.int .u8 k,.int .i8 s0,.int .i8 s1,.bool hf,ds]] w (RetM M w (Post30N np nt l.length X)):=by
 refine calls_of_wp Tryz.func18 body30 ?_
 refine make30_walk hw h12 (QQ:=bodyPost Tryz.prog Tryz.f18 (RetM M w (Post30N np nt l.length X))) ?_
 intro M1 b0 c0 b1 c1 p1 p2 p3 a w1 hon ts t1 t2 t3 hdf h1 h2 h3 n12 n13 n23 z1 z2 z3 hle hz hgr hfr q1 q2 q3 hck hx
 have:=make30_tail (hg.le hle) ⟨_,_,rfl⟩ ⟨_,_,_,rfl⟩ hck hl hidx hshp hox hdl hdd (hds.le hle) hrun (c0:=.int .u8 k) (c1:=.int .i8 s0) (c2:=.int .i8 s1) (c3:=.bool hf)
  (by intro x hx; simp only [List.mem_cons,List.not_mem_nil,or_false] at hx; rcases hx with rfl | rfl | rfl | rfl <;> trivial) hon ts t1 t2 t3 hdf h1 h2 h3 n12 n13 n23 z1 z2 z3 hle hz hgr hfr q1 q2 q3
 refine wp_mono this fun e a w h=>bodyPost_mono ?_ h
 rintro e w' ⟨y,M',rfl,g1,g2,g3,g4,g5,sv,rfl,g0,g6,g7,g8⟩
 exact⟨_,M',rfl,g1,g2,g3,g4,g5,b0,c0,b1,c1,sv,rfl,g8,hck.le g6,hX _ _ _ _ g6 hx,g7⟩
end Go.Proofs.YtkjinnjopoehhaaGreatDoor
