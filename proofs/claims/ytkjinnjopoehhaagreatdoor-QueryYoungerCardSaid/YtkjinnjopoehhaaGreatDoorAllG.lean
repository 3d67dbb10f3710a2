/-
  All meshes, all deeds, all changes of a planned history.
-/
import Derived.Test.YtkjinnjopoehhaaGreatDoorChgR
import Derived.Test.YtkjinnjopoehhaaGreatDoorMakeS
import Derived.Test.YtkjinnjopoehhaaGreatDoorMesh1
import Derived.Test.YtkjinnjopoehhaaGreatDoorMesh2
import Derived.Test.YtkjinnjopoehhaaGreatDoorMesh5
import Derived.Test.YtkjinnjopoehhaaGreatDoorMesh4
import Derived.Test.YtkjinnjopoehhaaGreatDoorMesh7
import Derived.Test.YtkjinnjopoehhaaGreatDoorCutsA
import Derived.Test.YtkjinnjopoehhaaGreatDoorCutsC
set_option linter.unusedSectionVars false
set_option linter.unusedVariables false
set_option linter.unusedSimpArgs false
namespace Go.Proofs.YtkjinnjopoehhaaGreatDoor
open Go Ev Klp
structure MeshD where
 d:Nat
 pts:List (Int × Int)
 tris:List Int
 nt:Nat
def CutT.md (t:CutT):MeshD:=⟨t.d,t.pts,t.tris,t.nt⟩
def MeshD.X (t:MeshD) (s0 s1:Int):Value→Value→Mem→Prop:=MeshRaw t.d s0 s1 t.pts t.tris t.nt
structure MeshAll (K:Nat) (hf:Bool) (t:MeshD):Prop where
 np:goodNp t.pts.length
 nt:1≤t.nt∧t.nt≤12
 mesh:∀ {M:Mem},Good M → ∀ {k s0 s1:Int},(0≤k∧k≤255)→(-128≤s0∧s0≤127)→(-128≤s1∧s1≤127)→k.tmod 8=K → ∀ {w:World},M.On w →
  Calls Tryz.prog 39 #[.agg #[.int .u8 k,.int .i8 s0,.int .i8 s1,.bool hf]] w (RetM M w (Post12 t.pts.length t.nt (t.X (s0.tmod 8) (s1.tmod 8))))
 cut:∀ {M:Mem},Good M → ∀ {s0 s1:Int},(-7≤s0∧s0≤7)→(-7≤s1∧s1≤7) → ∀ {b0 c0 b1:Nat},t.X s0 s1 (slV b0 t.pts.length c0) (slV b1 t.nt t.nt) M →
  ∃ z:Nat,z<30∧CallOk Tryz.prog M 52 [.agg #[slV b0 t.pts.length c0,cutV b1 t.nt]] (.int .i64 (Int.ofNat (z+1)))
theorem cut_all {t:CutT} {k0:List (Nat × RM)} (ht:t.Ok k0) {M:Mem} (hg:Good M) {s0 s1:Int} (h0 : -7≤s0∧s0≤7) (h1 : -7≤s1∧s1≤7) {b0 c0 b1:Nat} (hraw:t.md.X s0 s1 (slV b0 t.md.pts.length c0) (slV b1 t.md.nt t.md.nt) M) :
  ∃ z:Nat,z<30∧CallOk Tryz.prog M 52 [.agg #[slV b0 t.md.pts.length c0,cutV b1 t.md.nt]] (.int .i64 (Int.ofNat (z+1))):=by
 have h:=ht.own
 simp only [Bool.and_eq_true] at h
 exact⟨t.z,nblt_lt h.2,cut_ok ht hg h0 h1 hraw⟩
theorem all00:MeshAll 0 false cu00.md:=⟨.inr (.inl rfl),by decide,fun hg _ _ _ hk h0 h1 hK _ hw=>me00_ok.mesh hg hk h0 h1 hK hw,fun hg _ _ h0 h1 _ _ _ h=>cut_all cu00_ok hg h0 h1 h⟩
theorem all01:MeshAll 0 true cu01.md:=⟨.inr (.inl rfl),by decide,fun hg _ _ _ hk h0 h1 hK _ hw=>me01_ok.mesh hg hk h0 h1 hK hw,fun hg _ _ h0 h1 _ _ _ h=>cut_all cu01_ok hg h0 h1 h⟩
theorem all10:MeshAll 1 false cu10.md:=⟨.inr (.inl rfl),by decide,fun hg _ _ _ hk h0 h1 hK _ hw=>me10_ok.mesh hg hk h0 h1 hK hw,fun hg _ _ h0 h1 _ _ _ h=>cut_all cu10_ok hg h0 h1 h⟩
theorem all11:MeshAll 1 true cu11.md:=⟨.inr (.inl rfl),by decide,fun hg _ _ _ hk h0 h1 hK _ hw=>me11_ok.mesh hg hk h0 h1 hK hw,fun hg _ _ h0 h1 _ _ _ h=>cut_all cu11_ok hg h0 h1 h⟩
theorem all20:MeshAll 2 false cu20.md:=⟨.inr (.inr (.inl rfl)),by decide,fun hg _ _ _ hk h0 h1 hK _ hw=>me20_ok.mesh hg hk h0 h1 hK hw,fun hg _ _ h0 h1 _ _ _ h=>cut_all cu20_ok hg h0 h1 h⟩
theorem all21:MeshAll 2 true cu21.md:=⟨.inr (.inr (.inl rfl)),by decide,fun hg _ _ _ hk h0 h1 hK _ hw=>me21_ok.mesh hg hk h0 h1 hK hw,fun hg _ _ h0 h1 _ _ _ h=>cut_all cu21_ok hg h0 h1 h⟩
theorem all30:MeshAll 3 false cu30.md:=⟨.inl rfl,by decide,fun hg _ _ _ hk h0 h1 hK _ hw=>me30_ok.mesh hg hk h0 h1 hK hw,fun hg _ _ h0 h1 _ _ _ h=>cut_all cu30_ok hg h0 h1 h⟩
theorem all31:MeshAll 3 true cu31.md:=⟨.inl rfl,by decide,fun hg _ _ _ hk h0 h1 hK _ hw=>me31_ok.mesh hg hk h0 h1 hK hw,fun hg _ _ h0 h1 _ _ _ h=>cut_all cu31_ok hg h0 h1 h⟩
theorem all40:MeshAll 4 false cu40.md:=⟨.inr (.inr (.inr rfl)),by decide,fun hg _ _ _ hk h0 h1 hK _ hw=>me40_ok.mesh hg hk h0 h1 hK hw,fun hg _ _ h0 h1 _ _ _ h=>cut_all cu40_ok hg h0 h1 h⟩
theorem all41:MeshAll 4 true cu41.md:=⟨.inr (.inr (.inr rfl)),by decide,fun hg _ _ _ hk h0 h1 hK _ hw=>me41_ok.mesh hg hk h0 h1 hK hw,fun hg _ _ h0 h1 _ _ _ h=>cut_all cu41_ok hg h0 h1 h⟩
theorem all50:MeshAll 5 false cu50.md:=⟨.inr (.inl rfl),by decide,fun hg _ _ _ hk h0 h1 hK _ hw=>me50_ok.mesh hg hk h0 h1 hK hw,fun hg _ _ h0 h1 _ _ _ h=>cut_all cu50_ok hg h0 h1 h⟩
theorem all51:MeshAll 5 true cu51.md:=⟨.inr (.inl rfl),by decide,fun hg _ _ _ hk h0 h1 hK _ hw=>me51_ok.mesh hg hk h0 h1 hK hw,fun hg _ _ h0 h1 _ _ _ h=>cut_all cu51_ok hg h0 h1 h⟩
theorem all60:MeshAll 6 false cu60.md:=⟨.inr (.inr (.inl rfl)),by decide,fun hg _ _ _ hk h0 h1 hK _ hw=>me60_ok.mesh hg hk h0 h1 hK hw,fun hg _ _ h0 h1 _ _ _ h=>cut_all cu60_ok hg h0 h1 h⟩
theorem all61:MeshAll 6 true cu61.md:=⟨.inr (.inr (.inl rfl)),by decide,fun hg _ _ _ hk h0 h1 hK _ hw=>me61_ok.mesh hg hk h0 h1 hK hw,fun hg _ _ h0 h1 _ _ _ h=>cut_all cu61_ok hg h0 h1 h⟩
theorem all70:MeshAll 7 false cu70.md:=⟨.inr (.inl rfl),by decide,fun hg _ _ _ hk h0 h1 hK _ hw=>me70_ok.mesh hg hk h0 h1 hK hw,fun hg _ _ h0 h1 _ _ _ h=>cut_all cu70_ok hg h0 h1 h⟩
theorem all71:MeshAll 7 true cu71.md:=⟨.inr (.inl rfl),by decide,fun hg _ _ _ hk h0 h1 hK _ hw=>me71_ok.mesh hg hk h0 h1 hK hw,fun hg _ _ h0 h1 _ _ _ h=>cut_all cu71_ok hg h0 h1 h⟩
theorem mesh_all {K:Nat} (hK:K<8) (hf:Bool):∃ t,MeshAll K hf t:=by
 have:K=0∨K=1∨K=2∨K=3∨K=4∨K=5∨K=6∨K=7:=by omega
 cases hf
 ·rcases this with rfl | rfl | rfl | rfl | rfl | rfl | rfl | rfl
  ·exact⟨_,all00⟩
  ·exact⟨_,all10⟩
  ·exact⟨_,all20⟩
  ·exact⟨_,all30⟩
  ·exact⟨_,all40⟩
  ·exact⟨_,all50⟩
  ·exact⟨_,all60⟩
  ·exact⟨_,all70⟩
 ·rcases this with rfl | rfl | rfl | rfl | rfl | rfl | rfl | rfl
  ·exact⟨_,all01⟩
  ·exact⟨_,all11⟩
  ·exact⟨_,all21⟩
  ·exact⟨_,all31⟩
  ·exact⟨_,all41⟩
  ·exact⟨_,all51⟩
  ·exact⟨_,all61⟩
  ·exact⟨_,all71⟩
def Shaped (kind sub:Nat):Prop:=(kind=2∧sub=0)∨(kind=4∧sub=0)∨(kind=3∧sub<6)∨(kind=5∧sub<6)∨(kind=1∧sub<3)
theorem tmod_nat {z:Int} {n:Nat} (hn:0<n) (hz:0≤z):∃ m:Nat,m<n∧z.tmod n=m:=by
 obtain⟨h1,h2⟩:=tmod_rn (z:=z) hn hz
 exact⟨(z.tmod n).toNat,by omega,by omega⟩
theorem kinded_of {dd:Nat→Int} (h:DeedOk dd):∃ kind sub,Kinded dd kind sub∧Shaped kind sub:=by
 obtain⟨m,hm,e⟩:=tmod_nat (z:=dd 0) (n:=5) (by omega) (h.byte 0 (by omega)).1
 have e:(dd 0).tmod 5=m:=e
 have h8:=(h.byte 8 (by omega)).1
 have h11:=(h.byte 11 (by omega)).1
 have:m=0∨m=1∨m=2∨m=3∨m=4:=by omega
 rcases this with rfl | rfl | rfl | rfl | rfl
 ·obtain⟨s,hs,e8⟩:=tmod_nat (z:=dd 8) (n:=3) (by omega) h8
  exact⟨1,s,⟨e,e8⟩,.inr (.inr (.inr (.inr ⟨rfl,hs⟩)))⟩
 ·exact⟨2,0,⟨e,rfl⟩,.inl ⟨rfl,rfl⟩⟩
 ·obtain⟨s,hs,e8⟩:=tmod_nat (z:=dd 8) (n:=3) (by omega) h8
  obtain⟨u,hu,e11⟩:=tmod_nat (z:=dd 11) (n:=2) (by omega) h11
  have e8:(dd 8).tmod 3=s:=e8
  have e11:(dd 11).tmod 2=u:=e11
  refine⟨3,2*s+u,⟨e,?_,?_⟩,.inr (.inr (.inl ⟨rfl,by omega⟩))⟩
  ·rw [e8]; congr 1; omega
  ·rw [e11]; congr 1; omega
 ·exact⟨4,0,⟨e,rfl⟩,.inr (.inl ⟨rfl,rfl⟩)⟩
 ·obtain⟨s,hs,e8⟩:=tmod_nat (z:=dd 8) (n:=6) (by omega) h8
  exact⟨5,s,⟨e,e8⟩,.inr (.inr (.inr (.inl ⟨rfl,hs⟩)))⟩
theorem shaped_lt {kind sub:Nat} (h:Shaped kind sub):shOf kind sub<7:=by
 rcases h with⟨rfl,rfl⟩ | ⟨rfl,rfl⟩ | ⟨rfl,h⟩ | ⟨rfl,h⟩ | ⟨rfl,h⟩ <;> simp only [shOf] <;> omega
structure Dealt (np:Nat) (dds:List (Nat→Int)) (l:List DealT):Prop where
 len:dds.length=l.length
 few:l.length≤3
 idx:∀ (i:Nat) (d:DealT),l[i]? = some d→d.e=i∧d.np=np∧d.ok=true
 shp:∀ d∈l,shOf d.kind d.sub<7
 kin:∀ (i:Nat) (d:DealT) (dd:Nat→Int),l[i]? = some d→dds[i]? = some dd→DeedOk dd∧Kinded dd d.kind d.sub
 hox:∀ d∈l,d.okX=true∧shKind (shOf d.kind d.sub)=d.kind
 run:runM l=true
theorem deals {np:Nat} (hn:goodNp np):∀ (dds:List (Nat→Int)) (e:Nat),(∀ dd∈dds,DeedOk dd) → ∃ l:List DealT,dds.length=l.length ∧
  (∀ (i:Nat) (d:DealT),l[i]? = some d→d∈SS (e+i) np∧shOf d.kind d.sub<7) ∧ ∀ (i:Nat) (d:DealT) (dd:Nat→Int),l[i]? = some d→dds[i]? = some dd→DeedOk dd∧Kinded dd d.kind d.sub
 | [],_,_=>⟨[],rfl,(fun i d h=>by simp at h),(fun i d dd h=>by simp at h)⟩
 | a::dds,e,hd=>by
  have ha:=hd a (by simp)
  obtain⟨k,s,hk,hs⟩:=kinded_of ha
  obtain⟨d,hm,rfl,rfl⟩:=SS_has (e:=e) hn hs
  obtain⟨l,h1,h2,h3⟩:=deals hn dds (e+1) fun dd h=>hd dd (by simp [h])
  refine⟨d::l,by simp [h1],fun i x h => ?_,fun i x dd h h' => ?_⟩
  ·cases i with
   | zero=>simp at h; subst h; exact⟨hm,shaped_lt hs⟩
   | succ i=>
    have:=h2 i x (by simpa using h)
    rw [show e+1+i=e+(i+1) from by omega] at this
    exact this
  ·cases i with
   | zero=>simp at h h'; subst h; subst h'; exact⟨ha,hk⟩
   | succ i=>exact h3 i x dd (by simpa using h) (by simpa using h')
theorem dealt {np:Nat} (hn:goodNp np) {dds:List (Nat→Int)} (hd:∀ dd∈dds,DeedOk dd) (hl:dds.length≤3):∃ l,Dealt np dds l:=by
 obtain⟨l,h1,h2,h3⟩:=deals hn dds 0 hd
 have lt:∀ (i:Nat) (d:DealT),l[i]? = some d→i<3:=fun i d h=>by have:=(List.getElem?_eq_some_iff.1 h).1; omega
 have h2':∀ (i:Nat) (d:DealT),l[i]? = some d→d∈SS i np∧shOf d.kind d.sub<7:=fun i d h=>by have:=h2 i d h; rwa [Nat.zero_add] at this
 refine⟨l,h1,by omega,fun i d h => ?_,fun d h => ?_,h3,fun d h => ?_,runs_all hn (by omega) fun i d h=>(h2' i d h).1⟩
 ·exact⟨(SS_own hn d (h2' i d h).1).1.1,(SS_own hn d (h2' i d h).1).1.2,List.all_eq_true.1 (SS_ok_all (lt i d h) hn) d (h2' i d h).1⟩
 ·obtain⟨i,h⟩:=List.mem_iff_getElem?.1 h
  exact (h2' i d h).2
 ·obtain⟨i,h⟩:=List.mem_iff_getElem?.1 h
  exact⟨List.all_eq_true.1 (SS_x_all (lt i d h) hn) d (h2' i d h).1,(SS_own hn d (h2' i d h).1).2⟩
theorem EvsC.slice {M:Mem} {lss:List (List Value)} {sv:Value} (h:EvsC M lss sv):∃ a n c,sv=Value.slice a n c:=by
 rcases h with⟨_,rfl⟩ | ⟨_,_,_,_,_,_,_,rfl,_⟩
 ·exact⟨_,_,_,rfl⟩
 ·exact⟨_,_,_,rfl⟩
theorem tmod_pick {z:Int} {n:Nat} (hn:0<n) (hz:0≤z) (b:Bool):∃ m:Nat,m<cond b n 1∧(b=true→z.tmod n=m):=by
 cases b
 ·exact⟨0,Nat.zero_lt_one,fun h=>by cases h⟩
 ·obtain⟨m,h1,h2⟩:=tmod_nat hn hz
  exact⟨m,h1,fun _=>h2⟩
theorem chg_of {kx at_:Int} (hk:0≤kx∧kx≤255) (ha:0≤at_∧at_≤255) {n nt:Nat} (hn:n≤3) (hnt:1≤nt∧nt≤12):∃ t:ChgT,ChgOk t kx at_ n nt∧runCh t=true∧t.n=n∧t.j<8∧(t.j=1→t.j5<5)∧(t.j=3∨t.j=6→t.j4<4)∧t.k<max1 n:=by
 have hm1:0<max1 n:=by
  have:n=0∨n=1∨n=2∨n=3:=by omega
  rcases this with rfl | rfl | rfl | rfl <;> decide
 obtain⟨j,j1,j2⟩:=tmod_nat (z:=kx) (n:=8) (by omega) hk.1
 obtain⟨j5,a1,a2⟩:=tmod_pick (z:=at_) (n:=5) (by omega) ha.1 (Nat.beq j 1)
 obtain⟨j4,b1,b2⟩:=tmod_pick (z:=at_) (n:=4) (by omega) ha.1 (j36 j)
 obtain⟨k,k1,k2⟩:=tmod_nat (z:=at_) (n:=max1 n) hm1 ha.1
 obtain⟨u,u1,u2⟩:∃ u,u<cond (Nat.beq j 2) 12 1∧(j=2→u+1=nt):=by
  cases h:Nat.beq j 2
  ·exact⟨0,by decide,fun e=>by subst e; cases h⟩
  ·exact⟨nt-1,by rw [cond_true]; omega,fun _=>by omega⟩
 have h36:j=3∨j=6→j36 j=true:=by rintro (rfl | rfl) <;> rfl
 refine⟨⟨n,u+1,j,j5,j4,k⟩,⟨rfl,u2,j2,fun h=>a2 (by cases h; rfl),fun h=>b2 (h36 h),k2⟩,runCh_all (by omega) k1 j1 a1 b1 u1,rfl,j1,fun h => ?_,fun h => ?_,k1⟩
 ·have h:j=1:=h
  subst h; exact a1
 ·have h:=h36 h
  rw [h,cond_true] at b1; exact b1
theorem chg_hist {M:Mem} (hg:Good M) {b0 np c0 b1 nt:Nat} {sv:Value} (hnt:1≤nt∧nt≤12) (hm:CallOk Tryz.prog M 52 [.agg #[slV b0 np c0,slV b1 nt nt]] (.int .i64 0)) (hh:HistR M (slV b0 np c0) (slV b1 nt nt) sv)
  (hbad:∃ z:Nat,z<30∧CallOk Tryz.prog M 52 [.agg #[slV b0 np c0,cutV b1 nt]] (.int .i64 (Int.ofNat (z+1)))) {kx at_:Int} (hk:0≤kx∧kx≤255) (ha:0≤at_∧at_≤255) {w:World} (hw:M.On w) :
  Calls Tryz.prog 10 #[.agg #[slV b0 np c0,slV b1 nt nt,strB baseB,sv],.agg #[.int .u8 kx,.int .u8 at_]] w (RetM M w fun y M' => ∃ m1' bs' sv',y = .agg #[slV b0 np c0,m1',bs',sv']∧(∃ a n c,m1'=Value.slice a n c)∧(∃ s,bs'=Value.string s)∧(∃ a n c,sv'=Value.slice a n c) ∧
   ∃ h:Int,(0≤h∧h≤40)∧CallOk Tryz.prog M' 27 [.agg #[slV b0 np c0,m1',bs',sv']] (.int .i64 h)∧(h=0→m1'=slV b1 nt nt)):=by
 obtain⟨evs,h2,hraw,hin⟩:=hh.evs
 obtain⟨t,h3,h4,h5,h6,h7,h8,h9⟩:=chg_of hk ha (n:=evs.length) (nt:=nt) h2 hnt
 have hl:∀ ls∈evs.map (·.2),ls.length=32 ∧ ∀ x∈ls,oneV x:=fun ls hm=>by
  obtain⟨p,hp,rfl⟩:=List.mem_map.1 hm
  obtain⟨k,hk⟩:=List.mem_iff_getElem?.1 hp
  exact⟨(hin k p hk).raw.len,(hin k p hk).raw.one⟩
 have h3':ChgOk t kx at_ (evs.map (·.2)).length nt:=by rw [List.length_map]; exact h3
 refine (changed_ok hg (m0:=slV b0 np c0) trivial (by rw [List.length_map]; exact h2) hl hraw.toC hk ha h3' h4 hw).mono ?_
 rintro e w' ⟨y,M',rfl,g1,g2,g3,g4,g5,sv',rfl,hs⟩
 refine⟨_,M',rfl,g1,g2,g3,g4,g5,_,_,_,rfl,?_,⟨_,rfl⟩,hs.slice,?_⟩
 ·cases Nat.beq t.j 2 <;> exact⟨_,_,_,rfl⟩
 ·obtain⟨z,z1,z2,z3⟩:=hist_changed (hg.le g4) (m0:=slV b0 np c0) trivial (hm.le g4) h2 (fun k p hk=>(hin k p hk).le g4) ha h5 h6 h7 h8 h9 (fun _=>by obtain⟨z,q1,q2⟩:=hbad; exact⟨z,q1,q2.le g4⟩) hs
  refine⟨z,z2,z1,fun h => ?_⟩
  rw [nbeq_false (z3 h),cond_false]
theorem raw_nt {t:MeshD} {s0 s1:Int} {m0:Value} {b1 c1:Nat} {M:Mem} (h:t.X s0 s1 m0 (slV b1 t.nt c1) M):c1=t.nt:=by
 obtain⟨_,_,_,_,_,e,_,e2,_⟩:=h.raw
 obtain⟨_,_,rfl⟩:=slV_inj' e
 exact e2
theorem good_mem {n:Nat} (h:goodNp n):n∈[3,4,5,6]:=by rcases h with h | h | h | h <;> subst h <;> decide
end Go.Proofs.YtkjinnjopoehhaaGreatDoor
