/-
  Meshes without their first triangles, checked on symbols.
-/
import Derived.Test.YtkjinnjopoehhaaGreatDoorMeshY
import Derived.Test.YtkjinnjopoehhaaGreatDoorSymX
set_option linter.unusedSectionVars false
set_option linter.unusedVariables false
set_option linter.unusedSimpArgs false
namespace Go.Proofs.YtkjinnjopoehhaaGreatDoor
open Go.RowKit Go Ev Klp
structure CutT where
 d:Nat
 pts:List (Int × Int)
 tris:List Int
 nt:Nat
 tab:T SE
 cp:List V
 r:TabsR
 z:Nat
 k1:List (Nat × RM)
 k2:List (Nat × RM)
 k3:List (Nat × RM)
noncomputable def CutT.cx (t:CutT):CX:=⟨t.tab,bdST,[],[],[]⟩
def CutT.gl (t:CutT):List (Nat × List V):=[(32,t.cp),(33,t.tris.map fun n=>.int .i64 n)]
noncomputable def CutT.kit (t:CutT) (l:List (Nat × RM)):Kit:=kitG t.cx t.r.bins t.r.convs t.r.rows l t.gl
noncomputable def CutT.keeps (t:CutT) (l k:List (Nat × RM)):Bool:=k.all fun p=>rmChk (t.kit l).tab 10000 60 p.1 p.2
def CutT.arg (t:CutT):List V:=[.agg [.slice 32 0 t.pts.length (2*t.pts.length+1),.slice 33 (cond (Nat.beq t.nt 1) 0 3) (t.nt-1) (2*(t.nt-1))]]
structure CutT.Ok (t:CutT) (k0:List (Nat × RM)):Prop where
 own:((kitK t.cx t.r.bins t.r.convs t.r.rows []).chk&&numsEq t.cx (ptsN t.d t.pts) t.cp&&Nat.blt t.z 30)=true
 first:∀ w0:Base,Pow w0→AllK w0 k0
 s1:t.keeps k0 t.k1=true
 s2:t.keeps (t.k1++k0) t.k2=true
 s3:t.keeps (t.k2++(t.k1++k0)) t.k3=true
 last:memoOk (t.kit (t.k3++(t.k2++(t.k1++k0)))).tab 10000 60 52 t.arg (.int .i64 (Int.ofNat (t.z+1)))=true
def xC (s0 s1:Int) (v:Nat):Int:=(([0,0,0,s0,s1]:List Int)[v]?).getD 0
theorem slV_inj' {b n c b' n' c':Nat} (h:slV b n c=slV b' n' c'):b=b'∧n=n'∧c=c':=by
 unfold slV at h
 simp only [Value.slice.injEq,Option.some.injEq,Addr.mk.injEq,and_true] at h
 exact h
theorem cut_ok {t:CutT} {k0:List (Nat × RM)} (ht:t.Ok k0) {M:Mem} (hg:Good M) {s0 s1:Int} (h0 : -7≤s0∧s0≤7) (h1 : -7≤s1∧s1≤7) {b0 c0 b1:Nat} (hraw:MeshRaw t.d s0 s1 t.pts t.tris t.nt (slV b0 t.pts.length c0) (slV b1 t.nt t.nt) M) :
  CallOk Tryz.prog M 52 [.agg #[slV b0 t.pts.length c0,cutV b1 t.nt]] (.int .i64 (Int.ofNat (t.z+1))):=by
 have hown:=ht.own
 simp only [Bool.and_eq_true] at hown
 obtain⟨⟨o1,o2⟩,_⟩:=hown
 obtain⟨b0',c0',b1',c1',y0,y1,hc0,hc1,zf0,zf1,⟨rc0,ty0,fr0,rest0,g0,e0⟩,rc1,ty1,fr1,rest1,g1,e1⟩:=hraw.raw
 obtain⟨rfl,_,rfl⟩:=slV_inj' y0
 obtain⟨rfl,_,_⟩:=slV_inj' y1
 let x:=xC s0 s1
 let st:Nat→Info:=fun n=>if n=32 then { blk:=b0,size:=c0,unit:=1 } else { blk:=b1,size:=0,unit:=1 }
 let w0:Base:={ toMem:=M,sym:=symX x (fun _=>.nilFunc) t.tab,stat:=st }
 have hone:∀ i,oneV (w0.sym i):=fun i=>symX_one (o:=fun _=>.nilFunc) (fun _=>trivial) i
 have hC:CXOk w0 x (fun _=>.nilFunc) t.cx:=by
  refine⟨fun _ _ _=>rfl,fun v => ?_,(fun f hf=>by cases hf),(fun r hr=>by cases hr),(fun p hp=>by cases hp),(fun _=>trivial),hg.pow _ _,hg.tabs⟩
  show Iv.has ((bdST.get v).getD (0,0)) _
  rw [bdST_eq]
  exact bd_of (l:=bdS) (zs:=[0,0,0,s0,s1]) ⟨⟨by omega,by omega⟩,⟨by omega,by omega⟩,⟨by omega,by omega⟩,h0,h1,trivial⟩ v
 have hGl:GlOk w0 t.gl:=by
  intro n cs hm
  simp only [CutT.gl,List.mem_cons,List.not_mem_nil,or_false] at hm
  rcases hm with hm | hm
  ·cases hm
   refine⟨by omega,by omega,(Array.getElem?_eq_some_iff.1 g0).1,zf0,rc0,ty0,fr0,g0,fun E hE=>⟨_,rest0,numsEq_ok hC hE o2,?_⟩⟩
   rw [ptsN_val]; exact e0
  ·cases hm
   exact⟨by omega,by omega,(Array.getElem?_eq_some_iff.1 g1).1,zf1,rc1,ty1,fr1,g1,fun E hE=>⟨_,rest1,ints_ok' _,e1⟩⟩
 have a1:=kitG_keeps hC hGl o1 (ht.first w0 hC.pow) ht.s1
 have a2:=kitG_keeps hC hGl o1 a1 ht.s2
 have a3:=kitG_keeps hC hGl o1 a2 ht.s3
 have hE0:StatOk w0 (baseE w0 hone):=base_stat
 refine (kitG_run hC hGl o1 a3 ht.last).callOk hE0 (VRL.cons ⟨[_,_],VRL.cons ⟨st 32,hE0.stat 32 (by omega) (by omega),?_⟩ (VRL.cons ⟨st 33,hE0.stat 33 (by omega) (by omega),?_⟩ VRL.nil),rfl⟩ VRL.nil) rfl
 ·show slV b0 t.pts.length c0 = .slice (some ⟨b0,0,none⟩) t.pts.length (capOf { blk:=b0,size:=c0,unit:=1 } 0 (2*t.pts.length+1))
  unfold capOf slV
  rw [if_neg (by omega)]
  simp only [Nat.sub_zero,Nat.div_one]
  congr 1
  omega
 ·show cutV b1 t.nt = .slice (some ⟨b1,cond (Nat.beq t.nt 1) 0 3,none⟩) (t.nt-1) (capOf { blk:=b1,size:=0,unit:=1 } _ (2*(t.nt-1)))
  unfold capOf cutV
  rw [if_pos (by omega),Nat.mul_div_cancel_left _ (by omega)]
end Go.Proofs.YtkjinnjopoehhaaGreatDoor
namespace Go.Proofs.YtkjinnjopoehhaaGreatDoor
open Go Ev Klp Ab
set_option maxRecDepth 100000
noncomputable def cu00:CutT:=⟨1,[(0,0),(4,0),(4,4),(0,4)],[0,1,2,0,2,3],2,
 (c (b (l (.num ⟨[([],4),([4],1)],1⟩)) (n 4)) (n 3) (l (.num ⟨[([],4),([3],1)],1⟩))),
 [.sym 0,.sym 1,.sym 2,.sym 1,.sym 2,.sym 3,.sym 0,.sym 3],
 ⟨[],[],(m (p (m (p (p (l (l [z 0 0,z 0 1,z 0 2,z 0 3])))) (q (p (q (p (l (l [([.str [49,54]],g 1)])))))))) (p (m (p (p (q (p (l (l [([.sym 2,.sym 0],d 52),([.sym 3,.sym 1],d 52),([.sym 0,.sym 0],d 48),([.str [49,54],d 48],.str [49,54])])))))) (q (p (p (q (l (l [([d 52,d 52],.str [49,54]),([d 52,d 48],d 48)])))))))))⟩,24,
 [(107,⟨[.agg [.sym 0,.sym 1],.agg [.sym 2,.sym 3],.agg [.sym 0,.sym 3]],[],g 1,[],6⟩)],
 [(173,⟨[.agg [.slice 32 0 4 9,.slice 33 3 1 2]],[],.tup [.map 67,.bool true],[(67,.map [(.agg [g 0,g 2],g 0),(.agg [g 2,g 3],g 0),(.agg [g 3,g 0],g 0)] none)],13⟩),
 (174,⟨[.agg [.slice 32 0 4 9,.slice 33 3 1 2],.map 64],[.map [(.agg [g 0,g 2],g 0),(.agg [g 2,g 3],g 0),(.agg [g 3,g 0],g 0)] none],.tup [.slice 76 0 3 7,.bool true],[(76,.cells [g 0,g 2,g 3] 3 1 false)],12⟩)],
 [(108,⟨[.agg [.slice 32 0 4 9,.slice 33 3 1 2]],[],.bool false,[],28⟩)]⟩
theorem cu00_own:((kitK cu00.cx cu00.r.bins cu00.r.convs cu00.r.rows []).chk&&numsEq cu00.cx (ptsN cu00.d cu00.pts) cu00.cp&&Nat.blt cu00.z 30)=true:=by kernel_rfl
theorem cu00_1:cu00.keeps [] cu00.k1=true:=by kernel_rfl
theorem cu00_2:cu00.keeps (cu00.k1++[]) cu00.k2=true:=by kernel_rfl
theorem cu00_3:cu00.keeps (cu00.k2++(cu00.k1++[])) cu00.k3=true:=by kernel_rfl
theorem cu00_run:memoOk (cu00.kit (cu00.k3++(cu00.k2++(cu00.k1++[])))).tab 10000 60 52 cu00.arg (.int .i64 (Int.ofNat (cu00.z+1)))=true:=by kernel_rfl
theorem cu00_ok:CutT.Ok cu00 []:=⟨cu00_own,fun _ h=>AllK.nil,cu00_1,cu00_2,cu00_3,cu00_run⟩
noncomputable def cu01:CutT:=⟨2,[(0,0),(4,0),(4,4),(0,4)],[0,1,2,0,2,3],2,
 (c (b (l (.num ⟨[([],4),([4],1)],2⟩)) (k [(4,1)] 2)) (k [(3,1)] 2) (l (.num ⟨[([],4),([3],1)],2⟩))),
 [.sym 0,.sym 1,.sym 2,.sym 1,.sym 2,.sym 3,.sym 0,.sym 3],
 ⟨[],[],(m (p (m (p (p (l (l [z 0 0,z 0 1,z 0 2,z 0 3])))) (q (p (q (p (l (l [([d 52],g 1)])))))))) (p (m (p (p (q (p (l (l [([.sym 2,.sym 0],d 50),([.sym 3,.sym 1],d 50),([.sym 0,.sym 0],d 48),([d 52,d 48],d 52)])))))) (q (p (p (q (l (l [([d 50,d 50],d 52),([d 50,d 48],d 48)])))))))))⟩,24,
 [(107,⟨[.agg [.sym 0,.sym 1],.agg [.sym 2,.sym 3],.agg [.sym 0,.sym 3]],[],g 1,[],6⟩)],
 [(173,⟨[.agg [.slice 32 0 4 9,.slice 33 3 1 2]],[],.tup [.map 67,.bool true],[(67,.map [(.agg [g 0,g 2],g 0),(.agg [g 2,g 3],g 0),(.agg [g 3,g 0],g 0)] none)],13⟩),
 (174,⟨[.agg [.slice 32 0 4 9,.slice 33 3 1 2],.map 64],[.map [(.agg [g 0,g 2],g 0),(.agg [g 2,g 3],g 0),(.agg [g 3,g 0],g 0)] none],.tup [.slice 76 0 3 7,.bool true],[(76,.cells [g 0,g 2,g 3] 3 1 false)],12⟩)],
 [(108,⟨[.agg [.slice 32 0 4 9,.slice 33 3 1 2]],[],.bool false,[],28⟩)]⟩
theorem cu01_own:((kitK cu01.cx cu01.r.bins cu01.r.convs cu01.r.rows []).chk&&numsEq cu01.cx (ptsN cu01.d cu01.pts) cu01.cp&&Nat.blt cu01.z 30)=true:=by kernel_rfl
theorem cu01_1:cu01.keeps [] cu01.k1=true:=by kernel_rfl
theorem cu01_2:cu01.keeps (cu01.k1++[]) cu01.k2=true:=by kernel_rfl
theorem cu01_3:cu01.keeps (cu01.k2++(cu01.k1++[])) cu01.k3=true:=by kernel_rfl
theorem cu01_run:memoOk (cu01.kit (cu01.k3++(cu01.k2++(cu01.k1++[])))).tab 10000 60 52 cu01.arg (.int .i64 (Int.ofNat (cu01.z+1)))=true:=by kernel_rfl
theorem cu01_ok:CutT.Ok cu01 []:=⟨cu01_own,fun _ h=>AllK.nil,cu01_1,cu01_2,cu01_3,cu01_run⟩
noncomputable def cu10:CutT:=⟨1,[(0,0),(4,0),(4,4),(0,4)],[0,1,3,1,2,3],2,
 (c (b (l (.num ⟨[([],4),([4],1)],1⟩)) (n 4)) (n 3) (l (.num ⟨[([],4),([3],1)],1⟩))),
 [.sym 0,.sym 1,.sym 2,.sym 1,.sym 2,.sym 3,.sym 0,.sym 3],
 ⟨[],[],(m (p (m (p (p (l (l [z 0 0,z 0 1,z 0 2,z 0 3])))) (q (p (q (p (l (l [([.str [49,54]],g 1)])))))))) (p (m (p (p (q (p (l (l [([.sym 2,.sym 2],d 48),([.sym 3,.sym 1],d 52),([.sym 0,.sym 2],.str [45,52]),([d 48,.str [45,49,54]],.str [49,54])])))))) (q (p (p (q (l (l [([d 48,d 52],d 48),([d 52,.str [45,52]],.str [45,49,54])])))))))))⟩,24,
 [(107,⟨[.agg [.sym 2,.sym 1],.agg [.sym 2,.sym 3],.agg [.sym 0,.sym 3]],[],g 1,[],6⟩)],
 [(173,⟨[.agg [.slice 32 0 4 9,.slice 33 3 1 2]],[],.tup [.map 67,.bool true],[(67,.map [(.agg [g 1,g 2],g 0),(.agg [g 2,g 3],g 0),(.agg [g 3,g 1],g 0)] none)],13⟩),
 (174,⟨[.agg [.slice 32 0 4 9,.slice 33 3 1 2],.map 64],[.map [(.agg [g 1,g 2],g 0),(.agg [g 2,g 3],g 0),(.agg [g 3,g 1],g 0)] none],.tup [.slice 76 0 3 7,.bool true],[(76,.cells [g 1,g 2,g 3] 3 1 false)],12⟩)],
 [(108,⟨[.agg [.slice 32 0 4 9,.slice 33 3 1 2]],[],.bool false,[],28⟩)]⟩
theorem cu10_own:((kitK cu10.cx cu10.r.bins cu10.r.convs cu10.r.rows []).chk&&numsEq cu10.cx (ptsN cu10.d cu10.pts) cu10.cp&&Nat.blt cu10.z 30)=true:=by kernel_rfl
theorem cu10_1:cu10.keeps [] cu10.k1=true:=by kernel_rfl
theorem cu10_2:cu10.keeps (cu10.k1++[]) cu10.k2=true:=by kernel_rfl
theorem cu10_3:cu10.keeps (cu10.k2++(cu10.k1++[])) cu10.k3=true:=by kernel_rfl
theorem cu10_run:memoOk (cu10.kit (cu10.k3++(cu10.k2++(cu10.k1++[])))).tab 10000 60 52 cu10.arg (.int .i64 (Int.ofNat (cu10.z+1)))=true:=by kernel_rfl
theorem cu10_ok:CutT.Ok cu10 []:=⟨cu10_own,fun _ h=>AllK.nil,cu10_1,cu10_2,cu10_3,cu10_run⟩
noncomputable def cu11:CutT:=⟨2,[(0,0),(4,0),(4,4),(0,4)],[0,1,3,1,2,3],2,
 (c (b (l (.num ⟨[([],4),([4],1)],2⟩)) (k [(4,1)] 2)) (k [(3,1)] 2) (l (.num ⟨[([],4),([3],1)],2⟩))),
 [.sym 0,.sym 1,.sym 2,.sym 1,.sym 2,.sym 3,.sym 0,.sym 3],
 ⟨[],[],(m (p (m (p (p (l (l [z 0 0,z 0 1,z 0 2,z 0 3])))) (q (p (q (p (l (l [([d 52],g 1)])))))))) (p (m (p (p (q (p (l (l [([.sym 2,.sym 2],d 48),([.sym 3,.sym 1],d 50),([.sym 0,.sym 2],.str [45,50]),([d 48,.str [45,52]],d 52)])))))) (q (p (p (q (l (l [([d 48,d 50],d 48),([d 50,.str [45,50]],.str [45,52])])))))))))⟩,24,
 [(107,⟨[.agg [.sym 2,.sym 1],.agg [.sym 2,.sym 3],.agg [.sym 0,.sym 3]],[],g 1,[],6⟩)],
 [(173,⟨[.agg [.slice 32 0 4 9,.slice 33 3 1 2]],[],.tup [.map 67,.bool true],[(67,.map [(.agg [g 1,g 2],g 0),(.agg [g 2,g 3],g 0),(.agg [g 3,g 1],g 0)] none)],13⟩),
 (174,⟨[.agg [.slice 32 0 4 9,.slice 33 3 1 2],.map 64],[.map [(.agg [g 1,g 2],g 0),(.agg [g 2,g 3],g 0),(.agg [g 3,g 1],g 0)] none],.tup [.slice 76 0 3 7,.bool true],[(76,.cells [g 1,g 2,g 3] 3 1 false)],12⟩)],
 [(108,⟨[.agg [.slice 32 0 4 9,.slice 33 3 1 2]],[],.bool false,[],28⟩)]⟩
theorem cu11_own:((kitK cu11.cx cu11.r.bins cu11.r.convs cu11.r.rows []).chk&&numsEq cu11.cx (ptsN cu11.d cu11.pts) cu11.cp&&Nat.blt cu11.z 30)=true:=by kernel_rfl
theorem cu11_1:cu11.keeps [] cu11.k1=true:=by kernel_rfl
theorem cu11_2:cu11.keeps (cu11.k1++[]) cu11.k2=true:=by kernel_rfl
theorem cu11_3:cu11.keeps (cu11.k2++(cu11.k1++[])) cu11.k3=true:=by kernel_rfl
theorem cu11_run:memoOk (cu11.kit (cu11.k3++(cu11.k2++(cu11.k1++[])))).tab 10000 60 52 cu11.arg (.int .i64 (Int.ofNat (cu11.z+1)))=true:=by kernel_rfl
theorem cu11_ok:CutT.Ok cu11 []:=⟨cu11_own,fun _ h=>AllK.nil,cu11_1,cu11_2,cu11_3,cu11_run⟩
noncomputable def cu30:CutT:=⟨1,[(0,0),(6,0),(0,4)],[2,0,1],1,
 (c (b (l (.num ⟨[([],4),([4],1)],1⟩)) (n 4)) (n 3) (l (.num ⟨[([],6),([3],1)],1⟩))),
 [.sym 0,.sym 1,.sym 2,.sym 1,.sym 0,.sym 3],
 ⟨[],[],.e⟩,12,
 [],
 [],
 []⟩
theorem cu30_own:((kitK cu30.cx cu30.r.bins cu30.r.convs cu30.r.rows []).chk&&numsEq cu30.cx (ptsN cu30.d cu30.pts) cu30.cp&&Nat.blt cu30.z 30)=true:=by kernel_rfl
theorem cu30_1:cu30.keeps [] cu30.k1=true:=by kernel_rfl
theorem cu30_2:cu30.keeps (cu30.k1++[]) cu30.k2=true:=by kernel_rfl
theorem cu30_3:cu30.keeps (cu30.k2++(cu30.k1++[])) cu30.k3=true:=by kernel_rfl
theorem cu30_run:memoOk (cu30.kit (cu30.k3++(cu30.k2++(cu30.k1++[])))).tab 10000 60 52 cu30.arg (.int .i64 (Int.ofNat (cu30.z+1)))=true:=by kernel_rfl
theorem cu30_ok:CutT.Ok cu30 []:=⟨cu30_own,fun _ h=>AllK.nil,cu30_1,cu30_2,cu30_3,cu30_run⟩
noncomputable def cu31:CutT:=⟨2,[(0,0),(6,0),(0,4)],[2,0,1],1,
 (c (b (l (.num ⟨[([],4),([4],1)],2⟩)) (k [(4,1)] 2)) (k [(3,1)] 2) (l (.num ⟨[([],6),([3],1)],2⟩))),
 [.sym 0,.sym 1,.sym 2,.sym 1,.sym 0,.sym 3],
 ⟨[],[],.e⟩,12,
 [],
 [],
 []⟩
theorem cu31_own:((kitK cu31.cx cu31.r.bins cu31.r.convs cu31.r.rows []).chk&&numsEq cu31.cx (ptsN cu31.d cu31.pts) cu31.cp&&Nat.blt cu31.z 30)=true:=by kernel_rfl
theorem cu31_1:cu31.keeps [] cu31.k1=true:=by kernel_rfl
theorem cu31_2:cu31.keeps (cu31.k1++[]) cu31.k2=true:=by kernel_rfl
theorem cu31_3:cu31.keeps (cu31.k2++(cu31.k1++[])) cu31.k3=true:=by kernel_rfl
theorem cu31_run:memoOk (cu31.kit (cu31.k3++(cu31.k2++(cu31.k1++[])))).tab 10000 60 52 cu31.arg (.int .i64 (Int.ofNat (cu31.z+1)))=true:=by kernel_rfl
theorem cu31_ok:CutT.Ok cu31 []:=⟨cu31_own,fun _ h=>AllK.nil,cu31_1,cu31_2,cu31_3,cu31_run⟩
noncomputable def cu50:CutT:=⟨1,[(1,4),(5,3),(4,0),(0,0)],[3,2,1,3,1,0],2,
 (c (c (l (.num ⟨[([],3),([4],1)],1⟩)) (.num ⟨[([],4),([4],1)],1⟩) (l (n 4))) (.num ⟨[([],1),([3],1)],1⟩) (c (l (.num ⟨[([],4),([3],1)],1⟩)) (.num ⟨[([],5),([3],1)],1⟩) (l (n 3)))),
 [.sym 0,.sym 1,.sym 2,.sym 3,.sym 4,.sym 5,.sym 6,.sym 5],
 ⟨[],[],(m (p (m (p (p (l (l [z 0 0,z 0 1,z 0 2,z 0 3,z 0 4,z 0 5,z 0 6])))) (q (p (q (p (l (l [([.str [49,55]],g 1)])))))))) (p (m (p (p (q (p (l (l [([.sym 2,.sym 6],d 53),([.sym 1,.sym 5],d 52),([.sym 3,.sym 5],d 51),([.sym 0,.sym 6],d 49),([.str [50,48],d 51],.str [49,55])])))))) (q (p (p (q (l (l [([d 53,d 52],.str [50,48]),([d 51,d 49],d 51)])))))))))⟩,24,
 [(107,⟨[.agg [.sym 6,.sym 5],.agg [.sym 2,.sym 3],.agg [.sym 0,.sym 1]],[],g 1,[],6⟩)],
 [(173,⟨[.agg [.slice 32 0 4 9,.slice 33 3 1 2]],[],.tup [.map 67,.bool true],[(67,.map [(.agg [g 0,g 3],g 0),(.agg [g 1,g 0],g 0),(.agg [g 3,g 1],g 0)] none)],13⟩),
 (174,⟨[.agg [.slice 32 0 4 9,.slice 33 3 1 2],.map 64],[.map [(.agg [g 0,g 3],g 0),(.agg [g 1,g 0],g 0),(.agg [g 3,g 1],g 0)] none],.tup [.slice 76 0 3 7,.bool true],[(76,.cells [g 0,g 3,g 1] 3 1 false)],12⟩)],
 [(108,⟨[.agg [.slice 32 0 4 9,.slice 33 3 1 2]],[],.bool false,[],28⟩)]⟩
theorem cu50_own:((kitK cu50.cx cu50.r.bins cu50.r.convs cu50.r.rows []).chk&&numsEq cu50.cx (ptsN cu50.d cu50.pts) cu50.cp&&Nat.blt cu50.z 30)=true:=by kernel_rfl
theorem cu50_1:cu50.keeps [] cu50.k1=true:=by kernel_rfl
theorem cu50_2:cu50.keeps (cu50.k1++[]) cu50.k2=true:=by kernel_rfl
theorem cu50_3:cu50.keeps (cu50.k2++(cu50.k1++[])) cu50.k3=true:=by kernel_rfl
theorem cu50_run:memoOk (cu50.kit (cu50.k3++(cu50.k2++(cu50.k1++[])))).tab 10000 60 52 cu50.arg (.int .i64 (Int.ofNat (cu50.z+1)))=true:=by kernel_rfl
theorem cu50_ok:CutT.Ok cu50 []:=⟨cu50_own,fun _ h=>AllK.nil,cu50_1,cu50_2,cu50_3,cu50_run⟩
noncomputable def cu51:CutT:=⟨2,[(1,4),(5,3),(4,0),(0,0)],[3,2,1,3,1,0],2,
 (c (c (l (.num ⟨[([],3),([4],1)],2⟩)) (.num ⟨[([],4),([4],1)],2⟩) (l (k [(4,1)] 2))) (.num ⟨[([],1),([3],1)],2⟩) (c (l (.num ⟨[([],4),([3],1)],2⟩)) (.num ⟨[([],5),([3],1)],2⟩) (l (k [(3,1)] 2)))),
 [.sym 0,.sym 1,.sym 2,.sym 3,.sym 4,.sym 5,.sym 6,.sym 5],
 ⟨[],[],(m (p (m (p (p (l (l [z 0 0,z 0 1,z 0 2,z 0 3,z 0 4,z 0 5,z 0 6])))) (q (p (q (p (l (l [([.str [49,55,47,52]],g 1)])))))))) (p (m (p (p (q (p (l (l [([.sym 2,.sym 6],.str [53,47,50]),([.sym 1,.sym 5],d 50),([.sym 3,.sym 5],.str [51,47,50]),([.sym 0,.sym 6],.str [49,47,50]),([d 53,.str [51,47,52]],.str [49,55,47,52])])))))) (q (p (p (q (l (l [([.str [53,47,50],d 50],d 53),([.str [51,47,50],.str [49,47,50]],.str [51,47,52])])))))))))⟩,24,
 [(107,⟨[.agg [.sym 6,.sym 5],.agg [.sym 2,.sym 3],.agg [.sym 0,.sym 1]],[],g 1,[],6⟩)],
 [(173,⟨[.agg [.slice 32 0 4 9,.slice 33 3 1 2]],[],.tup [.map 67,.bool true],[(67,.map [(.agg [g 0,g 3],g 0),(.agg [g 1,g 0],g 0),(.agg [g 3,g 1],g 0)] none)],13⟩),
 (174,⟨[.agg [.slice 32 0 4 9,.slice 33 3 1 2],.map 64],[.map [(.agg [g 0,g 3],g 0),(.agg [g 1,g 0],g 0),(.agg [g 3,g 1],g 0)] none],.tup [.slice 76 0 3 7,.bool true],[(76,.cells [g 0,g 3,g 1] 3 1 false)],12⟩)],
 [(108,⟨[.agg [.slice 32 0 4 9,.slice 33 3 1 2]],[],.bool false,[],28⟩)]⟩
theorem cu51_own:((kitK cu51.cx cu51.r.bins cu51.r.convs cu51.r.rows []).chk&&numsEq cu51.cx (ptsN cu51.d cu51.pts) cu51.cp&&Nat.blt cu51.z 30)=true:=by kernel_rfl
theorem cu51_1:cu51.keeps [] cu51.k1=true:=by kernel_rfl
theorem cu51_2:cu51.keeps (cu51.k1++[]) cu51.k2=true:=by kernel_rfl
theorem cu51_3:cu51.keeps (cu51.k2++(cu51.k1++[])) cu51.k3=true:=by kernel_rfl
theorem cu51_run:memoOk (cu51.kit (cu51.k3++(cu51.k2++(cu51.k1++[])))).tab 10000 60 52 cu51.arg (.int .i64 (Int.ofNat (cu51.z+1)))=true:=by kernel_rfl
theorem cu51_ok:CutT.Ok cu51 []:=⟨cu51_own,fun _ h=>AllK.nil,cu51_1,cu51_2,cu51_3,cu51_run⟩
noncomputable def cu60:CutT:=⟨1,[(0,0),(4,0),(4,4),(0,4),(2,0)],[0,4,3,4,2,3,4,1,2],3,
 (c (b (l (.num ⟨[([],4),([4],1)],1⟩)) (n 4)) (n 3) (b (l (.num ⟨[([],2),([3],1)],1⟩)) (.num ⟨[([],4),([3],1)],1⟩))),
 [.sym 0,.sym 1,.sym 2,.sym 1,.sym 2,.sym 3,.sym 0,.sym 3,.sym 4,.sym 1],
 ⟨[],[],(m (p (m (p (p (l (l [z 0 0,z 0 1,z 0 2,z 0 3,z 0 4])))) (q (p (q (p (l (l [([.str [49,54]],g 1),([d 56],g 1),([d 48],g 0),([.str [45,56]],g (-1))])))))))) (p (m (p (p (q (p (l (l [([.sym 2,.sym 4],d 50),([.sym 3,.sym 1],d 52),([.sym 0,.sym 4],.str [45,50]),([d 56,.str [45,56]],.str [49,54]),([.sym 1,.sym 1],d 48),([d 56,d 48],d 56),([.sym 4,.sym 4],d 48),([d 48,d 48],d 48),([d 48,d 56],.str [45,56]),([d 56,d 56],d 48),([.sym 0,.sym 2],.str [45,52]),([.sym 1,.sym 3],.str [45,52]),([.sym 3,.sym 3],d 48),([.sym 4,.sym 2],.str [45,50]),([.str [49,54],d 48],.str [49,54]),([.sym 2,.sym 2],d 48),([.sym 4,.sym 0],d 50),([.str [45,56],.str [45,56]],d 48),([.sym 2,.sym 0],d 52),([d 48,.str [45,49,54]],.str [49,54])])))))) (q (p (p (q (l (l [([d 50,d 52],d 56),([d 52,.str [45,50]],.str [45,56]),([d 48,d 50],d 48),([d 50,d 48],d 48),([d 52,d 48],d 48),([d 52,d 50],d 56),([.str [45,52],.str [45,52]],.str [49,54]),([d 48,.str [45,50]],d 48),([.str [45,52],d 48],d 48),([d 48,d 48],d 48),([d 50,.str [45,52]],.str [45,56]),([.str [45,52],d 50],.str [45,56]),([.str [45,52],d 52],.str [45,49,54])])))))))))⟩,24,
 [(107,⟨[.agg [.sym 4,.sym 1],.agg [.sym 2,.sym 3],.agg [.sym 0,.sym 3]],[],g 1,[],6⟩),(107,⟨[.agg [.sym 4,.sym 1],.agg [.sym 2,.sym 1],.agg [.sym 2,.sym 3]],[],g 1,[],6⟩)],
 [(173,⟨[.agg [.slice 32 0 5 11,.slice 33 3 2 4]],[],.tup [.map 67,.bool true],[(67,.map [(.agg [g 1,g 2],g 1),(.agg [g 2,g 3],g 0),(.agg [g 2,g 4],g 1),(.agg [g 3,g 4],g 0),(.agg [g 4,g 1],g 1),(.agg [g 4,g 2],g 0)] none)],21⟩),
 (174,⟨[.agg [.slice 32 0 5 11,.slice 33 3 2 4],.map 64],[.map [(.agg [g 1,g 2],g 1),(.agg [g 2,g 3],g 0),(.agg [g 2,g 4],g 1),(.agg [g 3,g 4],g 0),(.agg [g 4,g 1],g 1),(.agg [g 4,g 2],g 0)] none],.tup [.slice 81 0 4 9,.bool true],[(81,.cells [g 1,g 2,g 3,g 4] 3 1 false)],17⟩),
 (109,⟨[.agg [.slice 32 0 5 11,.slice 33 3 2 4],g 1,g 0],[],.bool false,[],104⟩)],
 [(108,⟨[.agg [.slice 32 0 5 11,.slice 33 3 2 4]],[],.bool false,[],42⟩)]⟩
theorem cu60_own:((kitK cu60.cx cu60.r.bins cu60.r.convs cu60.r.rows []).chk&&numsEq cu60.cx (ptsN cu60.d cu60.pts) cu60.cp&&Nat.blt cu60.z 30)=true:=by kernel_rfl
theorem cu60_1:cu60.keeps [] cu60.k1=true:=by kernel_rfl
theorem cu60_2:cu60.keeps (cu60.k1++[]) cu60.k2=true:=by kernel_rfl
theorem cu60_3:cu60.keeps (cu60.k2++(cu60.k1++[])) cu60.k3=true:=by kernel_rfl
theorem cu60_run:memoOk (cu60.kit (cu60.k3++(cu60.k2++(cu60.k1++[])))).tab 10000 60 52 cu60.arg (.int .i64 (Int.ofNat (cu60.z+1)))=true:=by kernel_rfl
theorem cu60_ok:CutT.Ok cu60 []:=⟨cu60_own,fun _ h=>AllK.nil,cu60_1,cu60_2,cu60_3,cu60_run⟩
noncomputable def cu61:CutT:=⟨2,[(0,0),(4,0),(4,4),(0,4),(2,0)],[0,4,3,4,2,3,4,1,2],3,
 (c (b (l (.num ⟨[([],4),([4],1)],2⟩)) (k [(4,1)] 2)) (k [(3,1)] 2) (b (l (.num ⟨[([],2),([3],1)],2⟩)) (.num ⟨[([],4),([3],1)],2⟩))),
 [.sym 0,.sym 1,.sym 2,.sym 1,.sym 2,.sym 3,.sym 0,.sym 3,.sym 4,.sym 1],
 ⟨[],[],(m (p (m (p (p (l (l [z 0 0,z 0 1,z 0 2,z 0 3,z 0 4])))) (q (p (q (p (l (l [([d 52],g 1),([d 50],g 1),([d 48],g 0),([.str [45,50]],g (-1))])))))))) (p (m (p (p (q (p (l (l [([.sym 2,.sym 4],d 49),([.sym 3,.sym 1],d 50),([.sym 0,.sym 4],.str [45,49]),([d 50,.str [45,50]],d 52),([.sym 1,.sym 1],d 48),([d 50,d 48],d 50),([.sym 4,.sym 4],d 48),([d 48,d 48],d 48),([d 48,d 50],.str [45,50]),([d 50,d 50],d 48),([.sym 0,.sym 2],.str [45,50]),([.sym 1,.sym 3],.str [45,50]),([.sym 3,.sym 3],d 48),([.sym 4,.sym 2],.str [45,49]),([d 52,d 48],d 52),([.sym 2,.sym 2],d 48),([.sym 4,.sym 0],d 49),([.str [45,50],.str [45,50]],d 48),([.sym 2,.sym 0],d 50),([d 48,.str [45,52]],d 52)])))))) (q (p (p (q (l (l [([d 49,d 50],d 50),([d 50,.str [45,49]],.str [45,50]),([d 48,d 49],d 48),([d 49,d 48],d 48),([d 50,d 48],d 48),([d 50,d 49],d 50),([.str [45,50],.str [45,50]],d 52),([d 48,.str [45,49]],d 48),([.str [45,50],d 48],d 48),([d 48,d 48],d 48),([d 49,.str [45,50]],.str [45,50]),([.str [45,50],d 49],.str [45,50]),([.str [45,50],d 50],.str [45,52])])))))))))⟩,24,
 [(107,⟨[.agg [.sym 4,.sym 1],.agg [.sym 2,.sym 3],.agg [.sym 0,.sym 3]],[],g 1,[],6⟩),(107,⟨[.agg [.sym 4,.sym 1],.agg [.sym 2,.sym 1],.agg [.sym 2,.sym 3]],[],g 1,[],6⟩)],
 [(173,⟨[.agg [.slice 32 0 5 11,.slice 33 3 2 4]],[],.tup [.map 67,.bool true],[(67,.map [(.agg [g 1,g 2],g 1),(.agg [g 2,g 3],g 0),(.agg [g 2,g 4],g 1),(.agg [g 3,g 4],g 0),(.agg [g 4,g 1],g 1),(.agg [g 4,g 2],g 0)] none)],21⟩),
 (174,⟨[.agg [.slice 32 0 5 11,.slice 33 3 2 4],.map 64],[.map [(.agg [g 1,g 2],g 1),(.agg [g 2,g 3],g 0),(.agg [g 2,g 4],g 1),(.agg [g 3,g 4],g 0),(.agg [g 4,g 1],g 1),(.agg [g 4,g 2],g 0)] none],.tup [.slice 81 0 4 9,.bool true],[(81,.cells [g 1,g 2,g 3,g 4] 3 1 false)],17⟩),
 (109,⟨[.agg [.slice 32 0 5 11,.slice 33 3 2 4],g 1,g 0],[],.bool false,[],104⟩)],
 [(108,⟨[.agg [.slice 32 0 5 11,.slice 33 3 2 4]],[],.bool false,[],42⟩)]⟩
theorem cu61_own:((kitK cu61.cx cu61.r.bins cu61.r.convs cu61.r.rows []).chk&&numsEq cu61.cx (ptsN cu61.d cu61.pts) cu61.cp&&Nat.blt cu61.z 30)=true:=by kernel_rfl
theorem cu61_1:cu61.keeps [] cu61.k1=true:=by kernel_rfl
theorem cu61_2:cu61.keeps (cu61.k1++[]) cu61.k2=true:=by kernel_rfl
theorem cu61_3:cu61.keeps (cu61.k2++(cu61.k1++[])) cu61.k3=true:=by kernel_rfl
theorem cu61_run:memoOk (cu61.kit (cu61.k3++(cu61.k2++(cu61.k1++[])))).tab 10000 60 52 cu61.arg (.int .i64 (Int.ofNat (cu61.z+1)))=true:=by kernel_rfl
theorem cu61_ok:CutT.Ok cu61 []:=⟨cu61_own,fun _ h=>AllK.nil,cu61_1,cu61_2,cu61_3,cu61_run⟩
end Go.Proofs.YtkjinnjopoehhaaGreatDoor
