/-
  klippelaw12.Make and mesh.Check at a mesh of the plan: the tables as one, and what follows.
-/
import Derived.Test.YtkjinnjopoehhaaGreatDoorMakeZ
import Derived.Test.YtkjinnjopoehhaaGreatDoorSymX
set_option linter.unusedSectionVars false
set_option linter.unusedVariables false
set_option linter.unusedSimpArgs false
namespace Go.Proofs.YtkjinnjopoehhaaGreatDoor
open Go Ev Klp
noncomputable def kitG (c:CX) (b:List BinRow) (v:List ConvRow) (r:Rows) (l:List (Nat × RM)) (gl:List (Nat × List V)):Kit:=⟨c,b,v,r,.e,flatK l,tmk gl,⟨[],[],[]⟩⟩
def GlOk (w0:Base) (gl:List (Nat × List V)):Prop := ∀ n cs,(n,cs)∈gl→Lies w0 n cs
section
variable {w0:Base} {x:Nat→Int} {o:Nat→Value} {c:CX} {b:List BinRow} {v:List ConvRow} {r:Rows} {l:List (Nat × RM)} {gl:List (Nat × List V)}
theorem kitG_ok (h:CXOk w0 x o c) (hl:AllK w0 l) (hg:GlOk w0 gl):KitOk w0 x o (kitG c b v r l gl):=
 ⟨h,(fun f args v hv=>by simp [kitG,primOf,T.get_e] at hv),(fun f es he e hm=>flatK_ok hl f es he e hm),(fun n cs hn=>hg n cs (tmk_mem hn)),(fun p hp=>by cases hp),(fun p hp=>by cases hp),(fun p hp=>by cases hp)⟩
theorem kitG_run {f:Nat} {args:List V} {val:V} (h:CXOk w0 x o c) (hg:GlOk w0 gl) (hc:(kitK c b v r []).chk=true) (hl:AllK w0 l) (hr:memoOk (kitG c b v r l gl).tab 10000 60 f args val=true):Contract Tryz.prog w0 f args val:=Kit.run (kitG_ok h hl hg) hc hr
end
def numR (p z:Int) (d:Nat):Value:=strV (canon (((p+z:Int):Rat)/((d:Int):Rat)))
def ptsR (d:Nat) (x y:Int) (pts:List (Int × Int)):List Value:=pts.flatMap fun p=>[numR p.1 x d,numR p.2 y d]
def trisR (tris:List Int):List Value:=tris.map fun n=>.int .i64 n
structure MeshRaw (d:Nat) (x y:Int) (pts:List (Int × Int)) (tris:List Int) (nt:Nat) (m0 m1:Value) (M:Mem):Prop where
 raw:∃ b0 c0 b1 c1,m0=slV b0 pts.length c0∧m1=slV b1 nt c1∧pts.length≤c0∧c1=nt∧M.frz b0∧M.frz b1∧(∃ rc t fr rest,M.heap[b0]? = some (.cells rc t fr)∧rc.toList=ptsR d x y pts++rest) ∧
  (∃ rc t fr rest,M.heap[b1]? = some (.cells rc t fr)∧rc.toList=trisR tris++rest)
theorem MeshRaw.le {d:Nat} {x y:Int} {pts:List (Int × Int)} {tris:List Int} {nt:Nat} {m0 m1:Value} {M M':Mem} (hl:M.Le M') (h:MeshRaw d x y pts tris nt m0 m1 M):MeshRaw d x y pts tris nt m0 m1 M':=by
 obtain⟨b0,c0,b1,c1,h1,h2,h3,h4,z0,z1,⟨rc,t,fr,rest,g1,g2⟩,rc',t',fr',rest',g3,g4⟩:=h.raw
 obtain⟨y0,e0⟩:=hl.same _ (Array.getElem?_eq_some_iff.1 g1).1 z0
 obtain⟨y1,e1⟩:=hl.same _ (Array.getElem?_eq_some_iff.1 g3).1 z1
 exact⟨b0,c0,b1,c1,h1,h2,h3,h4,y0,y1,⟨rc,t,fr,rest,e0.trans g1,g2⟩,rc',t',fr',rest',e1.trans g3,g4⟩
noncomputable def numEq (c:CX) (e:Num) (v:V):Bool:=match numE c v with
 | some a=>Poly.same (Poly.scl e.d a.p) (Poly.scl a.d e.p)&&Nat.blt 0 e.d
 | none=>false
noncomputable def numsEq (c:CX):List Num→List V→Bool
 | [],[]=>true
 | e::es,v::vs=>numEq c e v&&numsEq c es vs
 | _,_=>false
theorem numEq_ok {w0:Base} {x:Nat→Int} {o:Nat→Value} {c:CX} (hC:CXOk w0 x o c) {E:Env} (hE:StatOk w0 E) {e:Num} {v:V} (h:numEq c e v=true):VR E v (strV (canon (e.val x))):=by
 unfold numEq at h
 split at h
 ·rename_i a ha
  simp only [Bool.and_eq_true] at h
  have hd:=nblt_lt h.2
  have e1:=Poly.ev_same x h.1
  simp only [Poly.ev_scl] at e1
  have:=num_ret hC hE ha
  have had:=(numE_ok hC hE ha this).2
  have e2:=congrArg (fun z:Int=>(z:Rat)) e1
  simp only [Rat.intCast_mul] at e2
  have key:a.val x=e.val x:=by
   unfold Num.val
   have n1:((a.d:Int):Rat)≠0:=fun e=>by have:=Rat.intCast_eq_zero_iff.1 e; omega
   have n2:((e.d:Int):Rat)≠0:=fun e=>by have:=Rat.intCast_eq_zero_iff.1 e; omega
   generalize (Poly.ev x a.p:Rat)=p at *
   generalize (Poly.ev x e.p:Rat)=q at *
   generalize ((a.d:Int):Rat)=u at *
   generalize ((e.d:Int):Rat)=t at *
   grind
  rwa [key] at this
 ·cases h
theorem numsEq_ok {w0:Base} {x:Nat→Int} {o:Nat→Value} {c:CX} (hC:CXOk w0 x o c) {E:Env} (hE:StatOk w0 E):∀ {es:List Num} {vs:List V},numsEq c es vs=true→VRL E vs (es.map fun e=>strV (canon (e.val x)))
 | [],[],_=>rfl
 | [],_::_,h=>by cases h
 | _::_,[],h=>by cases h
 | e::es,v::vs,h=>by
  simp only [numsEq,Bool.and_eq_true] at h
  exact⟨_,_,rfl,numEq_ok hC hE h.1,numsEq_ok hC hE h.2⟩
def ptsN (d:Nat) (pts:List (Int × Int)):List Num:=pts.flatMap fun p=>[⟨[([],p.1),([3],1)],d⟩,⟨[([],p.2),([4],1)],d⟩]
theorem ptsN_val (x:Nat→Int) (d:Nat):∀ pts:List (Int × Int),(ptsN d pts).map (fun e=>strV (canon (e.val x)))=ptsR d (x 3) (x 4) pts
 | []=>rfl
 | p::pts=>by
  have ih:=ptsN_val x d pts
  simp only [ptsN,ptsR,List.flatMap_cons,List.map_append,List.map_cons,List.map_nil] at ih ⊢
  rw [ih]
  have e1:∀ (p:Int) (v:Nat),strV (canon (Num.val x ⟨[([],p),([v],1)],d⟩))=numR p (x v) d:=by
   intro p v
   unfold numR Num.val
   congr 3
   simp [Poly.ev,Poly.evM]
  rw [e1,e1]
def leafPlain:V→Bool
 | .sym _ | .str _ | .int _ _=>true
 | _=>false
theorem renL_plain {r:Nat→Nat}:∀ {l:List V},l.all leafPlain=true→renL r l=l
 | [],_=>rfl
 | v::l,h=>by
  simp only [List.all_cons,Bool.and_eq_true] at h
  simp only [renL]
  rw [renL_plain h.2]
  cases v <;> first | rfl | cases h.1
theorem numsEq_plain {c:CX}:∀ {es:List Num} {vs:List V},numsEq c es vs=true→vs.all leafPlain=true
 | [],[],_=>rfl
 | [],_::_,h=>by cases h
 | _::_,[],h=>by cases h
 | e::es,v::vs,h=>by
  simp only [numsEq,Bool.and_eq_true] at h
  have h1:=h.1
  simp only [List.all_cons,Bool.and_eq_true]
  refine⟨?_,numsEq_plain h.2⟩
  unfold numEq at h1
  cases v <;> first | rfl | cases h1
theorem ints_ok' {E:Env}:∀ l:List Int,VRL E (l.map fun n=>.int .i64 n) (trisR l)
 | []=>rfl
 | x::l=>VRL.cons rfl (ints_ok' l)
def xS (k s0 s1:Int) (v:Nat):Int:=(([k,s0,s1,s0.tmod 8,s1.tmod 8]:List Int)[v]?).getD 0
def bdS:List Iv:=[(0,255),(-128,127),(-128,127),(-7,7),(-7,7)]
noncomputable def meshPat (c:CX) (d:Nat) (pts:List (Int × Int)) (tris:List Int) (nt:Nat) (pv:V) (ps:List O):Bool:=
 match pv,ps with
 | .agg [.slice 64 0 n0 c0,.slice 65 0 n1 c1],[.cells p0 _ _ _,.cells p1 _ _ _]=>Nat.beq n0 pts.length&&Nat.beq n1 nt&&Nat.ble n0 (c0/2)&&Nat.beq c1 (2*nt)&&numsEq c (ptsN d pts) p0&&V.eqL p1 (tris.map fun n=>.int .i64 n)
 | _,_=>false
theorem meshPat_get {c:CX} {d:Nat} {pts:List (Int × Int)} {tris:List Int} {nt:Nat} {pv:V} {ps:List O} (h:meshPat c d pts tris nt pv ps=true):∃ n0 c0 n1 c1 p0 e0 u0 z0 p1 e1 u1 z1,pv = .agg [.slice 64 0 n0 c0,.slice 65 0 n1 c1]∧ps=[.cells p0 e0 u0 z0,.cells p1 e1 u1 z1] ∧
  (Nat.beq n0 pts.length&&Nat.beq n1 nt&&Nat.ble n0 (c0/2)&&Nat.beq c1 (2*nt)&&numsEq c (ptsN d pts) p0&&V.eqL p1 (tris.map fun n=>.int .i64 n))=true:=by
 unfold meshPat at h
 split at h
 ·exact⟨_,_,_,_,_,_,_,_,_,_,_,_,rfl,rfl,h⟩
 ·cases h
noncomputable def meshChk (c:CX) (K d:Nat) (half:Bool) (pts:List (Int × Int)) (tris:List Int) (nt:Nat) (rm:RM) (pv:V) (ps:List O):Bool:=
 intsIs c [(.u8,P0 0),(.i8,P0 1),(.i8,P0 2)] [.sym 0,.sym 1,.sym 2]&&V.eqL rm.args [.agg [.sym 0,.sym 1,.sym 2,.bool half]]&&rm.sub.isEmpty &&
 fits (orderOf (mkH rm.out) 1000 (namesL [rm.v]) []) [rm.v] (mkH rm.out) (64+rm.made) [pv] ps&&patOk [pv] ps &&
 meshPat c d pts tris nt pv ps
theorem mesh_gen {M:Mem} (hg:Good M) {K d:Nat} {half:Bool} {pts:List (Int × Int)} {tris:List Int} {nt:Nat} {c:CX} {b:List BinRow} {v:List ConvRow} {r:Rows} {rm:RM} {pv:V} {ps:List O} {cs:List (List V)}
  (hbd:c.bd=T.ofList .e 0 bdS) (hrem:c.rems=[(P0 0,8,kst K),(P0 1,8,P0 3),(P0 2,8,P0 4)]) (hfs:c.fs=[]) (hlens:c.lens=[]) (hm:meshChk c K d half pts tris nt rm pv ps=true) (hcs:subCells ps=some cs)
  (hchk:(kitK c b v r []).chk=true) (hrun:rmChk (kitK c b v r []).tab 10000 60 39 rm=true)
  (hfz:∀ (w0:Base) (x:Nat→Int),CXOk w0 x (fun _=>.nilFunc) c→GlOk w0 (glD 32 cs)→Contract Tryz.prog w0 52 [renV fz pv] (.int .i64 0))
  {k s0 s1:Int} (hk:0≤k∧k≤255) (hs0 : -128≤s0∧s0≤127) (hs1 : -128≤s1∧s1≤127) (hK:k.tmod 8=K) {w:World} (hw:M.On w) :
  Calls Tryz.prog 39 #[.agg #[.int .u8 k,.int .i8 s0,.int .i8 s1,.bool half]] w (RetM M w (Post12 pts.length nt (MeshRaw d (s0.tmod 8) (s1.tmod 8) pts tris nt))):=by
 let x:=xS k s0 s1
 let B:Base:={ toMem:=M,sym:=symX x (fun _=>.nilFunc) c.tab }
 have hone:∀ i,oneV (B.sym i):=fun i=>symX_one (o:=fun _=>.nilFunc) (fun _=>trivial) i
 have t8:=fun z:Int=>tmod_rg (z:=z) (n:=8) (by omega)
 have cx:∀ B':Base,B'.sym=B.sym→Good B'.toMem→CXOk B' x (fun _=>.nilFunc) c:=fun B' hs hG=>
  ⟨(fun i e _=>by rw [hs]),(fun z=>by
   show ((c.bd.get z).getD (0,0)).has _
   rw [hbd]
   exact bd_of (l:=bdS) (zs:=[k,s0,s1,s0.tmod 8,s1.tmod 8]) ⟨hk,hs0,hs1,t8 s0,t8 s1,trivial⟩ z),(fun f hf=>by rw [hfs] at hf; cases hf),(fun q hq=>by
   rw [hrem] at hq
   simp only [List.mem_cons,List.not_mem_nil,or_false] at hq
   rcases hq with rfl | rfl | rfl
   ·rw [ev_P0,ev_kst]; exact hK
   ·simp only [ev_P0]; rfl
   ·simp only [ev_P0]; rfl),(fun p hp=>by rw [hlens] at hp; cases hp),(fun _=>trivial),hG.pow _ _,hG.tabs⟩
 have hC:=cx B rfl hg
 simp only [meshChk,Bool.and_eq_true] at hm
 obtain⟨⟨⟨⟨⟨m1,m2⟩,m3⟩,m4⟩,m5⟩,m6⟩:=hm
 have hrm:=Kit.keep (kitK_ok hC AllK.nil) hchk hrun
 have hsub:rm.sub=[]:=by simpa using m3
 refine (RmOk.fresh hrm hone hsub (fun E hE => ?_) hw).mono ?_
 ·rw [V.eqL_eq _ _ m2]
  have h3:=intsIs_ok hC hE m1
  obtain⟨y0,_,e0,h0,y1,_,e1,h1,y2,_,e2,h2,hn⟩:=h3
  simp only [List.map_cons,List.map_nil,ev_P0] at e0
  have e0':=List.cons.inj e0
  refine VRL.cons ⟨_,VRL.cons (x:=.int .u8 k) ?_ (VRL.cons (x:=.int .i8 s0) ?_ (VRL.cons (x:=.int .i8 s1) ?_ (VRL.cons rfl VRL.nil))),rfl⟩ VRL.nil
  ·have:=intIs_ok (k:=.u8) (q:=P0 0) (v:=.sym 0) hC hE (by simp only [intsIs,Bool.and_eq_true] at m1; exact m1.1)
   rw [ev_P0] at this; exact this
  ·have:=intIs_ok (k:=.i8) (q:=P0 1) (v:=.sym 1) hC hE (by simp only [intsIs,Bool.and_eq_true] at m1; exact m1.2.1)
   rw [ev_P0] at this; exact this
  ·have:=intIs_ok (k:=.i8) (q:=P0 2) (v:=.sym 2) hC hE (by simp only [intsIs,Bool.and_eq_true] at m1; exact m1.2.2.1)
   rw [ev_P0] at this; exact this
 ·rintro en w' ⟨y,E2,rfl,hgr,hfr,hv,hok,hnew⟩
  let ord:=orderOf (mkH rm.out) 1000 (namesL [rm.v]) []
  let M':Mem:=memAt B E2 w' ord
  have hle:M.Le M':=memAt_le hok
  have hnames:=fits_names m4
  have hFz:FzOk Tryz.prog B 52 [pv] cs (.int .i64 0):=by
   intro w1 hs g1 hl
   refine hfz w1 x (cx w1 hs (hg.le g1)) ?_
   have key:∀ (l:List (List V)) (k:Nat),(∀ j c,l[j]? = some c→Lies w1 (k+j) (renL fz c)) → ∀ n c,(n,c)∈glD k l→Lies w1 n c:=by
    intro l
    induction l with
    | nil=>intro k _ n c hm; cases hm
    | cons z l ih=>
     intro k hk n c hm
     rcases List.mem_cons.1 hm with e | hm
     ·cases e; exact hk 0 z rfl
     ·exact ih (k+1) (fun j c hj=>by rw [show k+1+j=k+(j+1) from by omega]; exact hk (j+1) c (by simpa using hj)) n c hm
   exact key cs 32 hl
  have hck:CallOk Tryz.prog M' 52 [y] (.int .i64 0):=callOk_of_fits (xs:=[y]) hok (VRL.cons hv VRL.nil) m4 m5 hcs hFz (fun E' _=>(rfl:VR E' (.int .i64 0) (.int .i64 0)))
  have m4':=m4
  simp only [fits,Bool.and_eq_true] at m4'
  obtain⟨⟨f1,f2⟩,f3⟩:=m4'
  have f1:=V.eqL_eq _ _ f1
  obtain⟨hol,hob⟩:=matchSub_at f2
  obtain⟨n0,c0,n1,c1,p0,e0,u0,z0,p1,e1,u1,z1,rfl,rfl,m7⟩:=meshPat_get m6
  simp only [Bool.and_eq_true] at m7
  obtain⟨⟨⟨⟨⟨j1,j2⟩,j3⟩,j4⟩,j5⟩,j6⟩:=m7
  have j1:=nbeq_true j1
  have j2:=nbeq_true j2
  have j3:=nble_le j3
  have j4:=nbeq_true j4
  have j6:=V.eqL_eq _ _ j6
  have hlen:ord.length=2:=hol.symm
  have o0:ord[0]? = some (ord[0]'(by omega)):=List.getElem?_eq_getElem _
  have o1:ord[1]? = some (ord[1]'(by omega)):=List.getElem?_eq_getElem _
  obtain⟨q0,r0,g0⟩:=hob 0 _ _ rfl o0
  obtain⟨q1,r1,g1⟩:=hob 1 _ _ rfl o1
  simp only [renO,Option.some.injEq] at r0 r1
  subst r0; subst r1
  have i0:=invN_at (nx:=64+rm.made) o0
  have i1:=invN_at (nx:=64+rm.made) o1
  simp only [renL,List.cons.injEq,and_true] at f1
  rw [← f1] at hv
  obtain⟨xs,⟨a0,_,rfl,⟨ia,hia,rfl⟩,a1,_,rfl,⟨ib,hib,rfl⟩,hn⟩,rfl⟩:=hv
  obtain rfl:=(show _=[] from hn)
  have i0:invN (orderOf (mkH rm.out) 1000 (namesL [rm.v]) []) (orderOf (mkH rm.out) 1000 (namesL [rm.v]) []).length (64+rm.made) 64=ord[0]:=i0
  have i1:invN (orderOf (mkH rm.out) 1000 (namesL [rm.v]) []) (orderOf (mkH rm.out) 1000 (namesL [rm.v]) []).length (64+rm.made) 65=ord[1]:=i1
  rw [i0] at hia
  rw [i1] at hib
  obtain⟨ia',hia',_,rc0,fr0,h1,h2,h3,xs0,rest0,hx0,hrc0⟩:=hok.rel.obj _ _ g0
  obtain⟨ib',hib',_,rc1,fr1,k1,k2,k3,xs1,rest1,hx1,hrc1⟩:=hok.rel.obj _ _ g1
  rw [hia] at hia'; cases hia'
  rw [hib] at hib'; cases hib'
  have hren:∀ {l:List V},l.all leafPlain=true→renL (invN (orderOf (mkH rm.out) 1000 (namesL [rm.v]) []) (orderOf (mkH rm.out) 1000 (namesL [rm.v]) []).length (64+rm.made)) l=l:=renL_plain
  have hp0:p0.all leafPlain=true:=numsEq_plain j5
  have hp1:p1.all leafPlain=true:=by rw [j6]; exact List.all_eq_true.2 fun z hz=>by obtain⟨n,_,rfl⟩:=List.mem_map.1 hz; rfl
  rw [hren hp0] at hx0
  rw [hren hp1,j6] at hx1
  have y0:=numsEq_ok hC hok.sym j5
  rw [ptsN_val] at y0
  have e00:=VRL.det _ _ _ hx0 y0
  have e00':xs0=ptsR d (s0.tmod 8) (s1.tmod 8) pts:=e00
  have e11:xs1=trisR tris:=VRL.det _ _ _ hx1 (ints_ok' tris)
  have cap:∀ (i:Info) (n cc:Nat),n≤cc/2→n≤capOf i 0 cc:=by
   intro i n cc h
   unfold capOf
   split
   ·exact h
   ·exact Nat.le_trans h (Nat.le_max_left _ _)
  have hyE:(Value.agg [Value.slice (some ⟨ia.blk,0,none⟩) n0 (capOf ia 0 c0),Value.slice (some ⟨ib.blk,0,none⟩) n1 (capOf ib 0 c1)].toArray) = .agg #[slV ia.blk pts.length (capOf ia 0 c0),slV ib.blk nt (capOf ib 0 c1)]:=by
   rw [j1,j2]; unfold slV; exact rfl
  have k0:pts.length≤capOf ia 0 c0:=by rw [← j1]; exact cap _ _ _ j3
  have k1':capOf ib 0 c1=nt:=by rw [j4]; unfold capOf; rw [if_pos (by omega),Nat.mul_div_cancel_left _ (by omega)]
  have f0:M'.frz ia.blk:=.inr ⟨_,List.mem_of_getElem? o0,ia,hia,rfl⟩
  have f1':M'.frz ib.blk:=.inr ⟨_,List.mem_of_getElem? o1,ib,hib,rfl⟩
  have w0:∃ rc t fr rest,M'.heap[ia.blk]? = some (.cells rc t fr)∧rc.toList=ptsR d (s0.tmod 8) (s1.tmod 8) pts++rest:=⟨rc0,_,fr0,rest0,h1,hrc0.trans (congrArg (· ++ rest0) e00')⟩
  have w1:∃ rc t fr rest,M'.heap[ib.blk]? = some (.cells rc t fr)∧rc.toList=trisR tris++rest:=⟨rc1,_,fr1,rest1,k1,hrc1.trans (congrArg (· ++ rest1) e11)⟩
  have hraw:MeshRaw d (s0.tmod 8) (s1.tmod 8) pts tris nt (slV ia.blk pts.length (capOf ia 0 c0)) (slV ib.blk nt (capOf ib 0 c1)) M':=⟨⟨ia.blk,capOf ia 0 c0,ib.blk,capOf ib 0 c1,rfl,rfl,k0,k1',f0,f1',w0,w1⟩⟩
  rw [hyE] at hck ⊢
  have hp:Post12 pts.length nt (MeshRaw d (s0.tmod 8) (s1.tmod 8) pts tris nt) (.agg #[slV ia.blk pts.length (capOf ia 0 c0),slV ib.blk nt (capOf ib 0 c1)]) M':=⟨ia.blk,capOf ia 0 c0,ib.blk,capOf ib 0 c1,rfl,hck,hraw⟩
  have hz:∀ b,M'.frz b→(b<M.heap.size∧M.frz b)∨(w.heap.size≤b∧b<w'.heap.size):=by
   intro bb hbb
   rcases hbb with⟨hb1,hb2⟩ | ⟨n,hn,i,hi,rfl⟩
   ·exact .inl ⟨hb1,hb2⟩
   ·obtain⟨oo,ho⟩:=hnames n hn
    obtain⟨i',hi',hobj⟩:=hok.rel.obj n oo ho
    rw [hi] at hi'; cases hi'
    exact .inr ⟨hnew n oo i (mkH_mem ho) hi,hobj.lt⟩
  exact⟨_,M',rfl,hgr,hfr,rfl,hle,hz,hp⟩
noncomputable def bdST:T Iv:=.n (.n (.n .e (some (-7,7)) .e) (some (-128,127)) .e) (some (0,255)) (.n (.n .e (some (-7,7)) .e) (some (-128,127)) .e)
theorem bdST_eq:bdST=T.ofList .e 0 bdS:=by kernel_rfl
structure MeshT where
 K:Nat
 d:Nat
 half:Bool
 pts:List (Int × Int)
 tris:List Int
 nt:Nat
 tab:T SE
 bins:List BinRow
 convs:List ConvRow
 rows:Rows
 rm:RM
 pv:V
 ps:List O
 k1:List (Nat × RM)
 k2:List (Nat × RM)
 k3:List (Nat × RM)
noncomputable def MeshT.cx (t:MeshT):CX:=⟨t.tab,bdST,[],[(P0 0,8,kst t.K),(P0 1,8,P0 3),(P0 2,8,P0 4)],[]⟩
noncomputable def MeshT.cs (t:MeshT):List (List V):=(subCells t.ps).getD []
noncomputable def MeshT.kit (t:MeshT) (l:List (Nat × RM)):Kit:=kitG t.cx t.bins t.convs t.rows l (glD 32 t.cs)
noncomputable def MeshT.keeps (t:MeshT) (l k:List (Nat × RM)):Bool:=k.all fun p=>rmChk (t.kit l).tab 10000 60 p.1 p.2
noncomputable def MeshT.own (t:MeshT):Bool:=(kitK t.cx t.bins t.convs t.rows []).chk&&rmChk (kitK t.cx t.bins t.convs t.rows []).tab 10000 60 39 t.rm&&meshChk t.cx t.K t.d t.half t.pts t.tris t.nt t.rm t.pv t.ps&&(subCells t.ps).isSome
noncomputable def MeshT.all (t:MeshT) (l:List (Nat × RM)):List (Nat × RM):=t.k3++(t.k2++(t.k1++l))
theorem kitG_keeps {w0:Base} {x:Nat→Int} {o:Nat→Value} {c:CX} {b:List BinRow} {v:List ConvRow} {r:Rows} {l k:List (Nat × RM)} {gl:List (Nat × List V)} (h:CXOk w0 x o c) (hg:GlOk w0 gl) (hc:(kitK c b v r []).chk=true) (hl:AllK w0 l)
  (hr:(k.all fun p=>rmChk (kitG c b v r l gl).tab 10000 60 p.1 p.2)=true):AllK w0 (k++l):=by
 intro p hp
 rcases List.mem_append.1 hp with hp | hp
 ·exact Kit.keep (kitG_ok h hl hg) hc (List.all_eq_true.1 hr p hp)
 ·exact hl p hp
structure MeshT.Ok (t:MeshT) (l:List (Nat × RM)):Prop where
 own:t.own=true
 first:∀ w0:Base,Pow w0→AllK w0 l
 s1:t.keeps l t.k1=true
 s2:t.keeps (t.k1++l) t.k2=true
 s3:t.keeps (t.k2++(t.k1++l)) t.k3=true
 last:memoOk (t.kit (t.all l)).tab 10000 60 52 [renV fz t.pv] (.int .i64 0)=true
theorem MeshT.Ok.mesh {t:MeshT} {l:List (Nat × RM)} (ht:t.Ok l) {M:Mem} (hg:Good M) {k s0 s1:Int} (hk:0≤k∧k≤255) (hs0 : -128≤s0∧s0≤127) (hs1 : -128≤s1∧s1≤127) (hK:k.tmod 8=t.K) {w:World} (hw:M.On w) :
  Calls Tryz.prog 39 #[.agg #[.int .u8 k,.int .i8 s0,.int .i8 s1,.bool t.half]] w (RetM M w (Post12 t.pts.length t.nt (MeshRaw t.d (s0.tmod 8) (s1.tmod 8) t.pts t.tris t.nt))):=by
 have h:=ht.own
 simp only [MeshT.own,Bool.and_eq_true] at h
 obtain⟨⟨⟨h1,h2⟩,h3⟩,h4⟩:=h
 obtain⟨cs,hcs⟩:=Option.isSome_iff_exists.1 h4
 have ecs:t.cs=cs:=by unfold MeshT.cs; rw [hcs]; rfl
 refine mesh_gen hg (K:=t.K) (c:=t.cx) bdST_eq rfl rfl rfl h3 hcs h1 h2 (fun w0 x h hgl => ?_) hk hs0 hs1 hK hw
 rw [← ecs] at hgl
 have a0:=ht.first w0 h.pow
 have a1:=kitG_keeps h hgl h1 a0 ht.s1
 have a2:=kitG_keeps h hgl h1 a1 ht.s2
 have a3:=kitG_keeps h hgl h1 a2 ht.s3
 exact kitG_run h hgl h1 a3 ht.last
end Go.Proofs.YtkjinnjopoehhaaGreatDoor
