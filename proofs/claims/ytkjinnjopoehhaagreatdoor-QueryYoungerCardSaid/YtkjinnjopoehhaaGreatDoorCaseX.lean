/-
  The abstract evaluator on symbols: a run of a case is a contract.
-/
import Derived.Test.YtkjinnjopoehhaaGreatDoorSymX
import Derived.Test.YtkjinnjopoehhaaGreatDoorWkOf
import Derived.Test.YtkjinnjopoehhaaGreatDoorEvMemo
set_option linter.unusedSectionVars false
set_option linter.unusedVariables false
set_option linter.unusedSimpArgs false
namespace Go.Proofs.YtkjinnjopoehhaaGreatDoor
open Go Ev Klp
set_option maxRecDepth 100000
def dmL:List (List V × V):=[([.str [45,56],.str [50]],.tup [.str [45,52],.str [48],.int .i64 0]),
 ([.str [45,54],.str [50]],.tup [.str [45,51],.str [48],.int .i64 0]),
 ([.str [45,52],.str [50]],.tup [.str [45,50],.str [48],.int .i64 0]),
 ([.str [45,50],.str [50]],.tup [.str [45,49],.str [48],.int .i64 0]),
 ([.str [48],.str [50]],.tup [.str [48],.str [48],.int .i64 0]),
 ([.str [50],.str [50]],.tup [.str [49],.str [48],.int .i64 0]),
 ([.str [52],.str [50]],.tup [.str [50],.str [48],.int .i64 0]),
 ([.str [54],.str [50]],.tup [.str [51],.str [48],.int .i64 0]),
 ([.str [56],.str [50]],.tup [.str [52],.str [48],.int .i64 0]),
 ([.str [49,48],.str [50]],.tup [.str [53],.str [48],.int .i64 0]),
 ([.str [49,50],.str [50]],.tup [.str [54],.str [48],.int .i64 0]),
 ([.str [49,52],.str [50]],.tup [.str [55],.str [48],.int .i64 0])]
theorem dmL_ok:chkF tb0 10000 60 342 dmL=true:=by kernel_rfl
theorem dm_all {w0:Base} (h:Pow w0):AllC Tryz.prog w0 342 dmL:=chkF_ok tabOk (fnOk h) dmL_ok
theorem itoa_p {l:List UInt8} {n:Nat} (h:digs l=some n) {z:Int} (hz:z=n):Lib.itoa z=l:=by
 rw [itoa_pos' (by omega),digs_ok h]; congr 1; omega
theorem itoa_m {l:List UInt8} {n:Nat} (h:digs l=some n) (h0:0<n) {z:Int} (hz:z = -(n:Int)):Lib.itoa z=45::l:=by
 rw [itoa_neg' (by omega),digs_ok h]; congr 2; omega
theorem dm_at (m:Int) (h1 : -4≤m) (h2:m≤7):([V.str (Lib.itoa (2*m)),.str [50]],V.tup [.str (Lib.itoa m),.str [48],.int .i64 0])∈dmL:=by
 have:m = -4∨m = -3∨m = -2∨m = -1∨m=0∨m=1∨m=2∨m=3∨m=4∨m=5∨m=6∨m=7:=by omega
 rcases this with rfl | rfl | rfl | rfl | rfl | rfl | rfl | rfl | rfl | rfl | rfl | rfl
 ·rw [itoa_m (l:=[56]) (n:=8) rfl (by omega) (z:=2*(-4)) (by omega),itoa_m (l:=[52]) (n:=4) rfl (by omega) (z := -4) (by omega)]
  exact List.mem_of_getElem? (i:=0) rfl
 ·rw [itoa_m (l:=[54]) (n:=6) rfl (by omega) (z:=2*(-3)) (by omega),itoa_m (l:=[51]) (n:=3) rfl (by omega) (z := -3) (by omega)]
  exact List.mem_of_getElem? (i:=1) rfl
 ·rw [itoa_m (l:=[52]) (n:=4) rfl (by omega) (z:=2*(-2)) (by omega),itoa_m (l:=[50]) (n:=2) rfl (by omega) (z := -2) (by omega)]
  exact List.mem_of_getElem? (i:=2) rfl
 ·rw [itoa_m (l:=[50]) (n:=2) rfl (by omega) (z:=2*(-1)) (by omega),itoa_m (l:=[49]) (n:=1) rfl (by omega) (z := -1) (by omega)]
  exact List.mem_of_getElem? (i:=3) rfl
 ·rw [itoa_p (l:=[48]) (n:=0) rfl (z:=2*(0)) (by omega),itoa_p (l:=[48]) (n:=0) rfl (z:=0) (by omega)]
  exact List.mem_of_getElem? (i:=4) rfl
 ·rw [itoa_p (l:=[50]) (n:=2) rfl (z:=2*(1)) (by omega),itoa_p (l:=[49]) (n:=1) rfl (z:=1) (by omega)]
  exact List.mem_of_getElem? (i:=5) rfl
 ·rw [itoa_p (l:=[52]) (n:=4) rfl (z:=2*(2)) (by omega),itoa_p (l:=[50]) (n:=2) rfl (z:=2) (by omega)]
  exact List.mem_of_getElem? (i:=6) rfl
 ·rw [itoa_p (l:=[54]) (n:=6) rfl (z:=2*(3)) (by omega),itoa_p (l:=[51]) (n:=3) rfl (z:=3) (by omega)]
  exact List.mem_of_getElem? (i:=7) rfl
 ·rw [itoa_p (l:=[56]) (n:=8) rfl (z:=2*(4)) (by omega),itoa_p (l:=[52]) (n:=4) rfl (z:=4) (by omega)]
  exact List.mem_of_getElem? (i:=8) rfl
 ·rw [itoa_p (l:=[49,48]) (n:=10) rfl (z:=2*(5)) (by omega),itoa_p (l:=[53]) (n:=5) rfl (z:=5) (by omega)]
  exact List.mem_of_getElem? (i:=9) rfl
 ·rw [itoa_p (l:=[49,50]) (n:=12) rfl (z:=2*(6)) (by omega),itoa_p (l:=[54]) (n:=6) rfl (z:=6) (by omega)]
  exact List.mem_of_getElem? (i:=10) rfl
 ·rw [itoa_p (l:=[49,52]) (n:=14) rfl (z:=2*(7)) (by omega),itoa_p (l:=[55]) (n:=7) rfl (z:=7) (by omega)]
  exact List.mem_of_getElem? (i:=11) rfl
theorem base_of (w:World) {w0:Base} (E:Env) (hE:StatOk w0 E) {args:List V} {v:V} {f:Nat} (h:Contract Tryz.prog w0 f args v) (g1:w0.heap.size≤w.heap.size) (g2:∀ b,b<w0.heap.size→w0.frz b→w.heap[b]? = w0.heap[b]?) {xs:List Value} (hx:VRL E args xs) {y:Value} (hy:VR E v y) :
  Calls Tryz.prog f xs.toArray w fun e w'=>e = .returned y∧Kp w w':=by
 refine (h E w xs hE hx g1 g2).mono ?_
 rintro e w' ⟨r,rfl,hr,hg,hb⟩
 exact⟨by rw [VR.det v r y hr hy],{ tape:=hg.tape,os:=hg.os,output:=hg.output,size:=hg.size,block:=fun b hlt=>hb b hlt }⟩
theorem of_small {w0:Base} (hp:Pow w0) {E:Env} (hE:StatOk w0 E) (w:World) (g1:w0.heap.size≤w.heap.size) (g2:∀ b,b<w0.heap.size→w0.frz b→w.heap[b]? = w0.heap[b]?) (ht:PTab w) (n d:Int) (h1 : -8≤n) (h2:n≤14) (hd:d=1∨d=2) :
  Calls Tryz.prog 139 #[.int .i64 n,.int .i64 d] w fun e w'=>e = .returned (.tuple #[strV (canon (mkRat n d.toNat)),.int .i64 0])∧Kp w w':=by
 by_cases hg:Int.gcd n d=1
 ·exact of_coprime n d w (by omega) (by omega) (by omega) (by omega) hg ht
 ·rcases hd with rfl | rfl
  ·exact absurd (by unfold Int.gcd; simp) hg
  ·have hev:n%2=0:=by
    rcases Int.emod_two_eq n with h | h
    ·exact h
    ·exfalso
     apply hg
     unfold Int.gcd
     have:n.natAbs%2=1:=by omega
     rw [Nat.gcd_comm,Nat.gcd_rec,show (2:Int).natAbs=2 from rfl,this]; rfl
   obtain⟨m,rfl⟩:∃ m,n=2*m:=⟨n/2,by omega⟩
   have e:canon (mkRat (2*m) (2:Int).toNat)=Lib.itoa m:=by
    have:mkRat (2*m) (2:Int).toNat=(m:Rat):=by
     have h2:(2:Int).toNat=2*1:=rfl
     rw [h2,show (2*m:Int)=((2:Nat):Int)*m from rfl,Rat.mkRat_mul_left (by omega)]
     exact Rat.mkRat_one ..
    rw [this]
    show Klp.rs m 1=_
    rw [rs_one]
   rw [e]
   have sub:∀ {w1:World},Kp w w1→w0.heap.size≤w1.heap.size ∧ ∀ b,b<w0.heap.size→w0.frz b→w1.heap[b]? = w0.heap[b]? := fun hk=>
    ⟨Nat.le_trans g1 hk.size,fun b hb hz=>(hk.block b (Nat.lt_of_lt_of_le hb g1)).trans (g2 b hb hz)⟩
   refine of_even m w (by omega) (by omega) ht (ra:=[48]) (rb:=[48]) (fun w1 hk => ?_) (fun w1 hk => ?_)
   ·exact base_of w1 E hE (dm_all hp _ (dm_at m (by omega) (by omega))) (sub hk).1 (sub hk).2 (xs:=[strV (Lib.itoa (2*m)),strV [50]]) ⟨_,_,rfl,rfl,_,_,rfl,rfl,rfl⟩ ⟨_,⟨_,_,rfl,rfl,_,_,rfl,rfl,_,_,rfl,rfl,rfl⟩,rfl⟩
   ·have:=dm_at 1 (by omega) (by omega)
    have i1:Lib.itoa (2*1)=[50]:=itoa_p (l:=[50]) (n:=2) rfl (by omega)
    have i2:Lib.itoa 1=[49]:=itoa_p (l:=[49]) (n:=1) rfl (by omega)
    rw [i1,i2] at this
    exact base_of w1 E hE (dm_all hp _ this) (sub hk).1 (sub hk).2 (xs:=[strV [50],strV [50]]) ⟨_,_,rfl,rfl,_,_,rfl,rfl,rfl⟩ ⟨_,⟨_,_,rfl,rfl,_,_,rfl,rfl,_,_,rfl,rfl,rfl⟩,rfl⟩
theorem Contract.of {w0:Base} (hp:∀ w:World,w0.heap.size≤w.heap.size→(∀ b,b<w0.heap.size→w0.frz b→w.heap[b]? = w0.heap[b]?)→PTab w) {f:Nat} {args:List V} {v:V}
  (h:∀ (E:Env) (w:World) (xs:List Value),StatOk w0 E→VRL E args xs→PTab w→Calls Tryz.prog f xs.toArray w fun e w' => ∃ x,e = .returned x∧VR E v x∧Kp w w'):Contract Tryz.prog w0 f args v:=by
 intro E w xs hs hx h1 h2
 refine (h E w xs hs hx (hp w h1 h2)).mono ?_
 rintro e w' ⟨r,rfl,hv,hk⟩
 exact⟨r,rfl,hv,⟨hk.tape,hk.os,hk.output,hk.size⟩,fun b hb=>hk.block b hb⟩
theorem num_neg_iff {q:Rat}:q.num<0↔q<0:=by
 rw [← Rat.not_le,← Rat.num_nonneg]; omega
theorem sub_neg_rat {a b:Rat}:a-b<0↔a<b:=by rw [Rat.sub_lt_iff,Rat.zero_add]
theorem sub_zero_rat {a b:Rat}:a-b=0↔a=b:=by constructor <;> intro h <;> grind
theorem Kp.of_eq {w w':World} (h:w'=w):Kp w w':=h ▸ Kp.refl _
section
variable {w0:Base} {x:Nat→Int} {o:Nat→Value} {c:CX} (hC:CXOk w0 x o c)
include hC
theorem CXOk.sm {a:Num} (h:a.fits c.b=true):Sm (a.val x):=by
 obtain⟨h1,h2,h3⟩:=Num.fits_bd (x:=x) hC.bd h
 exact⟨h1,h2,h3⟩
theorem sgnV_ok {E:Env} (hE:StatOk w0 E) {q:Poly} {v:V} (h:sgnV c q v=true):VR E v (.int .i64 (sgnI (Poly.ev x q))):=by
 unfold sgnV at h
 split at h
 ·rename_i k
  split at h
  ·rename_i ht
   obtain⟨h1,h2,h3⟩:=SS.test_ok ht (sg_ok hC q)
   show _=Value.int .i64 k
   congr 1
   rcases Int.lt_trichotomy (Poly.ev x q) 0 with t | t | t
   ·rw [sgnI_neg t]; exact of_decide_eq_true (h1 t).symm
   ·rw [sgnI_zero t]; exact of_decide_eq_true (h2 t).symm
   ·rw [sgnI_pos t]; exact of_decide_eq_true (h3 t).symm
  ·cases h
 ·split at h
  ·rename_i u hu
   rw [Poly.ev_same x h]
   exact sgn_ret hC hE hu
  ·cases h
omit hC in
theorem sgn_of_iff {q:Rat} {z:Int} (h1:q<0↔z<0) (h2:q=0↔z=0):sgnI q.num=sgnI z:=by
 rcases Int.lt_trichotomy z 0 with u | u | u
 ·rw [sgnI_neg u,sgnI_neg (num_neg_iff.2 (h1.2 u))]
 ·rw [sgnI_zero u,sgnI_zero (Rat.num_eq_zero.2 (h2.2 u))]
 ·rw [sgnI_pos u,sgnI_pos]
  have n1:¬ q.num<0:=fun h=>by have:=h1.1 (num_neg_iff.1 h); omega
  have n2:¬ q.num=0:=fun h=>by have:=h2.1 (Rat.num_eq_zero.1 h); omega
  omega
theorem br_ok {a:Num} (h0:0<a.d) (h:a.br c.b=true):Br (a.val x):=by
 have hb:=Num.br_bd (x:=x) hC.bd h0 h
 generalize a.val x=q at hb
 unfold Br
 show (Klp.rs q.num q.den).length≤9
 have p8:(10:Nat) ^ 8=100000000:=by decide
 have len:∀ (z:Int) (k:Nat),1≤k→z.natAbs<10 ^ k→(Lib.itoa z).length≤k+1:=by
  intro z k hk hz
  have:=dec_len (u:=z.natAbs) hk hz
  rw [itoa_eq,List.length_append]
  split <;> simp <;> omega
 rcases hb with⟨e,h1⟩ | ⟨k,m,h1,h2,h3⟩
 ·rw [e,show ((1:Nat):Int)=1 from rfl,rs_one]
  exact len _ 8 (by omega) (by omega)
 ·have hk:1≤k∧1≤m∨k=0∨m=0:=by omega
  have hd:=q.den_pos
  rcases hk with⟨hk,hm⟩ | hk | hk
  ·by_cases h:(q.den:Int)=1
   ·rw [h,rs_one]
    have:=len _ k hk h2
    omega
   ·rw [rs_of h,List.length_append,List.length_cons]
    have:=len _ k hk h2
    have h4:=dec_len (u:=q.den) hm h3
    rw [itoa_pos' (n:=(q.den:Int)) (by omega),Int.natAbs_natCast]
    omega
  ·subst hk
   have:q=0:=Rat.num_eq_zero.1 (by have p0:(10:Nat) ^ 0=1:=rfl; omega)
   subst this
   show (Klp.rs 0 1).length≤9
   rw [rs_one,itoa_zero]; simp
  ·subst hk
   simp at h3
   omega
theorem ints_ok {f:Nat} {a e v:V} {p q:Poly} (ha:intE c a=some (.i64,p)) (he:intE c e=some (.i64,q)) (h:intsOk c f p q v=true):Contract Tryz.prog w0 f [a,e] v:=by
 unfold intsOk at h
 split at h
 ·rename_i k hk
  simp only [Bool.and_eq_true,ile,decide_eq_true_eq] at h
  obtain⟨⟨⟨h1,h2⟩,h3⟩,h4⟩:=h
  have h1:=nblt_lt h1
  have hq:=constP_ok hk x
  obtain⟨i1,i2⟩:=ivP_ok hC.bd p
  have key:∀ {r:Num},0<r.d→Poly.same (Poly.scl r.d p) (Poly.scl ((k+1:Nat):Int) r.p)=true→r.val x=mkRat (Poly.ev x p) (Int.ofNat (k+1)).toNat:=by
   intro r hr hs
   have e:=Poly.ev_same x hs
   simp only [Poly.ev_scl] at e
   have e:=congrArg (fun z:Int=>(z:Rat)) e
   simp only [Rat.intCast_mul] at e
   have m1:mkRat (Poly.ev x p) (Int.ofNat (k+1)).toNat=(Poly.ev x p:Rat)/(((k+1:Nat):Int):Rat):=by
    rw [← Rat.divInt_eq_div,← Rat.divInt_ofNat]; rfl
   rw [m1]
   unfold Num.val
   have n1:((r.d:Int):Rat)≠0:=fun e=>by have:=Rat.intCast_eq_zero_iff.1 e; omega
   have n2:(((k+1:Nat):Int):Rat)≠0:=fun e=>by have:=Rat.intCast_eq_zero_iff.1 e; omega
   generalize (Poly.ev x p:Rat)=u at *
   generalize (Poly.ev x r.p:Rat)=y at *
   generalize ((r.d:Int):Rat)=d at *
   generalize (((k+1:Nat):Int):Rat)=g at *
   grind
  intro E w xs hE hx g1 g2
  have ht:=hC.tabs w g1 g2
  obtain⟨y,ys,rfl,hy,y2,ys2,rfl,hy2,hn⟩:=hx
  rw [show ys2=[] from hn,intE_ok hC hE ha hy,intE_ok hC hE he hy2,hq]
  have back:∀ {y:Value} {e:Ending} {w':World},e = .returned y→Kp w w'→VR E v y → ∃ x,e = .returned x∧VR E v x∧Grew w w' ∧ ∀ b,b<w.heap.size→w'.heap[b]? = w.heap[b]? :=
   fun h hk hv=>⟨_,h,hv,⟨hk.tape,hk.os,hk.output,hk.size⟩,fun b hb=>hk.block b hb⟩
  split at h4
  ·rename_i u
   simp only [Bool.and_eq_true,decide_eq_true_eq] at h4
   obtain⟨⟨⟨⟨f1,f2⟩,f3⟩,f4⟩,f5⟩:=h4
   have f2:=nble_le f2
   split at f5
   ·rename_i r hu
    rw [nbeq_true f1]
    refine (of_small hC.pow hE w g1 g2 ht _ _ (by omega) (by omega) ?_).mono fun e w' ⟨h1,h2⟩=>back h1 h2 ?_
    ·rcases (show k=0∨k=1 by omega) with rfl | rfl
     ·exact .inl rfl
     ·exact .inr rfl
    ·rw [← key (numE_ok hC hE hu (num_ret hC hE hu)).2 f5]
     exact⟨_,⟨_,_,rfl,num_ret hC hE hu,_,_,rfl,rfl,rfl⟩,rfl⟩
   ·cases f5
  ·simp only [Bool.and_eq_true] at h4
   have h5:=h4.2
   split at h5
   ·rename_i r hu
    rw [nbeq_true h4.1]
    refine (rof_rat _ _ w (by omega) (by omega) (by show (1:Int)≤((k+1:Nat):Int); omega) (by show ((k+1:Nat):Int)<_; omega) ht).mono fun e w' ⟨h1,h2⟩=>back h1 h2 ?_
    rw [← key (numE_ok hC hE hu (num_ret hC hE hu)).2 h5]
    exact num_ret hC hE hu
   ·cases h5
 ·cases h
theorem two_ok {f:Nat} {a e v:V} {p q:Num} (ha:numE c a=some p) (he:numE c e=some q) (fp:p.fits c.b=true) (fq:q.fits c.b=true) (h:twoOk c f p q v=true):Contract Tryz.prog w0 f [a,e] v:=by
 have s1:=hC.sm fp
 have s2:=hC.sm fq
 refine Contract.of hC.tabs fun E w xs hE hx ht => ?_
 obtain⟨r,rs,rfl,hr,r2,rs2,rfl,hr2,hn⟩:=hx
 obtain⟨e1,d1⟩:=numE_ok hC hE ha hr
 obtain⟨e2,d2⟩:=numE_ok hC hE he hr2
 rw [show rs2=[] from hn,e1,e2]
 have n1:=d_ne fp
 have n2:=d_ne fq
 unfold twoOk at h
 split at h
 ·rename_i u
  split at h
  ·rename_i r k hu hk
   simp only [Bool.and_eq_true] at h
   rw [nbeq_true h.1]
   have du:0<r.d:=(numE_ok hC hE hu (num_ret hC hE hu)).2
   have nu:((r.d:Int):Rat)≠0:=fun e=>by have:=Rat.intCast_eq_zero_iff.1 e; omega
   obtain⟨v1,v2⟩:=Num.div_val (x:=x) n1 n2 nu (k:=Int.ofNat (k+1)) (by intro e; cases e) h.2
   have hpos:0<(q.val x).num:=by
    have key:0<q.val x := ?_
    ·have n1:=Rat.num_nonneg.2 (Rat.le_of_lt key)
     have n2:(q.val x).num≠0:=fun e=>Rat.ne_of_gt key (Rat.num_eq_zero.1 e)
     omega
    rw [v2]
    have h1:(0:Rat)<((q.d:Int):Rat):=by rw [show (0:Rat)=((0:Int):Rat) from rfl,Rat.intCast_lt_intCast]; omega
    have h2:(0:Rat)<((Int.ofNat (k+1):Int):Rat):=by rw [show (0:Rat)=((0:Int):Rat) from rfl,Rat.intCast_lt_intCast]; exact Int.natCast_pos.2 (Nat.succ_pos k)
    rw [Rat.div_def]
    exact Rat.mul_pos h2 (Rat.inv_pos.2 h1)
   refine (div_rat _ _ w s1 s2 hpos ht).mono fun e w' ⟨h1,h2⟩=>⟨_,h1,?_,h2⟩
   rw [v1]
   exact⟨_,⟨_,_,rfl,num_ret hC hE hu,_,_,rfl,rfl,rfl⟩,rfl⟩
  ·cases h
 ·cases hf:Nat.beq f 32 with
  | true=>
   rw [hf,cond_true] at h
   rw [nbeq_true hf]
   refine (cmp_rat _ _ w s1 s2).mono fun e w' ⟨h1,h2⟩=>⟨_,h1,?_,Kp.of_eq h2⟩
   have hd:=Num.diff_val (x:=x) (a:=p) (c:=q) d1 d2
   rw [sgn_of_iff (z:=Poly.ev x (Num.diff p q)) (by rw [← hd.1]; exact sub_neg_rat) (by rw [← hd.2]; exact sub_zero_rat)]
   exact sgnV_ok hC hE h
  | false=>
   rw [hf,cond_false] at h
   split at h
   ·rename_i r hu
    have du:0<r.d:=(numE_ok hC hE hu (num_ret hC hE hu)).2
    have nu:((r.d:Int):Rat)≠0:=fun e=>by have:=Rat.intCast_eq_zero_iff.1 e; omega
    simp only [Bool.or_eq_true,Bool.and_eq_true] at h
    rcases h with ((h | h) | h) | h
    ·rw [nbeq_true h.1]
     refine (add_rat _ _ w s1 s2 ht).mono fun e w' ⟨h1,h2⟩=>⟨_,h1,?_,h2⟩
     rw [Num.add_val n1 n2 nu h.2]
     exact num_ret hC hE hu
    ·rw [nbeq_true h.1]
     refine (sub_rat _ _ w s1 s2 ht).mono fun e w' ⟨h1,h2⟩=>⟨_,h1,?_,h2⟩
     rw [Num.sub_val n1 n2 nu h.2]
     exact num_ret hC hE hu
    ·rw [nbeq_true h.1]
     refine (mul_rat _ _ w s1 s2 ht).mono fun e w' ⟨h1,h2⟩=>⟨_,h1,?_,h2⟩
     rw [Num.mul_val n1 n2 nu h.2]
     exact num_ret hC hE hu
    ·obtain⟨⟨b1,b2⟩,h⟩:=h
     have r1:=br_ok hC d1 b1
     have r2:=br_ok hC d2 b2
     rcases h with h | h
     ·rw [nbeq_true h.1]
      refine (radd_rat _ _ w s1 s2 r1 r2 ht).mono fun e w' ⟨h1,h2⟩=>⟨_,h1,?_,h2⟩
      rw [Num.add_val n1 n2 nu h.2]
      exact num_ret hC hE hu
     ·rw [nbeq_true h.1]
      refine (rmul_rat _ _ w s1 s2 r1 r2 ht).mono fun e w' ⟨h1,h2⟩=>⟨_,h1,?_,h2⟩
      rw [Num.mul_val n1 n2 nu h.2]
      exact num_ret hC hE hu
   ·cases h
theorem one_ok {f:Nat} {a v:V} {p:Num} (ha:numE c a=some p) (fp:p.fits c.b=true) (h:oneOk c f p v=true):Contract Tryz.prog w0 f [a] v:=by
 have s1:=hC.sm fp
 refine Contract.of hC.tabs fun E w xs hE hx ht => ?_
 obtain⟨r,rs,rfl,hr,hn⟩:=hx
 obtain⟨e1,d1⟩:=numE_ok hC hE ha hr
 rw [show rs=[] from hn,e1]
 have n1:=d_ne fp
 have sg:∀ {v:V},sgnV c p.p v=true→Calls Tryz.prog 171 [strV (canon (p.val x))].toArray w fun e w' => ∃ x,e = .returned x∧VR E v x∧Kp w w':=by
  intro v hv
  refine (sign_rat _ w).mono fun e w' ⟨h1,h2⟩=>⟨_,h1,?_,Kp.of_eq h2⟩
  have hd:=Num.diff_val (x:=x) (a:=p) (c:=⟨[],1⟩) d1 (by show 0<1; omega)
  have hz:Num.val x ⟨[],1⟩=0:=by unfold Num.val; simp [Poly.ev,Rat.div_def]
  have hdd:Poly.ev x (Num.diff p ⟨[],1⟩)=Poly.ev x p.p:=by
   simp only [Num.diff,Poly.ev_add,Poly.ev_scl,Poly.ev]
   show 1*_+_*0=_
   omega
  rw [hz,hdd] at hd
  rw [sgn_of_iff hd.1 hd.2]
  exact sgnV_ok hC hE hv
 unfold oneOk at h
 split at h
 ·simp only [Bool.or_eq_true,Bool.and_eq_true] at h
  rcases h with h | h
  ·rw [nbeq_true h]
   exact (check_rat _ w s1 ht).mono fun e w' ⟨h1,h2⟩=>⟨_,h1,rfl,h2⟩
  ·rw [nbeq_true h.1]
   exact sg h.2
 ·rw [nbeq_true h]
  exact (long_rat _ w s1).mono fun e w' ⟨h1,h2⟩=>⟨_,h1,rfl,h2⟩
 ·cases hf:Nat.beq f 171 with
  | true=>
   rw [hf,cond_true] at h
   rw [nbeq_true hf]
   exact sg h
  | false=>
   rw [hf,cond_false] at h
   split at h
   ·rename_i r hu
    simp only [Bool.and_eq_true] at h
    have du:0<r.d:=(numE_ok hC hE hu (num_ret hC hE hu)).2
    have nu:((r.d:Int):Rat)≠0:=fun e=>by have:=Rat.intCast_eq_zero_iff.1 e; omega
    obtain⟨h,h9⟩:=h
    have h:=(Bool.or_eq_true _ _).mp h
    replace h:_∧_:=⟨h,h9⟩
    rcases h.1 with hf | hf
    ·rw [nbeq_true hf]
     refine (neg_rat _ w s1).mono fun e w' ⟨h1,h2⟩=>⟨_,h1,?_,Kp.of_eq h2⟩
     rw [Num.neg_val n1 nu h.2]
     exact num_ret hC hE hu
    ·rw [nbeq_true hf]
     refine (refneg_rat _ w s1).mono fun e w' ⟨h1,h2⟩=>⟨_,h1,?_,Kp.of_eq h2⟩
     rw [Num.neg_val n1 nu h.2]
     exact num_ret hC hE hu
   ·cases h
theorem rowX_ok {f:Nat} {args:List V} {v:V} (h:rowX c f args v=true):Contract Tryz.prog w0 f args v:=by
 unfold rowX at h
 split at h
 ·rename_i a e
  split at h
  ·rename_i p q hp hq
   simp only [Bool.and_eq_true] at h
   exact two_ok hC hp hq h.1.1 h.1.2 h.2
  ·split at h
   ·rename_i p q hp hq
    exact ints_ok hC hp hq h
   ·cases h
 ·rename_i a
  split at h
  ·rename_i p hp
   simp only [Bool.and_eq_true] at h
   exact one_ok hC hp h.1 h.2
  ·split at h
   ·rename_i p r hp hu
    simp only [Bool.and_eq_true,ile,decide_eq_true_eq] at h
    obtain⟨⟨⟨h1,h2⟩,h3⟩,h4⟩:=h
    obtain⟨i1,i2⟩:=ivP_ok hC.bd p
    refine Contract.of hC.tabs fun E w xs hE hx ht => ?_
    obtain⟨y,ys,rfl,hy,hn⟩:=hx
    rw [show ys=[] from hn,intE_ok hC hE hp hy,nbeq_true h1]
    refine (whole_any _ w (by omega) (by omega) ht).mono fun e w' ⟨g1,g2⟩=>⟨_,g1,?_,g2⟩
    have du:0<r.d:=(numE_ok hC hE hu (num_ret hC hE hu)).2
    have e1:=Poly.ev_same x h4
    rw [Poly.ev_scl] at e1
    have hval:r.val x=(Poly.ev x p:Rat):=by
     unfold Num.val
     rw [← e1,Rat.intCast_mul]
     have nu:((r.d:Int):Rat)≠0:=fun e=>by have:=Rat.intCast_eq_zero_iff.1 e; omega
     generalize ((r.d:Int):Rat)=t at *
     grind
    have hcan:canon (Poly.ev x p:Rat)=Lib.itoa (Poly.ev x p):=by
     show Klp.rs (Poly.ev x p) 1=_
     rw [rs_one]
    have:=num_ret hC hE hu
    rw [hval,hcan] at this
    exact this
   ·cases h
 ·cases h
end
theorem tall_ok {α:Type} {p:Nat→α→Bool}:∀ {t:T α} {g:Nat→Nat},tall p t g=true → ∀ k y,t.get k=some y→p (g k) y=true
 | .e,g,_,k,y,h=>by cases h
 | .n a v b,g,ht,k,y,h=>by
  simp only [tall,Bool.and_eq_true] at ht
  rw [T.get_eq] at h
  by_cases h0:k=0
  ·subst h0
   simp only [T.val,if_true] at h
   subst h
   exact ht.1.1
  ·simp only [if_neg h0] at h
   by_cases h1:k%2=1
   ·simp only [if_pos h1,T.left] at h
    have:=tall_ok ht.1.2 _ y h
    rwa [show 2*(k/2)+1=k from by omega] at this
   ·simp only [if_neg h1,T.right] at h
    have:=tall_ok ht.2 _ y h
    rwa [show 2*(k/2-1)+2=k from by omega] at this
theorem rowsX_ok {w0:Base} {x:Nat→Int} {o:Nat→Value} {c:CX} (hC:CXOk w0 x o c) {t:Rows} (h:rowsX c t=true) {f:Nat} {args:List V} {v:V} (hl:rowLook t f args=some v):Contract Tryz.prog w0 f args v:=by
 have key:∀ {r:T (List (List V × V))} {k:Nat},t.get f=some r→rowIn r k args=some v→Contract Tryz.prog w0 f args v:=by
  intro r k hr hk
  unfold rowIn at hk
  split at hk
  ·cases hk
  ·rename_i l hg
   have h1:=tall_ok h _ _ hr
   have h2:=tall_ok h1 _ _ hg
   exact rowX_ok hC (List.all_eq_true.1 h2 _ (look_mem hk))
 unfold rowLook at hl
 split at hl
 ·cases hl
 ·rename_i r hr
  split at hl
  ·rename_i u hu
   cases hl
   exact key hr hu
  ·exact key hr hl
structure Ins where
 cuts:List (Nat × Nat × Nat × V)
 adrs:List (Nat × Nat × Nat × V)
 lds:List (Nat × Nat × List V)
def look3 (t i k:Nat):List (Nat × Nat × Nat × V)→Option V
 | []=>none
 | p::l=>cond (Nat.beq p.1 t&&Nat.beq p.2.1 i&&Nat.beq p.2.2.1 k) (some p.2.2.2) (look3 t i k l)
theorem look3_mem {t i k:Nat} {v:V}:∀ {l:List (Nat × Nat × Nat × V)},look3 t i k l=some v→(t,i,k,v)∈l
 | [],h=>by cases h
 | p::l,h=>by
  simp only [look3] at h
  cases hb:(Nat.beq p.1 t&&Nat.beq p.2.1 i&&Nat.beq p.2.2.1 k) with
  | true=>
   rw [hb] at h
   cases h
   simp only [Bool.and_eq_true] at hb
   obtain⟨a,b,c,d⟩:=p
   have e1:=nbeq_true hb.1.1
   have e2:=nbeq_true hb.1.2
   have e3:=nbeq_true hb.2
   simp only at e1 e2 e3
   subst e1; subst e2; subst e3
   exact List.mem_cons_self ..
  | false=>rw [hb] at h; exact List.mem_cons_of_mem _ (look3_mem h)
def look2 (t i:Nat):List (Nat × Nat × List V)→Option V
 | []=>none
 | p::l=>cond (Nat.beq p.1 t&&Nat.beq p.2.1 i) (some (.agg p.2.2)) (look2 t i l)
theorem look2_mem {t i:Nat} {v:V}:∀ {l:List (Nat × Nat × List V)},look2 t i l=some v → ∃ cs,v = .agg cs∧(t,i,cs)∈l
 | [],h=>by cases h
 | p::l,h=>by
  simp only [look2] at h
  cases hb:(Nat.beq p.1 t&&Nat.beq p.2.1 i) with
  | true=>
   rw [hb] at h
   cases h
   simp only [Bool.and_eq_true] at hb
   obtain⟨a,b,c⟩:=p
   have e1:=nbeq_true hb.1
   have e2:=nbeq_true hb.2
   simp only at e1 e2
   subst e1; subst e2
   exact⟨c,rfl,List.mem_cons_self ..⟩
  | false=>
   rw [hb] at h
   obtain⟨cs,h1,h2⟩:=look2_mem h
   exact⟨cs,h1,List.mem_cons_of_mem _ h2⟩
def unagg (b:Option Bool) (v:V):V:=match b,v with | some false,.agg [u]=>u | _,v=>v
structure Kit where
 c:CX
 bins:List BinRow
 convs:List ConvRow
 rows:Rows
 memo:T (List (List V × V))
 kept:T (List RM)
 gl:T (List V)
 ins:Ins
noncomputable def Kit.tab (k:Kit):Tab:=
 {Tab.symX tb0 k.c k.bins k.convs with
  prim:=fun f args=>match rowLook k.rows f args with
   | some v=>some v
   | none=>primOf k.memo f args
  rm:=k.kept.get
  glob:=fun n=>match globs n with
   | some c=>some c
   | none=>k.gl.get n
  cutS:=fun t i n=>look3 t i n k.ins.cuts
  adrS:=fun t i n=>look3 t i n k.ins.adrs
  ldS:=fun t i=>(look2 t i k.ins.lds).map (unagg (tb0.isAgg t)) }
noncomputable def Kit.chk (k:Kit):Bool:=rowsAll k.c k.bins&&k.convs.all (convRowOk k.c)&&rowsX k.c k.rows
noncomputable def flatK:List (Nat × RM)→T (List RM)
 | []=>.e
 | p::l=>match (flatK l).get p.1 with
  | some es=>(flatK l).set p.1 (p.2::es)
  | none=>(flatK l).set p.1 [p.2]
def AllK (w0:Base) (l:List (Nat × RM)):Prop := ∀ p∈l,RmOk Tryz.prog w0 p.1 p.2
theorem AllK.nil {w0:Base}:AllK w0 []:=fun _ h=>(List.not_mem_nil h).elim
theorem AllK.cons {w0:Base} {f:Nat} {e:RM} {l:List (Nat × RM)} (h:RmOk Tryz.prog w0 f e) (hl:AllK w0 l):AllK w0 ((f,e)::l):=fun p hp=>
 (List.mem_cons.1 hp).elim (fun e1=>by subst e1; exact h) (hl p)
theorem flatK_ok {w0:Base}:∀ {l:List (Nat × RM)},AllK w0 l → ∀ f es,(flatK l).get f=some es → ∀ e∈es,RmOk Tryz.prog w0 f e
 | [],_,f,es,h,e,he=>by rw [flatK,T.get_e] at h; cases h
 | p::l,hl,f,es,h,e,he=>by
  have ih:=flatK_ok (l:=l) fun q hq=>hl q (List.mem_cons_of_mem _ hq)
  have h0:=hl p (List.mem_cons_self ..)
  simp only [flatK] at h
  split at h
  ·rename_i es0 hg
   rw [T.get_set] at h
   by_cases hf:f=p.1
   ·subst hf
    simp only [if_true,Option.some.injEq] at h
    subst h
    rcases List.mem_cons.1 he with rfl | he
    ·exact h0
    ·exact ih _ _ hg e he
   ·rw [if_neg hf] at h
    exact ih f es h e he
  ·rename_i hg
   rw [T.get_set] at h
   by_cases hf:f=p.1
   ·subst hf
    simp only [if_true,Option.some.injEq] at h
    subst h
    rcases List.mem_cons.1 he with rfl | he
    ·exact h0
    ·cases he
   ·rw [if_neg hf] at h
    exact ih f es h e he
structure KitOk (w0:Base) (x:Nat→Int) (o:Nat→Value) (k:Kit):Prop where
 case_:CXOk w0 x o k.c
 memo:∀ f args v,primOf k.memo f args=some v→Contract Tryz.prog w0 f args v
 kept:∀ f es,k.kept.get f=some es → ∀ e∈es,RmOk Tryz.prog w0 f e
 gl:∀ n cs,k.gl.get n=some cs→Lies w0 n cs
 cut:∀ p∈k.ins.cuts,∀ E:Env,StatOk w0 E → ∀ (j:IntKind) (w:World),∃ r,(Instr.sliceAt p.1 (w0.sym p.2.1) (cutLo j p.2.2.1) (cutHi j p.2.2.1) none).run Tryz.prog w = .ok r w∧VR E p.2.2.2 r
 adr:∀ p∈k.ins.adrs,∀ E:Env,StatOk w0 E → ∀ (j:IntKind) (w:World),∃ r,(Instr.indexAt p.1 (w0.sym p.2.1) (.int j (Int.ofNat p.2.2.1))).run Tryz.prog w = .ok r w∧VR E p.2.2.2 r
 ld:∀ p∈k.ins.lds,∃ ad xs,w0.sym p.2.1 = .pointer (some ad)∧((tb0.isAgg p.1=some true∧tb0.size p.1=some p.2.2.length)∨(tb0.isAgg p.1=some false∧p.2.2.length=1))∧(∀ E,StatOk w0 E→VRL E p.2.2 xs)∧(ad.block<w0.heap.size∧w0.frz ad.block) ∧
  ∀ w:World,w.heap[ad.block]? = w0.heap[ad.block]? → ∀ j y,xs[j]? = some y→w.cell? (ad.add j)=some y
theorem Kit.tabOk (k:Kit):TabOk k.tab Tryz.prog:=⟨Go.Proofs.YtkjinnjopoehhaaGreatDoor.tabOk.fn,Go.Proofs.YtkjinnjopoehhaaGreatDoor.tabOk.und,Go.Proofs.YtkjinnjopoehhaaGreatDoor.tabOk.inf,Go.Proofs.YtkjinnjopoehhaaGreatDoor.tabOk.guard,Go.Proofs.YtkjinnjopoehhaaGreatDoor.tabOk.held⟩
section
variable {w0:Base} {x:Nat→Int} {o:Nat→Value} {k:Kit} (hK:KitOk w0 x o k) (hc:k.chk=true)
include hK hc
theorem Kit.fnOk:FnOk k.tab Tryz.prog w0:=by
 have hF:=Go.Proofs.YtkjinnjopoehhaaGreatDoor.fnOk hK.case_.pow
 simp only [Kit.chk,Bool.and_eq_true] at hc
 obtain⟨⟨c1,c2⟩,c3⟩:=hc
 refine⟨hF.mixed,fun E hE => ?_,fun n cs hn => ?_,fun ty i v h => ?_,hF.enter,hF.ext,fun f args v h => ?_,hK.kept⟩
 ·have:=symX_sr (tb:=tb0) hK.case_ hE Go.Proofs.YtkjinnjopoehhaaGreatDoor.tabOk ⟨(fun _ _ _ _ h=>by cases h),(fun _ _ _ _ h=>by cases h)⟩ c1 c2
  refine⟨this.eqs,this.eqi,this.bin,this.conv,this.key,this.len,fun ty i n v h j w => ?_,fun ty i n v h j w => ?_⟩
  ·have h1:=hK.cut _ (look3_mem h) E hE j w
   rw [hE.sym]; exact h1
  ·have h1:=hK.adr _ (look3_mem h) E hE j w
   rw [hE.sym]; exact h1
 ·replace hn:(match globs n with | some c=>some c | none=>k.gl.get n)=some cs:=hn
  split at hn
  ·rename_i cc hg
   cases hn
   obtain⟨h1,h2,rc,e,fr,h3,h4⟩:=hF.glob n _ hg
   exact⟨h1,h2,rc,e,fr,h3,h4⟩
  ·obtain⟨h1,h2,h3,h3',rc,e,fr,h4,h5⟩:=hK.gl n cs hn
   have hb:blkOf w0 n=(w0.stat n).blk:=by unfold blkOf; rw [if_neg (by omega)]
   exact⟨h2,by rw [hb]; exact⟨h3,h3'⟩,rc,e,fr,by rw [hb]; exact h4,h5⟩
 ·replace h:(look2 ty i k.ins.lds).map (unagg (tb0.isAgg ty))=some v:=h
  cases hq:look2 ty i k.ins.lds with
  | none=>rw [hq] at h; cases h
  | some u=>
   rw [hq] at h
   obtain⟨cs,rfl,hm⟩:=look2_mem hq
   obtain⟨ad,xs,h1,h2,h4,h5,h6⟩:=hK.ld _ hm
   rcases h2 with⟨h2,h3⟩ | ⟨h2,h3⟩
   ·replace h2:tb0.isAgg ty=some true:=h2
    rw [h2] at h
    exact⟨ad,cs,xs,h1,.inl ⟨h2,h3,(Option.some.inj h).symm⟩,h4,h5,h6⟩
   ·replace h2:tb0.isAgg ty=some false:=h2
    rw [h2] at h
    match cs,h3 with
    | [u],_=>exact⟨ad,[u],xs,h1,.inr ⟨h2,by rw [← Option.some.inj h]; rfl⟩,h4,h5,h6⟩
 ·replace h:(match rowLook k.rows f args with | some v=>some v | none=>primOf k.memo f args)=some v:=h
  split at h
  ·rename_i u hu
   cases h
   exact rowsX_ok hK.case_ c3 hu
  ·exact hK.memo f args v h
theorem Kit.run {rounds n f:Nat} {args:List V} {v:V} (h:memoOk k.tab rounds n f args v=true):Contract Tryz.prog w0 f args v:=memo_ok k.tabOk (k.fnOk hK hc) h
theorem Kit.runs {rounds n f:Nat} {l:List (List V × V)} (h:chkF k.tab rounds n f l=true):AllC Tryz.prog w0 f l:=chkF_ok k.tabOk (k.fnOk hK hc) h
theorem Kit.keep {rounds n f:Nat} {e:RM} (h:rmChk k.tab rounds n f e=true):RmOk Tryz.prog w0 f e:=rm_ok k.tabOk (k.fnOk hK hc) h
end
noncomputable def kitK (c:CX) (b:List BinRow) (v:List ConvRow) (r:Rows) (l:List (Nat × RM)):Kit:=⟨c,b,v,r,.e,flatK l,.e,⟨[],[],[]⟩⟩
theorem kitK_ok {w0:Base} {x:Nat→Int} {o:Nat→Value} {c:CX} {b:List BinRow} {v:List ConvRow} {r:Rows} {l:List (Nat × RM)} (h:CXOk w0 x o c) (hl:AllK w0 l):KitOk w0 x o (kitK c b v r l):=
 ⟨h,(fun f args v hv=>by simp [kitK,primOf,T.get_e] at hv),(fun f es he e hm=>flatK_ok hl f es he e hm),(fun n cs hn=>by simp [kitK,T.get_e] at hn),(fun p hp=>by cases hp),(fun p hp=>by cases hp),(fun p hp=>by cases hp)⟩
end Go.Proofs.YtkjinnjopoehhaaGreatDoor
