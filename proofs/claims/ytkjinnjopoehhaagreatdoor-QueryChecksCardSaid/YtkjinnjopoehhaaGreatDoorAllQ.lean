/-
  klippelaw53.QueryChecks at any plan and any change: true.
-/
import Derived.Test.YtkjinnjopoehhaaGreatDoorModQ
import Derived.Test.YtkjinnjopoehhaaGreatDoorAllG
import Derived.Test.YtkjinnjopoehhaaGreatDoorAllP
set_option linter.unusedSectionVars false
set_option linter.unusedVariables false
set_option linter.unusedSimpArgs false
namespace Go.Proofs.YtkjinnjopoehhaaGreatDoor
open Go.RowKit Go Ev Klp
def sqA:Code→Code | .seq a _=>a | c=>c
def sqB:Code→Code | .seq _ b=>b | c=>c
noncomputable def bodyM:Code:=Tryz.f4.body.getD .skip
noncomputable def head1:Code:=sqA bodyM
noncomputable def head2:Code:=sqA (sqB bodyM)
noncomputable def head3:Code:=sqA (sqB (sqB bodyM))
noncomputable def restM:Code:=sqB (sqB (sqB bodyM))
noncomputable def swM:Code:=sqA restM
noncomputable def tailM:Code:=sqB restM
def LawP (w:World) (e:Ending) (w':World):Prop:=e = .returned (.bool true)∧Grew w w' ∧ ∀ b,b<w.heap.size→w'.heap[b]? = w.heap[b]?
def tabTm:List SE:=(List.range 6).map .opq++[.int .i64 (P0 0),.int .u8 (P0 1),.opq 6]
noncomputable def cxTm (j:Nat):CX:=⟨T.ofList .e 0 tabTm,T.ofList .e 0 [(0,40),(0,255)],[(P0 0,psS)],[(P0 1,6,[([],Int.ofNat j)])],[]⟩
def errM (ok:Bool):V:=cond ok (.int .i64 0) (syC 6)
def memoTm (cells:List V) (ok:Bool):Memo:=[(11,[([.agg cells],errM ok)]),(12,[([.agg cells],errM ok)])]
noncomputable def glTm (j:Nat):T (List V):=cond (Nat.beq j 3) (tmk [(34,[syC 8])]) .e
noncomputable def kitTm (j:Nat) (cells:List V) (ok:Bool):Kit:=⟨cxTm j,[⟨.rem,syC 7,.int .u8 6,.int .u8 (Int.ofNat j)⟩],[],.e,tmk (memoTm cells ok),.e,glTm j,⟨[],[],[]⟩⟩
def cellsB (j np:Nat):List V:=match j with
 | 3=>[syC 0,syC 1,syC 2,syC 3,tvE np,syC 5]
 | _=>modelV
def cellsE (j np:Nat):List V:=match j with
 | 2=>[syC 0,syC 1,syC 2,syC 3,syC 4,.str bad1]
 | 3=>[syC 0,syC 1,syC 2,syC 3,tvE np,syC 8]
 | _=>modelV
noncomputable def sTm (j np:Nat):S:={ t:=(T.e.set 2 (syC 7)).set 7 (.ptr 64 0),h:=boxH 64 [(cellsB j np,47)],nx:=65,m:=[] }
noncomputable def runTm (rest:Code) (j np:Nat) (ok:Bool):Bool:=(kitTm j (cellsE j np) ok).chk&&(match tailRun (kitTm j (cellsE j np) ok).tab 10000 60 Tryz.f4 rest (sTm j np) with
 | some rs=>rs.all fun r=>V.eq r.1 (.bool true)
 | none=>false)
set_option maxRecDepth 100000
theorem runTm0:allB (runTm tailM 0 0)=true:=by kernel_rfl
theorem runTm1:allB (runTm tailM 1 0)=true:=by kernel_rfl
theorem runTm2:([2,4,5].all fun j=>allB (runTm restM j 0))=true:=by kernel_rfl
theorem runTm3:([3,4,5,6].all fun np=>allB (runTm restM 3 np))=true:=by kernel_rfl
theorem restM_dst:dstOk 119 restM=true:=by kernel_rfl
theorem tailM_dst:dstOk 119 tailM=true:=by kernel_rfl
def xTm (z how:Int) (v:Nat):Int:=(([z,how]:List Int)[v]?).getD 0
noncomputable def baseTm (M:Mem) (l:List Value) (zv:Value) (z how:Int) (j:Nat) (i34:Info):Base:={ toMem:=M,sym:=symX (xTm z how) (oPa (l++[zv])) (cxTm j).tab,stat:=fun _=>i34 }
section
variable {M:Mem} (hg:Good M) {l:List Value} (hl:l.length=6) (h1:∀ x∈l,oneV x) {zv:Value} (hzv:oneV zv) {z how:Int} (hz:0<z∧z≤40) (hh:0≤how∧how≤255) {j:Nat} {i34:Info}
theorem getTm (k:Nat):(cxTm j).tab.get k=tabTm[k]? := by
 show (T.ofList .e 0 tabTm:T SE).get k=_
 rw [T.get_ofList]
 split
 ·rw [Nat.sub_zero]
 ·rename_i hi
  rw [T.get_e,List.getElem?_eq_none (by omega)]
theorem symTm (k:Nat) (e:SE) (h:tabTm[k]? = some e):(baseTm M l zv z how j i34).sym k=seV (xTm z how) (oPa (l++[zv])) e:=symX_get ((getTm k).trans h)
theorem symTm_z:(baseTm M l zv z how j i34).sym 6 = .int .i64 z:=by rw [symTm 6 _ rfl]; simp only [seV,ev_P0]; rfl
theorem symTm_h:(baseTm M l zv z how j i34).sym 7 = .int .u8 how:=by rw [symTm 7 _ rfl]; simp only [seV,ev_P0]; rfl
include hl in
theorem symTm_v:(baseTm M l zv z how j i34).sym 8=zv:=by
 rw [symTm 8 _ rfl]
 show oPa (l++[zv]) 6=zv
 unfold oPa
 rw [List.getElem?_append_right (by omega),hl]; rfl
theorem vTm {E:Env} (hE:StatOk (baseTm M l zv z how j i34) E) {k:Nat} {y:Value} (hk:k<6) (hy:l[k]? = some y):VR E (syC k) y:=by
 show y=E.sym k
 have e:tabTm[k]? = some (.opq k):=by
  unfold tabTm
  rw [List.getElem?_append_left (by simpa using hk),List.getElem?_map,List.getElem?_range hk]; rfl
 rw [hE.sym,symTm k _ e]
 show y=oPa (l++[zv]) k
 unfold oPa
 rw [List.getElem?_append_left (List.getElem?_eq_some_iff.1 hy).1,hy]; rfl
theorem veTm {E:Env} (hE:StatOk (baseTm M l zv z how j i34) E) {ok:Bool}:VR E (errM ok) (.int .i64 (cond ok 0 z)):=by
 cases ok
 ·show _=E.sym 6; rw [hE.sym,symTm_z]; rfl
 ·rfl
variable {w w1:World} {a:Act} {p7:Nat} (hon:M.On w1) (ts:a.tmps.size=119) (t2:a.tmps[2]? = some (.int .u8 how)) (t7:a.tmps[7]? = some (.pointer (some ⟨p7,0,none⟩))) (hdf:a.defers=[])
 (hb7:w1.heap[p7]? = some (.cells l.toArray 47 (0,0))) (z7:¬ (p7<M.heap.size∧M.frz p7)) (hgr:Grew w w1) (hfr:∀ b,b<w.heap.size→w1.heap[b]? = w.heap[b]?) (q7:w.heap.size≤p7)
include hg hl h1 hzv hz hh hon ts t2 t7 hdf hb7 z7 hgr hfr q7
theorem tailM_run {rest:Code} (hdst:dstOk 119 rest=true) {np:Nat} {ok:Bool} {le:List Value} (hcb:∀ E,StatOk (baseTm M l zv z how j i34) E→VRL E (cellsB j np) l) (hce:∀ E,StatOk (baseTm M l zv z how j i34) E→VRL E (cellsE j np) le)
  (hgl:∀ n cs,(glTm j).get n=some cs→Lies (baseTm M l zv z how j i34) n cs)
  (hp:PairQ M le (cond ok 0 z)) (hrun:runTm rest j np ok=true) (hj:how.tmod 6=(j:Int)):rest.wp Tryz.prog (bodyPost Tryz.prog Tryz.f4 (LawP w)) a w1:=by
 have oo:∀ j,oneV (oPa (l++[zv]) j):=oPa_one fun x hx=>(List.mem_append.1 hx).elim (h1 x) fun h=>by rw [List.mem_singleton.1 h]; exact hzv
 have hone:∀ i,oneV ((baseTm M l zv z how j i34).sym i):=fun i=>symX_one oo i
 have hmo:Memos Tryz.prog (baseTm M l zv z how j i34) (memoTm (cellsE j np) ok):=
  memos_cons (hp.1.contract (v:=errM ok) (Mem.Le.refl _) (fun E hE=>VRL.cons ⟨_,hce E hE,rfl⟩ VRL.nil) fun E hE=>veTm hE) (memos_cons (hp.2.contract (v:=errM ok) (Mem.Le.refl _) (fun E hE=>VRL.cons ⟨_,hce E hE,rfl⟩ VRL.nil) fun E hE=>veTm hE) memos_nil)
 have hK:KitOk (baseTm M l zv z how j i34) (xTm z how) (oPa (l++[zv])) (kitTm j (cellsE j np) ok):=by
  refine⟨⟨fun _ _ _=>rfl,fun v => ?_,fact_cons ?_ (fact_nil _),(fun r hr => ?_),(fun p hp=>by cases hp),oo,hg.pow _ _,hg.tabs⟩,fun f args v hv=>tmk_prim hmo hv,(fun f es he=>by simp [kitTm,T.get_e] at he),
   (fun n cs hn=>hgl n cs hn),(fun p hp=>by cases hp),(fun p hp=>by cases hp),(fun p hp=>by cases hp)⟩
  ·exact bd_of (l:=[(0,40),(0,255)]) (zs:=[z,how]) ⟨⟨Int.le_of_lt hz.1,hz.2⟩,hh,trivial⟩ v
  ·rw [ev_P0]
   exact⟨fun e=>by have:xTm z how 0=z:=rfl; omega,fun e=>by have:xTm z how 0=z:=rfl; omega,fun _=>rfl⟩
  ·have hr:r∈[(P0 1,6,[(([]:Mono),Int.ofNat j)])]:=hr
   rw [List.mem_singleton.1 hr,ev_P0]
   show how.tmod 6=Int.ofNat j*1+0
   rw [hj]; simp
 let bs:List Box:=[⟨p7,cellsB j np,l,47⟩]
 have hbs:BoxesOk (baseTm M l zv z how j i34) w1 bs:=by
  refine⟨hon,fun b hb => ?_,fun b hb E hE => ?_,fun i j x y hi hj he => ?_,fun b hb => ?_⟩
  ·rw [List.mem_singleton.1 hb]; exact hb7
  ·rw [List.mem_singleton.1 hb]
   exact hcb E hE
  ·match i,j,hi,hj with
   | 0,0,_,_=>rfl
   | n+1,_,hi,_=>simp [bs] at hi
   | 0,n+1,_,hj=>simp [bs] at hj
  ·rw [List.mem_singleton.1 hb]; exact z7
 have hok:=boxes_ok (h:=hone) hbs
 have hfoot:∀ b,Foot (boxE (baseTm M l zv z how j i34) hone bs) (sTm j np).h.get b→b=p7:=by
  intro b hf
  obtain⟨x,hx,rfl⟩:=boxes_foot (l:=bs) hf
  rw [List.mem_singleton.1 hx]
 have htr:TR (boxE (baseTm M l zv z how j i34) hone bs) (sTm j np).t a.tmps:=by
  intro k v hk
  have hk:(((T.e:T V).set 2 (syC 7)).set 7 (.ptr 64 0)).get k=some v:=hk
  rw [T.get_set] at hk
  by_cases c7:k=7
  ·rw [if_pos c7] at hk; cases hk; subst c7; exact⟨_,t7,_,boxE_at (j:=0) rfl,rfl⟩
  ·rw [if_neg c7,T.get_set] at hk
   by_cases c2:k=2
   ·rw [if_pos c2] at hk; cases hk; subst c2; exact⟨_,t2,by show _=(baseTm M l zv z how j i34).sym 7; rw [symTm_h]⟩
   ·rw [if_neg c2,T.get_e] at hk; cases hk
 simp only [runTm,Bool.and_eq_true] at hrun
 obtain⟨hchk,hrun⟩:=hrun
 split at hrun
 ·rename_i rs hrs
  refine tail_wp (kitTm j (cellsE j np) ok).tabOk ((kitTm j (cellsE j np) ok).fnOk hK hchk) hrs hok htr rfl hdf (by rw [ts]; exact hdst) fun r hr x E' w' hx hst => ?_
  have hro:=V.eq_eq _ _ (List.all_eq_true.1 hrun r hr)
  rw [hro] at hx
  refine⟨by rw [show x = .bool true from hx],hgr.trans hst.grew,fun b hb => ?_⟩
  rw [hst.frame b (Nat.lt_of_lt_of_le hb hgr.size) (fun hf=>by have:=hfoot b hf; omega),hfr b hb]
 ·cases hrun
end
end Go.Proofs.YtkjinnjopoehhaaGreatDoor
namespace Go.Proofs.YtkjinnjopoehhaaGreatDoor
open Go.RowKit Go Ev
def slipR (kx at_:Int):Value:=.agg #[.int .u8 kx,.int .u8 at_]
section
variable {M:Mem} {k s0 s1:Int} {hf half:Bool} {ds:Value} {hv:Nat→Int} {dn:Int} {kx at_ how:Int} {w:World} (hw:M.On w) (hk:∀ w,M.On w→Calls Tryz.prog 5 #[] w (QuietP (.bool true) w))
include hw hk
set_option maxHeartbeats 1000000 in
set_option maxRecDepth 4000 in
theorem many_wpQ (hfit:∀ w,Calls Tryz.prog 6 #[planQ k s0 s1 hf half ds hv dn] w (QuietP (.bool false) w)) (rest:Code) :
  Code.wp Tryz.prog (head1.seq (head2.seq (head3.seq rest))) (bodyPost Tryz.prog Tryz.f4 (LawP w)) { tmps := #[.agg #[.int .u8 k,.int .i8 s0,.int .i8 s1,.bool hf,ds,.int .i8 (hv 0),.int .i8 (hv 1),.int .i8 (hv 2),.int .i8 (hv 3),.int .i8 (hv 4),.int .i8 (hv 5),.bool half,.int .u8 dn],.agg #[.int .u8 kx,.int .u8 at_],.int .u8 how]++Array.replicate (119-3) undef,defers:=[] } w:=by
 have W0:=Lib.hid (Went.refl hw); clear hw
 have K:=Lib.hid hk; clear hk
 have F:=Lib.hid hfit; clear hfit
 unfold planQ at F
 simp only [head1,head2,head3,bodyM,sqA,sqB,Tryz.f4,Option.getD_some,List.size_toArray,List.length_cons,List.length_nil,Nat.reduceAdd,Nat.reduceSub,Array.replicate_succ,Array.replicate_zero,List.push_toArray,List.append_toArray,List.nil_append,List.cons_append]
 go_wp2_with fail
 refine Calls.mono (K.out _ ((W0.out.alloc _).alloc _).on) ?_
 rintro e w1 ⟨rfl,hgr,hsm⟩
 have W1:=Lib.hid (((W0.out.alloc _).alloc _).quiet hgr hsm)
 have HB:=Lib.hid (quiet_old hsm (two_0 _ _ _))
 clear hgr hsm
 go_wp2_with (refine wl_load (t:=33) rfl rfl rfl (plan_load rfl HB.out) ?_)
 refine Calls.mono (F.out _) ?_
 rintro e w2 ⟨rfl,hgr,hsm⟩
 have W2:=Lib.hid (W1.out.quiet hgr hsm)
 clear hgr hsm
 go_wp2_with fail
 refine Calls.mono (K.out _ W2.out.on) ?_
 rintro e w3 ⟨rfl,hgr,hsm⟩
 have W3:=Lib.hid (W2.out.quiet hgr hsm)
 clear hgr hsm
 go_wp2_with fail
 go_ret
 exact⟨rfl,W3.out.grew,W3.out.old⟩
end
section
variable {M:Mem} {k s0 s1:Int} {hf half:Bool} {ds:Value} {hv:Nat→Int} {dn:Int} {kx at_ how:Int} {w:World} (hw:M.On w) (hk:∀ w,M.On w→Calls Tryz.prog 5 #[] w (QuietP (.bool true) w))
include hw hk
set_option maxHeartbeats 1000000 in
set_option maxRecDepth 4000 in
theorem few_wpQ (hfit:∀ w,Calls Tryz.prog 6 #[planQ k s0 s1 hf half ds hv dn] w (QuietP (.bool true) w)) {np nt:Nat} {PQ:Nat→Nat→Nat→Nat→Value→Value→ByteArray→Mem→Prop}
  (hm:∀ w,M.On w→Calls Tryz.prog 7 #[planQ k s0 s1 hf half ds hv dn] w (RetM M w fun y M' => ∃ b0 c0 b1 c1 sva svn svc tva tvn tvc g0,y = .agg #[.slice (some ⟨b0,0,none⟩) np c0,.slice (some ⟨b1,0,none⟩) nt c1,.string ⟨#[98,97,115,101]⟩,.slice sva svn svc,.slice tva tvn tvc,.string g0]∧PQ b0 c0 b1 c1 (.slice sva svn svc) (.slice tva tvn tvc) g0 M'))
  {QQ:Exit→Act→World→Prop} {rest:Code} (hQ:∀ (M':Mem) (b0 c0 b1 c1:Nat) (sva:Option Addr) (svn svc:Nat) (tva:Option Addr) (tvn tvc:Nat) (g0:ByteArray) (p7:Nat) (ac:Act) (w':World),Went M w M' w'→ac.tmps.size=119→ac.tmps[2]? = some (.int .u8 how)→ac.tmps[7]? = some (.pointer (some ⟨p7,0,none⟩))→ac.defers=[] →
   w'.heap[p7]? = some (.cells #[.slice (some ⟨b0,0,none⟩) np c0,.slice (some ⟨b1,0,none⟩) nt c1,.string ⟨#[98,97,115,101]⟩,.slice sva svn svc,.slice tva tvn tvc,.string g0] 47 (0,0)) → ¬ (p7<M'.heap.size∧M'.frz p7)→w.heap.size≤p7 →
   PQ b0 c0 b1 c1 (.slice sva svn svc) (.slice tva tvn tvc) g0 M'→rest.wp Tryz.prog QQ ac w') :
  Code.wp Tryz.prog (head1.seq (head2.seq (head3.seq rest))) QQ { tmps := #[.agg #[.int .u8 k,.int .i8 s0,.int .i8 s1,.bool hf,ds,.int .i8 (hv 0),.int .i8 (hv 1),.int .i8 (hv 2),.int .i8 (hv 3),.int .i8 (hv 4),.int .i8 (hv 5),.bool half,.int .u8 dn],.agg #[.int .u8 kx,.int .u8 at_],.int .u8 how]++Array.replicate (119-3) undef,defers:=[] } w:=by
 have HM:=Lib.hid hm; clear hm
 have HQ:=Lib.hid hQ; clear hQ
 have W0:=Lib.hid (Went.refl hw); clear hw
 have K:=Lib.hid hk; clear hk
 have F:=Lib.hid hfit; clear hfit
 unfold planQ at F HM
 simp only [head1,head2,head3,bodyM,sqA,sqB,Tryz.f4,Option.getD_some,List.size_toArray,List.length_cons,List.length_nil,Nat.reduceAdd,Nat.reduceSub,Array.replicate_succ,Array.replicate_zero,List.push_toArray,List.append_toArray,List.nil_append,List.cons_append]
 go_wp2_with fail
 refine Calls.mono (K.out _ ((W0.out.alloc _).alloc _).on) ?_
 rintro e w1 ⟨rfl,hgr,hsm⟩
 have W1:=Lib.hid (((W0.out.alloc _).alloc _).quiet hgr hsm)
 have hb:=quiet_old hsm (two_0 _ _ _)
 have HB:=Lib.hid hb; clear hb hgr hsm
 go_wp2_with (refine wl_load (t:=33) rfl rfl rfl (plan_load rfl HB.out) ?_)
 refine Calls.mono (F.out _) ?_
 rintro e w2 ⟨rfl,hgr,hsm⟩
 have W2:=Lib.hid (W1.out.quiet hgr hsm)
 have HB2:=Lib.hid (quiet_old hsm HB.out)
 clear hgr hsm
 go_wp2_with (refine wl_load (t:=33) rfl rfl rfl (plan_load rfl HB2.out) ?_)
 refine Calls.mono (HM.out _ W2.out.on) ?_
 rintro e w3 ⟨y,M1,rfl,hgr,hsm,hh,hle,hz,b0,d0,b1,d1,sva,svn,svc,tva,tvn,tvc,g0,rfl,hpq⟩
 have W3:=Lib.hid (W2.out.ret hgr hsm hh hle hz)
 clear hgr hsm hh hz hle
 have HPQ:=Lib.hid hpq; clear hpq
 go_wp2_with fail
 exact HQ.out M1 b0 d0 b1 d1 sva svn svc tva tvn tvc g0 w3.heap.size _ _ (W3.out.alloc _) rfl rfl rfl rfl (new_alloc _ _) (W3.out.own (Nat.le_refl _)) W3.out.lt HPQ.out
end
section
variable {M:Mem} {k s0 s1:Int} {hf half:Bool} {ds:Value} {hv:Nat→Int} {dn:Int} {kx at_ how:Int} {w:World} (hw:M.On w) (hk:∀ w,M.On w→Calls Tryz.prog 5 #[] w (QuietP (.bool true) w))
include hw hk
set_option maxHeartbeats 1000000 in
set_option maxRecDepth 4000 in
theorem zero_wpQ (hfit:∀ w,Calls Tryz.prog 6 #[planQ k s0 s1 hf half ds hv dn] w (QuietP (.bool true) w)) (h0:how.tmod 6=0) {np nt:Nat} {PQ:Nat→Nat→Nat→Nat→Value→Value→ByteArray→Mem→Prop} {PC:Nat→Nat→Nat→Nat→Value→Value→Value→Value→ByteArray→Mem→Prop}
  (hm:∀ w,M.On w→Calls Tryz.prog 7 #[planQ k s0 s1 hf half ds hv dn] w (RetM M w fun y M' => ∃ b0 c0 b1 c1 sva svn svc tva tvn tvc g0,y = .agg #[.slice (some ⟨b0,0,none⟩) np c0,.slice (some ⟨b1,0,none⟩) nt c1,.string ⟨#[98,97,115,101]⟩,.slice sva svn svc,.slice tva tvn tvc,.string g0]∧PQ b0 c0 b1 c1 (.slice sva svn svc) (.slice tva tvn tvc) g0 M'))
  (hch:∀ (M1:Mem) (b0 c0 b1 c1:Nat) (sv tv:Value) (g0:ByteArray) (w:World),M.Le M1→M1.On w→PQ b0 c0 b1 c1 sv tv g0 M1→Calls Tryz.prog 10 #[.agg #[.slice (some ⟨b0,0,none⟩) np c0,.slice (some ⟨b1,0,none⟩) nt c1,.string ⟨#[98,97,115,101]⟩,sv],.agg #[.int .u8 kx,.int .u8 at_]] w
   (RetM M1 w fun y M' => ∃ ma mn mc bt ea en ec,y = .agg #[.slice (some ⟨b0,0,none⟩) np c0,.slice ma mn mc,.string bt,.slice ea en ec]∧PC b0 c0 b1 c1 (.slice ma mn mc) (.string bt) (.slice ea en ec) tv g0 M'))
  {QQ:Exit→Act→World→Prop} {rest:Code} (hQ:∀ (M':Mem) (b0 c0 b1 c1:Nat) (ma:Option Addr) (mn mc:Nat) (bt:ByteArray) (ea:Option Addr) (en ec:Nat) (tva:Option Addr) (tvn tvc:Nat) (g0:ByteArray) (p7:Nat) (ac:Act) (w':World),Went M w M' w'→ac.tmps.size=119→ac.tmps[2]? = some (.int .u8 how)→ac.tmps[7]? = some (.pointer (some ⟨p7,0,none⟩))→ac.defers=[] →
   w'.heap[p7]? = some (.cells #[.slice (some ⟨b0,0,none⟩) np c0,.slice ma mn mc,.string bt,.slice ea en ec,.slice tva tvn tvc,.string g0] 47 (0,0)) → ¬ (p7<M'.heap.size∧M'.frz p7)→w.heap.size≤p7 →
   PC b0 c0 b1 c1 (.slice ma mn mc) (.string bt) (.slice ea en ec) (.slice tva tvn tvc) g0 M'→rest.wp Tryz.prog QQ ac w') :
  Code.wp Tryz.prog (head1.seq (head2.seq (head3.seq (swM.seq rest)))) QQ { tmps := #[.agg #[.int .u8 k,.int .i8 s0,.int .i8 s1,.bool hf,ds,.int .i8 (hv 0),.int .i8 (hv 1),.int .i8 (hv 2),.int .i8 (hv 3),.int .i8 (hv 4),.int .i8 (hv 5),.bool half,.int .u8 dn],.agg #[.int .u8 kx,.int .u8 at_],.int .u8 how]++Array.replicate (119-3) undef,defers:=[] } w:=by
 have HM:=Lib.hid hm; clear hm
 have HC:=Lib.hid hch; clear hch
 have HQ:=Lib.hid hQ; clear hQ
 have W0:=Lib.hid (Went.refl hw); clear hw
 have K:=Lib.hid hk; clear hk
 have F:=Lib.hid hfit; clear hfit
 unfold planQ at F HM
 simp only [head1,head2,head3,swM,restM,bodyM,sqA,sqB,Tryz.f4,Option.getD_some,List.size_toArray,List.length_cons,List.length_nil,Nat.reduceAdd,Nat.reduceSub,Array.replicate_succ,Array.replicate_zero,List.push_toArray,List.append_toArray,List.nil_append,List.cons_append]
 go_wp2_with fail
 refine Calls.mono (K.out _ ((W0.out.alloc _).alloc _).on) ?_
 rintro e w1 ⟨rfl,hgr,hsm⟩
 have W1:=Lib.hid (((W0.out.alloc _).alloc _).quiet hgr hsm)
 have hb:=quiet_old hsm (two_0 _ _ _)
 have hs:=quiet_old hsm (two_1 _ _ _)
 have HB:=Lib.hid hb; have HSL:=Lib.hid hs; clear hb hs hgr hsm
 go_wp2_with (refine wl_load (t:=33) rfl rfl rfl (plan_load rfl HB.out) ?_)
 refine Calls.mono (F.out _) ?_
 rintro e w2 ⟨rfl,hgr,hsm⟩
 have W2:=Lib.hid (W1.out.quiet hgr hsm)
 have hb:=quiet_old hsm HB.out
 have hs:=quiet_old hsm HSL.out
 have HB2:=Lib.hid hb; have HSL2:=Lib.hid hs; clear hb hs hgr hsm
 go_wp2_with (refine wl_load (t:=33) rfl rfl rfl (plan_load rfl HB2.out) ?_)
 refine Calls.mono (HM.out _ W2.out.on) ?_
 rintro e w3 ⟨y,M1,rfl,hgr,hsm,hh,hle,hz,b0,d0,b1,d1,sva,svn,svc,tva,tvn,tvc,g0,rfl,hpq⟩
 have W3:=Lib.hid (W2.out.ret hgr hsm hh hle hz)
 have hs:=quiet_old hsm HSL2.out
 have HSL3:=Lib.hid hs
 clear hs hgr hsm hh hz hle
 have HPQ:=Lib.hid hpq; clear hpq
 have hs3:=(same_alloc w3 (Obj.cells #[.slice (some ⟨b0,0,none⟩) np d0,.slice (some ⟨b1,0,none⟩) nt d1,.string ⟨#[98,97,115,101]⟩,.slice sva svn svc,.slice tva tvn tvc,.string g0] 47) _ (Array.getElem?_eq_some_iff.1 HSL3.out).1).trans HSL3.out
 obtain⟨u0,u1⟩:=box2 hs3
 clear hs3
 go_wp2_with fail
 refine Calls.mono (HC.out M1 b0 d0 b1 d1 _ _ g0 _ W3.out.le (W3.out.alloc _).on HPQ.out) ?_
 rintro e w6 ⟨y,M3,rfl,gr6,fr6,hh6,le6,zz6,ma,mn,mc,bt,ea,en,ec,rfl,hpc⟩
 have W6:=Lib.hid ((W3.out.alloc _).ret gr6 fr6 hh6 le6 zz6)
 have own3:¬ (w3.heap.size<M1.heap.size∧M1.frz w3.heap.size):=W3.out.own (Nat.le_refl _)
 have own6:=own_ret (by rw [size_alloc]; omega) own3 zz6
 have hb6:=quiet_old fr6 (new_alloc _ _)
 obtain⟨⟨d20,d21,d22,d23,_,_⟩,z0,z1,z2,z3,_,_⟩:=box6 hb6
 have HB6:=Lib.hid hb6
 have HPC:=Lib.hid hpc
 have OWN:=Lib.hid own6
 clear hb6 hpc own6 own3 gr6 fr6 hh6 le6 zz6 u0 u1
 go_wp2_with fail
 have f1:=setc_same w6 w3.heap.size 0 (.slice (some ⟨b0,0,none⟩) np d0) HB6.out
 have f2:=setc_same _ w3.heap.size 1 (.slice ma mn mc) f1
 have f3:=setc_same _ w3.heap.size 2 (.string bt) f2
 have f4:=setc_same _ w3.heap.size 3 (.slice ea en ec) f3
 have q7:w.heap.size≤w3.heap.size:=W3.out.lt
 exact HQ.out M3 b0 d0 b1 d1 ma mn mc bt ea en ec tva tvn tvc g0 w3.heap.size _ _ ((((W6.out.set _ q7 OWN.out).set _ q7 OWN.out).set _ q7 OWN.out).set _ q7 OWN.out) rfl rfl rfl rfl f4 OWN.out q7 HPC.out
end
section
variable {M:Mem} {k s0 s1:Int} {hf half:Bool} {ds:Value} {hv:Nat→Int} {dn:Int} {kx at_ how:Int} {w:World} (hw:M.On w) (hk:∀ w,M.On w→Calls Tryz.prog 5 #[] w (QuietP (.bool true) w))
include hw hk
set_option maxHeartbeats 1000000 in
set_option maxRecDepth 4000 in
theorem one_wpQ (hfit:∀ w,Calls Tryz.prog 6 #[planQ k s0 s1 hf half ds hv dn] w (QuietP (.bool true) w)) (h0:how.tmod 6=1) {np nt:Nat} {PQ:Nat→Nat→Nat→Nat→Value→Value→ByteArray→Mem→Prop}
  (hm:∀ w,M.On w→Calls Tryz.prog 7 #[planQ k s0 s1 hf half ds hv dn] w (RetM M w fun y M' => ∃ b0 c0 b1 c1 sva svn svc b2 n2 c2 g0,y = .agg #[.slice (some ⟨b0,0,none⟩) np c0,.slice (some ⟨b1,0,none⟩) nt c1,.string ⟨#[98,97,115,101]⟩,.slice sva svn svc,.slice (some ⟨b2,0,none⟩) n2 c2,.string g0]∧(2≤n2∧n2≤c2)∧PQ b0 c0 b1 c1 (.slice sva svn svc) (.slice (some ⟨b2,0,none⟩) n2 c2) g0 M'))
  {QQ:Exit→Act→World→Prop} {rest:Code} (hQ:∀ (M':Mem) (b0 c0 b1 c1:Nat) (sva:Option Addr) (svn svc b2 n2 c2:Nat) (g0:ByteArray) (p7:Nat) (ac:Act) (w':World),Went M w M' w'→ac.tmps.size=119→ac.tmps[2]? = some (.int .u8 how)→ac.tmps[7]? = some (.pointer (some ⟨p7,0,none⟩))→ac.defers=[] →
   w'.heap[p7]? = some (.cells #[.slice (some ⟨b0,0,none⟩) np c0,.slice (some ⟨b1,0,none⟩) nt c1,.string ⟨#[98,97,115,101]⟩,.slice sva svn svc,.slice (some ⟨b2,1,none⟩) (n2-1) (c2-1),.string g0] 47 (0,0)) → ¬ (p7<M'.heap.size∧M'.frz p7)→w.heap.size≤p7 →
   PQ b0 c0 b1 c1 (.slice sva svn svc) (.slice (some ⟨b2,0,none⟩) n2 c2) g0 M'→rest.wp Tryz.prog QQ ac w') :
  Code.wp Tryz.prog (head1.seq (head2.seq (head3.seq (swM.seq rest)))) QQ { tmps := #[.agg #[.int .u8 k,.int .i8 s0,.int .i8 s1,.bool hf,ds,.int .i8 (hv 0),.int .i8 (hv 1),.int .i8 (hv 2),.int .i8 (hv 3),.int .i8 (hv 4),.int .i8 (hv 5),.bool half,.int .u8 dn],.agg #[.int .u8 kx,.int .u8 at_],.int .u8 how]++Array.replicate (119-3) undef,defers:=[] } w:=by
 have HM:=Lib.hid hm; clear hm
 have HQ:=Lib.hid hQ; clear hQ
 have W0:=Lib.hid (Went.refl hw); clear hw
 have K:=Lib.hid hk; clear hk
 have F:=Lib.hid hfit; clear hfit
 unfold planQ at F HM
 simp only [head1,head2,head3,swM,restM,bodyM,sqA,sqB,Tryz.f4,Option.getD_some,List.size_toArray,List.length_cons,List.length_nil,Nat.reduceAdd,Nat.reduceSub,Array.replicate_succ,Array.replicate_zero,List.push_toArray,List.append_toArray,List.nil_append,List.cons_append]
 go_wp2_with fail
 refine Calls.mono (K.out _ ((W0.out.alloc _).alloc _).on) ?_
 rintro e w1 ⟨rfl,hgr,hsm⟩
 have W1:=Lib.hid (((W0.out.alloc _).alloc _).quiet hgr hsm)
 have hb:=quiet_old hsm (two_0 _ _ _)
 have HB:=Lib.hid hb; clear hb hgr hsm
 go_wp2_with (refine wl_load (t:=33) rfl rfl rfl (plan_load rfl HB.out) ?_)
 refine Calls.mono (F.out _) ?_
 rintro e w2 ⟨rfl,hgr,hsm⟩
 have W2:=Lib.hid (W1.out.quiet hgr hsm)
 have hb:=quiet_old hsm HB.out
 have HB2:=Lib.hid hb; clear hb hgr hsm
 go_wp2_with (refine wl_load (t:=33) rfl rfl rfl (plan_load rfl HB2.out) ?_)
 refine Calls.mono (HM.out _ W2.out.on) ?_
 rintro e w3 ⟨y,M1,rfl,hgr,hsm,hh,hle,hz,b0,d0,b1,d1,sva,svn,svc,b2,n2,c2,g0,rfl,hn2,hpq⟩
 have W3:=Lib.hid (W2.out.ret hgr hsm hh hle hz)
 clear hgr hsm hh hz hle
 have HPQ:=Lib.hid hpq; clear hpq
 obtain⟨hn2,hc2⟩:=hn2
 go_wp2_with fail
 exact HQ.out M1 b0 d0 b1 d1 sva svn svc b2 n2 c2 g0 w3.heap.size _ _ (W3.out.alloc _) rfl rfl rfl rfl (new_alloc _ _) (W3.out.own (Nat.le_refl _)) W3.out.lt HPQ.out
end
end Go.Proofs.YtkjinnjopoehhaaGreatDoor
namespace Go.Proofs.YtkjinnjopoehhaaGreatDoor
open Go Ev Klp
theorem body_eq:Tryz.f4.body=some (head1.seq (head2.seq (head3.seq restM))):=rfl
theorem rest_eq:restM=swM.seq tailM:=rfl
section
variable {M:Mem} (hg:Good M) {m0 m1 bs sv tv fv:Value} {how:Int} (hh:0≤how∧how≤255) (o0:oneV m0) (o1:oneV m1) (o2:oneV bs) (o3:oneV sv) (o4:oneV tv) (o5:oneV fv)
 {w w1:World} {a:Act} {p7:Nat} (hon:M.On w1) (ts:a.tmps.size=119) (t2:a.tmps[2]? = some (.int .u8 how)) (t7:a.tmps[7]? = some (.pointer (some ⟨p7,0,none⟩))) (hdf:a.defers=[])
 (hb7:w1.heap[p7]? = some (.cells #[m0,m1,bs,sv,tv,fv] 47 (0,0))) (z7:¬ (p7<M.heap.size∧M.frz p7)) (hgr:Grew w w1) (hfr:∀ b,b<w.heap.size→w1.heap[b]? = w.heap[b]?) (q7:w.heap.size≤p7)
include hg hh o0 o1 o2 o3 o4 o5 hon ts t2 t7 hdf hb7 z7 hgr hfr q7
theorem oneL:∀ x∈[m0,m1,bs,sv,tv,fv],oneV x:=fun x hx=>by
 simp only [List.mem_cons,List.not_mem_nil,or_false] at hx
 rcases hx with rfl | rfl | rfl | rfl | rfl | rfl <;> assumption
theorem finJ {j:Nat} (hj:j=0∨j=1∨j=2∨j=4∨j=5) {rest:Code} (hrest:(j<2∧rest=tailM)∨(2≤j∧rest=restM)) (hm:how.tmod 6=(j:Int)) {z:Int} (hz:0≤z∧z≤40) (hp:PairQ M [m0,m1,bs,sv,tv,cond (Nat.beq j 2) (strV bad1) fv] z) :
  rest.wp Tryz.prog (bodyPost Tryz.prog Tryz.f4 (LawP w)) a w1:=by
 have h1:=oneL hg hh o0 o1 o2 o3 o4 o5 hon ts t2 t7 hdf hb7 z7 hgr hfr q7
 have v:∀ {z:Int} (E:Env),StatOk (baseTm M [m0,m1,bs,sv,tv,fv] .nilFunc z how j { blk:=0,size:=0,unit:=0 }) E→VRL E modelV [m0,m1,bs,sv,tv,fv]:=fun E hE=>by
  have v:∀ {k:Nat} {y:Value},k<6→([m0,m1,bs,sv,tv,fv]:List Value)[k]? = some y→VR E (syC k) y:=fun hk hy=>vTm hE hk hy
  exact VRL.cons (v (by omega) rfl) (VRL.cons (v (by omega) rfl) (VRL.cons (v (by omega) rfl) (VRL.cons (v (by omega) rfl) (VRL.cons (v (by omega) rfl) (VRL.cons (v (by omega) rfl) VRL.nil)))))
 have hcb:∀ {z:Int} (E:Env),StatOk (baseTm M [m0,m1,bs,sv,tv,fv] .nilFunc z how j { blk:=0,size:=0,unit:=0 }) E→VRL E (cellsB j 0) [m0,m1,bs,sv,tv,fv]:=fun E hE=>by
  rcases hj with rfl | rfl | rfl | rfl | rfl <;> exact v E hE
 have hce:∀ {z:Int} (E:Env),StatOk (baseTm M [m0,m1,bs,sv,tv,fv] .nilFunc z how j { blk:=0,size:=0,unit:=0 }) E→VRL E (cellsE j 0) [m0,m1,bs,sv,tv,cond (Nat.beq j 2) (strV bad1) fv]:=fun E hE=>by
  rcases hj with rfl | rfl | rfl | rfl | rfl
  ·exact v E hE
  ·exact v E hE
  ·exact ((v E hE).take 5).append (VRL.cons rfl VRL.nil)
  ·exact v E hE
  ·exact v E hE
 have hgl:∀ {z:Int},∀ n cs,(glTm j).get n=some cs→Lies (baseTm M [m0,m1,bs,sv,tv,fv] .nilFunc z how j { blk:=0,size:=0,unit:=0 }) n cs:=fun n cs h=>by
  have e:glTm j = .e:=by rcases hj with rfl | rfl | rfl | rfl | rfl <;> rfl
  rw [e,T.get_e] at h; cases h
 have run:∀ ok,runTm rest j 0 ok=true:=fun ok=>by
  rcases hrest with⟨h0,rfl⟩ | ⟨h0,rfl⟩
  ·have:j=0∨j=1:=by omega
   rcases this with rfl | rfl
   ·exact allB_ok runTm0 ok
   ·exact allB_ok runTm1 ok
  ·refine allB_ok (List.all_eq_true.1 runTm2 j ?_) ok
   simp only [List.mem_cons,List.not_mem_nil,or_false]
   omega
 have hdst:dstOk 119 rest=true:=by rcases hrest with⟨_,rfl⟩ | ⟨_,rfl⟩; exact tailM_dst; exact restM_dst
 by_cases h0:z=0
 ·subst h0
  exact tailM_run hg rfl h1 (zv:=.nilFunc) trivial (z:=1) ⟨by omega,by omega⟩ hh hon ts t2 t7 hdf hb7 z7 hgr hfr q7 hdst (ok:=true) hcb hce hgl hp (run true) hm
 ·exact tailM_run hg rfl h1 (zv:=.nilFunc) trivial (z:=z) ⟨by omega,hz.2⟩ hh hon ts t2 t7 hdf hb7 z7 hgr hfr q7 hdst (ok:=false) hcb hce hgl hp (run false) hm
theorem fin3 {np:Nat} (hn:np∈[3,4,5,6]) {zz:Nat→Int} (ht:TerrRaw M np zz tv) (hm:how.tmod 6=3) {z:Int} (hz:0≤z∧z≤40) (hp:PairQ M [m0,m1,bs,sv,tv,qV (zz 0) 2] z) :
  restM.wp Tryz.prog (bodyPost Tryz.prog Tryz.f4 (LawP w)) a w1:=by
 have h1:=oneL hg hh o0 o1 o2 o3 o4 o5 hon ts t2 t7 hdf hb7 z7 hgr hfr q7
 have hn3:3≤np:=by simp only [List.mem_cons,List.not_mem_nil,or_false] at hn; omega
 obtain⟨b,c,rfl,hc,hf,rc,t,fr,rest,g1,g2⟩:=ht
 let i34:Info:={ blk:=b,size:=c,unit:=1 }
 have v:∀ {z:Int} (E:Env),StatOk (baseTm M [m0,m1,bs,sv,slV b np c,fv] (qV (zz 0) 2) z how 3 i34) E → ∀ {k:Nat} {y:Value},k<6→([m0,m1,bs,sv,slV b np c,fv]:List Value)[k]? = some y→VR E (syC k) y:=fun E hE k y hk hy=>vTm hE hk hy
 have vt:∀ {z:Int} (E:Env),StatOk (baseTm M [m0,m1,bs,sv,slV b np c,fv] (qV (zz 0) 2) z how 3 i34) E→VR E (tvE np) (slV b np c):=fun E hE=>⟨i34,hE.stat 34 (by omega) (by omega),by
  show slV b np c = .slice (some ⟨b,0,none⟩) np (capOf { blk:=b,size:=c,unit:=1 } 0 (2*np+1))
  unfold capOf slV
  rw [if_neg (by omega)]
  simp only [Nat.sub_zero,Nat.div_one]
  congr 1
  omega⟩
 have v8:∀ {z:Int} (E:Env),StatOk (baseTm M [m0,m1,bs,sv,slV b np c,fv] (qV (zz 0) 2) z how 3 i34) E→VR E (syC 8) (qV (zz 0) 2):=fun E hE=>by
  show _=E.sym 8
  rw [hE.sym,symTm_v rfl]
 have hcb:∀ {z:Int} (E:Env),StatOk (baseTm M [m0,m1,bs,sv,slV b np c,fv] (qV (zz 0) 2) z how 3 i34) E→VRL E (cellsB 3 np) [m0,m1,bs,sv,slV b np c,fv]:=fun E hE=>
  VRL.cons (v E hE (by omega) rfl) (VRL.cons (v E hE (by omega) rfl) (VRL.cons (v E hE (by omega) rfl) (VRL.cons (v E hE (by omega) rfl) (VRL.cons (vt E hE) (VRL.cons (v E hE (by omega) rfl) VRL.nil)))))
 have hce:∀ {z:Int} (E:Env),StatOk (baseTm M [m0,m1,bs,sv,slV b np c,fv] (qV (zz 0) 2) z how 3 i34) E→VRL E (cellsE 3 np) [m0,m1,bs,sv,slV b np c,qV (zz 0) 2]:=fun E hE=>
  VRL.cons (v E hE (by omega) rfl) (VRL.cons (v E hE (by omega) rfl) (VRL.cons (v E hE (by omega) rfl) (VRL.cons (v E hE (by omega) rfl) (VRL.cons (vt E hE) (VRL.cons (v8 E hE) VRL.nil)))))
 have hgl:∀ {z:Int},∀ n cs,(glTm 3).get n=some cs→Lies (baseTm M [m0,m1,bs,sv,slV b np c,fv] (qV (zz 0) 2) z how 3 i34) n cs:=fun n cs h=>by
  have h:(tmk [(34,[syC 8])]:T (List V)).get n=some cs:=h
  cases List.mem_singleton.1 (tmk_mem h)
  obtain⟨m,rfl⟩:∃ m,np=m+1:=⟨np-1,by omega⟩
  have hsp:htsR (m+1) zz=qV (zz 0) 2::((List.range m).map fun i=>strV (canon ((zz (i+1):Rat)/((2:Int):Rat)))):=by
   simp only [htsR,List.range_succ_eq_map,List.map_cons,List.map_map]
   rfl
  exact⟨by omega,by omega,(Array.getElem?_eq_some_iff.1 g1).1,hf,rc,t,fr,g1,fun E hE=>⟨[qV (zz 0) 2],((List.range m).map fun i=>strV (canon ((zz (i+1):Rat)/((2:Int):Rat))))++rest,VRL.cons (v8 E hE) VRL.nil,by rw [g2,hsp]; rfl⟩⟩
 have run:=fun ok=>allB_ok (List.all_eq_true.1 runTm3 np hn) ok
 by_cases h0:z=0
 ·subst h0
  exact tailM_run hg rfl h1 (zv:=qV (zz 0) 2) trivial (z:=1) ⟨by omega,by omega⟩ hh hon ts t2 t7 hdf hb7 z7 hgr hfr q7 restM_dst (np:=np) (ok:=true) hcb hce hgl hp (run true) hm
 ·exact tailM_run hg rfl h1 (zv:=qV (zz 0) 2) trivial (z:=z) ⟨by omega,hz.2⟩ hh hon ts t2 t7 hdf hb7 z7 hgr hfr q7 restM_dst (np:=np) (ok:=false) hcb hce hgl hp (run false) hm
end
set_option maxHeartbeats 1000000 in
theorem law_true {W:World} (hg:Good ⟨W.heap,fun _=>True⟩) {k s0 s1:Int} (hk:0≤k∧k≤255) (hs0 : -128≤s0∧s0≤127) (hs1 : -128≤s1∧s1≤127) {hf half:Bool} {ds:Value} {hv:Nat→Int} (hh:HeightsOk hv) {dds:List (Nat→Int)}
  (hds:DeedsRaw ⟨W.heap,fun _=>True⟩ ds dds) (hdd:∀ dd∈dds,DeedOk dd) {dn:Int} (hdn:0≤dn∧dn≤255) {kx at_ how:Int} (hkx:0≤kx∧kx≤255) (hat:0≤at_∧at_≤255) (hhow:0≤how∧how≤255) :
  Calls Tryz.prog 4 #[planQ k s0 s1 hf half ds hv dn,slipR kx at_,.int .u8 how] W (LawP W):=by
 have hon:(⟨W.heap,fun _=>True⟩:Mem).On W:=Mem.On.self W _
 have hkn:=known_calls hg
 obtain⟨db,dcap,rfl,hcap,_⟩:=id hds
 have hfit:=fun w=>fitsQ_walk (k:=k) (s0:=s0) (s1:=s1) (hf:=hf) (half:=half) (b:=db) (n:=dds.length) (c:=dcap) (hv:=hv) (dn:=dn) w
 by_cases hn:dds.length≤2
 ·rw [decide_eq_true (by omega)] at hfit
  obtain⟨K,hK,eK⟩:=tmod_nat (z:=k) (n:=8) (by omega) hk.1
  obtain⟨t,ht⟩:=mesh_all hK hf
  obtain⟨dl,hdl⟩:=dealt ht.np hdd (by omega)
  have t8:∀ z:Int,-7≤z.tmod 8∧z.tmod 8≤7:=fun z=>tmod_rg (z:=z) (n:=8) (by omega)
  have hX:∀ m0 m1 M M',M.Le M'→t.X (s0.tmod 8) (s1.tmod 8) m0 m1 M→t.X (s0.tmod 8) (s1.tmod 8) m0 m1 M':=fun _ _ _ _ hle h=>MeshRaw.le hle h
  have h30:∀ w,(⟨W.heap,fun _=>True⟩:Mem).On w→Calls Tryz.prog 18 #[.agg #[.int .u8 k,.int .i8 s0,.int .i8 s1,.bool hf,.slice db dds.length dcap]] w (RetM ⟨W.heap,fun _=>True⟩ w (Post30N t.pts.length t.nt dl.length (t.X (s0.tmod 8) (s1.tmod 8)))):=fun w hw=>
   make30N hg hX hw (fun w hw=>ht.mesh hg hk hs0 hs1 eK hw) hdl.few hdl.idx hdl.shp hdl.hox hdl.len hdl.kin hds hdl.run
  have hnp:=good_mem ht.np
  have hdn6:0≤dn.tmod 6∧dn.tmod 6≤5:=tmod_rn (n:=6) (by omega) hdn.1
  let PQ:Nat→Nat→Nat→Nat→Value→Value→ByteArray→Mem→Prop:=fun b0 c0 b1 c1 sv tv g0 M'=>CallOk Tryz.prog M' 52 [.agg #[slV b0 t.pts.length c0,slV b1 t.nt c1]] (.int .i64 0)∧t.X (s0.tmod 8) (s1.tmod 8) (slV b0 t.pts.length c0) (slV b1 t.nt c1) M' ∧
   HistR M' (slV b0 t.pts.length c0) (slV b1 t.nt c1) sv∧TerrRaw M' t.pts.length (zT half hv) tv ∧ ∃ fl:Int,(-60≤fl∧fl≤60) ∧ .string g0=qV fl 2
  have hm:∀ w,(⟨W.heap,fun _=>True⟩:Mem).On w→Calls Tryz.prog 7 #[planQ k s0 s1 hf half (.slice db dds.length dcap) hv dn] w (RetM ⟨W.heap,fun _=>True⟩ w fun y M' => ∃ b0 c0 b1 c1 sva svn svc tva tvn tvc g0,
    y = .agg #[.slice (some ⟨b0,0,none⟩) t.pts.length c0,.slice (some ⟨b1,0,none⟩) t.nt c1,.string ⟨#[98,97,115,101]⟩,.slice sva svn svc,.slice tva tvn tvc,.string g0]∧PQ b0 c0 b1 c1 (.slice sva svn svc) (.slice tva tvn tvc) g0 M'):=fun w hw=>
   Calls.mono (make53 hg hnp hX (show oneV (.slice db dds.length dcap) from trivial) hh hdn hw h30) fun e w' h=>retM_mono (fun y M' h=>by
    obtain⟨b0,c0,b1,c1,sv,tv,l,rfl,⟨sva,svc,rfl⟩,h1,h2,h3,h4,h5,h6⟩:=h
    obtain⟨b2,c2,e2,h4'⟩:=id h4
    subst e2
    have hzl:=zT_bd (half:=half) (hv:=hv) l
    exact⟨b0,c0,b1,c1,sva,_,svc,_,_,_,_,rfl,h1,h2,h3,h4,_,by omega,rfl⟩) h
  obtain⟨j,hj6,ej⟩:=tmod_nat (z:=how) (n:=6) (by omega) hhow.1
  have hz:∀ i,i<6 → -38≤zT half hv i∧zT half hv i≤38:=fun i _=>zT_bd i
  by_cases j0:j=0
  ·subst j0
   refine calls_of_wp Tryz.func4 (body_eq.trans (by rw [rest_eq])) ?_
   refine zero_wpQ hon hkn hfit ej (PQ:=PQ) (PC:=fun b0 c0 b1 c1 m1' bs' sv' tv g0 M' => ∃ h:Int,(0≤h∧h≤40)∧CallOk Tryz.prog M' 27 [.agg #[slV b0 t.pts.length c0,m1',bs',sv']] (.int .i64 h)∧(h=0→m1'=slV b1 t.nt c1) ∧
    CallOk Tryz.prog M' 52 [.agg #[slV b0 t.pts.length c0,slV b1 t.nt c1]] (.int .i64 0)∧TerrRaw M' t.pts.length (zT half hv) tv ∧ ∃ fl:Int,(-60≤fl∧fl≤60) ∧ .string g0=qV fl 2)
    hm (fun M1 b0 c0 b1 c1 sv tv g0 w hle hon hpq => ?_) (QQ:=bodyPost Tryz.prog Tryz.f4 (LawP W)) ?_
   ·obtain⟨hck,hx,hhist,hterr,hfl⟩:=hpq
    have e1:=raw_nt hx
    subst e1
    refine Calls.mono (chg_hist (hg.le hle) ht.nt hck hhist (ht.cut (hg.le hle) (t8 s0) (t8 s1) hx) hkx hat hon) ?_
    rintro e w' ⟨y,M',rfl,g1,g2,g3,g4,g5,m1',bs',sv',rfl,⟨ma,mn,mc,rfl⟩,⟨bt,rfl⟩,⟨ea,en,ec,rfl⟩,h,hr,hH,heq⟩
    exact⟨_,M',rfl,g1,g2,g3,g4,g5,ma,mn,mc,bt,ea,en,ec,rfl,h,hr,hH,heq,hck.le g4,hterr.le g4,hfl⟩
   ·rintro M' b0 c0 b1 c1 ma mn mc bt ea en ec tva tvn tvc g0 p7 ac w' hw' ts t2 t7 hdf h7 z7 q7 ⟨h,hr,hH,heq,hck,hterr,fl,hfl,efl⟩
    by_cases h0:h=0
    ·subst h0
     have e1:=heq rfl
     rw [e1] at h7 hH
     obtain⟨e,he,hp⟩:=pair_right (hg.le hw'.le) hnp hz ⟨_,_,rfl⟩ (show oneV (slV b1 t.nt c1) from trivial) (show oneV (.string bt) from trivial) (show oneV (.slice ea en ec) from trivial) hck hH hterr hfl
     rw [← efl] at hp
     exact finJ (hg.le hw'.le) hhow (by exact trivial) (by exact trivial) (by exact trivial) (by exact trivial) (by exact trivial) (by exact trivial) hw'.on ts t2 t7 hdf h7 z7 hw'.grew hw'.old q7 (j:=0) (.inl rfl) (.inl ⟨by omega,rfl⟩) ej he hp
    ·have hp:PairQ M' [slV b0 t.pts.length c0,.slice ma mn mc,.string bt,.slice ea en ec,.slice tva tvn tvc,.string g0] h:=pair_hist (hg.le hw'.le) rfl (fun x hx=>by
      simp only [List.mem_cons,List.not_mem_nil,or_false] at hx
      rcases hx with rfl | rfl | rfl | rfl | rfl | rfl <;> trivial) ⟨by omega,hr.2⟩ hH
     exact finJ (hg.le hw'.le) hhow (by exact trivial) (by exact trivial) (by exact trivial) (by exact trivial) (by exact trivial) (by exact trivial) hw'.on ts t2 t7 hdf h7 z7 hw'.grew hw'.old q7 (j:=0) (.inl rfl) (.inl ⟨by omega,rfl⟩) ej hr hp
  ·by_cases j1:j=1
   ·subst j1
    refine calls_of_wp Tryz.func4 (body_eq.trans (by rw [rest_eq])) ?_
    refine one_wpQ hon hkn hfit ej (PQ:=PQ) (fun w hw=>Calls.mono (hm w hw) fun e w' h=>retM_mono (fun y M' h=>by
     obtain⟨b0,c0,b1,c1,sva,svn,svc,tva,tvn,tvc,g0,rfl,hpq⟩:=h
     obtain⟨b2,c2,e2,hc2,_⟩:=id hpq.2.2.2.1
     unfold slV at e2
     obtain⟨eb,en,ec⟩:=Value.slice.inj e2
     subst eb
     have hnp3:3≤t.pts.length:=by simp only [List.mem_cons,List.not_mem_nil,or_false] at hnp; omega
     exact⟨b0,c0,b1,c1,sva,svn,svc,b2,tvn,tvc,g0,rfl,⟨by omega,by omega⟩,hpq⟩) h) (QQ:=bodyPost Tryz.prog Tryz.f4 (LawP W)) ?_
    rintro M' b0 c0 b1 c1 sva svn svc b2 n2 c2 g0 p7 ac w' hw' ts t2 t7 hdf h7 z7 q7 ⟨hck,hx,hhist,hterr,hfl⟩
    have hn2:n2=t.pts.length:=by
     obtain⟨b2',c2',e2,_⟩:=id hterr
     unfold slV at e2
     cases e2; rfl
    subst hn2
    have hf2:=field_2 (hg.le hw'.le) hnp hz (tv:=.slice (some ⟨b2,1,none⟩) (t.pts.length-1) (c2-1)) ⟨_,_,rfl⟩ (show oneV (slV b1 t.nt c1) from trivial) hck ⟨_,_,rfl⟩
    have hp:PairQ M' [slV b0 t.pts.length c0,slV b1 t.nt c1,strB baseB,.slice sva svn svc,.slice (some ⟨b2,1,none⟩) (t.pts.length-1) (c2-1),.string g0] 5:=pair_field (hg.le hw'.le) rfl (fun x hx=>by
     simp only [List.mem_cons,List.not_mem_nil,or_false] at hx
     rcases hx with rfl | rfl | rfl | rfl | rfl | rfl <;> trivial) ⟨by omega,by omega⟩ hhist.chk rfl hf2
    exact finJ (hg.le hw'.le) hhow (by exact trivial) (by exact trivial) (by exact trivial) (by exact trivial) (by exact trivial) (by exact trivial) hw'.on ts t2 t7 hdf h7 z7 hw'.grew hw'.old q7 (j:=1) (.inr (.inl rfl)) (.inl ⟨by omega,rfl⟩) ej ⟨by omega,by omega⟩ hp
   ·refine calls_of_wp Tryz.func4 body_eq ?_
    refine few_wpQ hon hkn hfit (PQ:=PQ) hm (QQ:=bodyPost Tryz.prog Tryz.f4 (LawP W)) ?_
    rintro M' b0 c0 b1 c1 sva svn svc tva tvn tvc g0 p7 ac w' hw' ts t2 t7 hdf h7 z7 q7 ⟨hck,hx,hhist,hterr,fl,hfl,efl⟩
    have hg':=hg.le hw'.le
    have hright:=fun {f:Int} (hf : -60≤f∧f≤60)=>pair_right hg' hnp hz (m0:=slV b0 t.pts.length c0) ⟨_,_,rfl⟩ (show oneV (slV b1 t.nt c1) from trivial) (show oneV (strB baseB) from trivial) (show oneV (.slice sva svn svc) from trivial) hck hhist.chk hterr hf
    have fin:∀ z:Int,(0≤z∧z≤40)→PairQ M' [slV b0 t.pts.length c0,slV b1 t.nt c1,strB baseB,.slice sva svn svc,.slice tva tvn tvc,cond (Nat.beq j 2) (strV bad1) (.string g0)] z→j≠3→restM.wp Tryz.prog (bodyPost Tryz.prog Tryz.f4 (LawP W)) ac w':=fun z hz hp j3=>
     finJ hg' hhow (by exact trivial) (by exact trivial) (by exact trivial) (by exact trivial) (by exact trivial) (by exact trivial) hw'.on ts t2 t7 hdf h7 z7 hw'.grew hw'.old q7 (j:=j) (by omega) (.inr ⟨by omega,rfl⟩) ej hz hp
    have:j=2∨j=3∨j=4∨j=5:=by omega
    rcases this with rfl | rfl | rfl | rfl
    ·have hfield:=field_0 hg' hnp hz (m0:=slV b0 t.pts.length c0) ⟨_,_,rfl⟩ (show oneV (slV b1 t.nt c1) from trivial) hck hterr.texts
     exact fin 2 (by omega) (pair_bad hg' (by exact trivial) (by exact trivial) (by exact trivial) (by exact trivial) (by exact trivial) hhist.chk hfield) (by decide)
    ·obtain⟨e,he,hp⟩:=hright (f:=zT half hv 0) (by have:=zT_bd (half:=half) (hv:=hv) 0; omega)
     exact fin3 hg' hhow (by exact trivial) (by exact trivial) (by exact trivial) (by exact trivial) (by exact trivial) (by exact trivial) hw'.on ts t2 t7 hdf h7 z7 hw'.grew hw'.old q7 hnp hterr ej he hp
    ·obtain⟨e,he,hp⟩:=hright hfl
     rw [← efl] at hp
     exact fin e he hp (by decide)
    ·obtain⟨e,he,hp⟩:=hright hfl
     rw [← efl] at hp
     exact fin e he hp (by decide)
 ·rw [decide_eq_false (by omega)] at hfit
  refine calls_of_wp Tryz.func4 body_eq ?_
  exact many_wpQ hon hkn hfit _
end Go.Proofs.YtkjinnjopoehhaaGreatDoor
