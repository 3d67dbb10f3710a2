/-
  klippelaw37.SectionChecks at any plan and any change: true.
-/
import Derived.Test.YtogialghppmdfaaGreatDoorEvMemo
import Derived.WalkKit
import Derived.Lib.Hide
import Derived.Test.YtogialghppmdfaaGreatDoorTailM
import Derived.Test.YtogialghppmdfaaGreatDoorAllG
import Derived.Test.YtogialghppmdfaaGreatDoorEvKnownA
set_option linter.unusedSectionVars false
set_option linter.unusedVariables false
set_option linter.unusedSimpArgs false
namespace Go.Proofs.YtogialghppmdfaaGreatDoor
open Go.RowKit Go Ev
theorem heap_alloc (w:World) (o:Obj):(w.alloc o).heap=w.heap.push o:=rfl
theorem on_alloc {M:Mem} {w:World} (h:M.On w) (o:Obj):M.On (w.alloc o):=by
 refine⟨?_,fun b hb hz => ?_⟩
 ·rw [heap_alloc,Array.size_push]; exact Nat.le_succ_of_le h.size
 ·have:b<w.heap.size:=Nat.lt_of_lt_of_le hb h.size
  rw [← h.same b hb hz]
  rw [heap_alloc,Array.getElem?_push,if_neg (Nat.ne_of_lt this)]
def QuietP (v:Value) (w:World) (e:Ending) (w':World):Prop:=e = .returned v∧Grew w w' ∧ ∀ b,b<w.heap.size→w'.heap[b]? = w.heap[b]?
theorem grew_alloc (w:World) (o:Obj):Grew w (w.alloc o):=⟨rfl,rfl,rfl,by rw [heap_alloc,Array.size_push]; omega⟩
theorem same_alloc (w:World) (o:Obj):∀ b,b<w.heap.size→(w.alloc o).heap[b]? = w.heap[b]? := fun b hb=>by rw [heap_alloc,Array.getElem?_push,if_neg (Nat.ne_of_lt hb)]
theorem new_alloc (w:World) (o:Obj):(w.alloc o).heap[w.heap.size]? = some o:=by rw [heap_alloc,Array.getElem?_push,if_pos rfl]
theorem size_alloc (w:World) (o:Obj):(w.alloc o).heap.size=w.heap.size+1:=by rw [heap_alloc,Array.size_push]
theorem set_other (w:World) (a:Addr) (v:Value) (b:Nat) (h:b≠a.block):(w.setCell a v).heap[b]? = w.heap[b]? := by
 unfold World.setCell
 simp only [Array.getElem?_modify]
 rw [if_neg (Ne.symm h)]
theorem set_far (w:World) (p off:Nat) (v:Value) (b:Nat) (h:b≠p):(w.setCell ⟨p,off,none⟩ v).heap[b]? = w.heap[b]? := set_other w _ v b h
theorem set_size (w:World) (a:Addr) (v:Value):(w.setCell a v).heap.size=w.heap.size:=by
 unfold World.setCell
 simp
theorem setc_same (w:World) (b off:Nat) (v:Value) {cs:Array Value} {t:Nat} {fr:Nat × Nat} (h:w.heap[b]? = some (.cells cs t fr)):(w.setCell ⟨b,off,none⟩ v).heap[b]? = some (.cells (cs.setIfInBounds off v) t fr):=by
 unfold World.setCell
 simp only [Array.getElem?_modify]
 rw [if_pos trivial,h]
 rfl
theorem grew_set (w:World) (a:Addr) (v:Value):Grew w (w.setCell a v):=⟨rfl,rfl,rfl,Nat.le_of_eq (set_size w a v).symm⟩
theorem frozen_of {w:World} {b t j:Nat} {cs:Array Value} (h:w.heap[b]? = some (.cells cs t (0,0))):w.frozen? ⟨b,j,none⟩=false:=by unfold World.frozen?; simp only [h]; rfl
structure Went (M:Mem) (w:World) (M1:Mem) (w1:World):Prop where
 on:M1.On w1
 le:M.Le M1
 grew:Grew w w1
 old:∀ b,b<w.heap.size→w1.heap[b]? = w.heap[b]?
 frz:∀ b,b<M1.heap.size→M1.frz b→(b<M.heap.size∧M.frz b)∨w.heap.size≤b
theorem grew_refl (w:World):Grew w w:=⟨rfl,rfl,rfl,Nat.le_refl _⟩
theorem Went.refl {M:Mem} {w:World} (h:M.On w):Went M w M w:=⟨h,Mem.Le.refl _,grew_refl w,fun _ _=>rfl,fun b hb hz=>.inl ⟨hb,hz⟩⟩
theorem Went.lt {M M1:Mem} {w w1:World} (h:Went M w M1 w1):w.heap.size≤w1.heap.size:=h.grew.size
theorem Went.alloc {M M1:Mem} {w w1:World} (h:Went M w M1 w1) (o:Obj):Went M w M1 (w1.alloc o):=
 ⟨on_alloc h.on o,h.le,h.grew.trans (grew_alloc _ _),fun b hb=>by rw [same_alloc _ _ b (Nat.lt_of_lt_of_le hb h.lt),h.old b hb],h.frz⟩
theorem Went.drew {M M1:Mem} {w w1:World} (h:Went M w M1 w1):Went M w M1 w1.drew:=⟨⟨h.on.size,h.on.same⟩,h.le,⟨h.grew.tape,h.grew.os,h.grew.output,h.grew.size⟩,h.old,h.frz⟩
theorem Went.set {M M1:Mem} {w w1:World} (h:Went M w M1 w1) {p off:Nat} (v:Value) (hp:w.heap.size≤p) (hz:¬ (p<M1.heap.size∧M1.frz p)):Went M w M1 (w1.setCell ⟨p,off,none⟩ v):=by
 refine⟨⟨by rw [set_size]; exact h.on.size,fun b hb hf => ?_⟩,h.le,h.grew.trans (grew_set _ _ _),fun b hb => ?_,h.frz⟩
 ·rw [set_other _ _ _ _ (show b≠p from fun e=>hz (e ▸ ⟨hb,hf⟩)),h.on.same b hb hf]
 ·rw [set_other _ _ _ _ (show b≠p from by omega),h.old b hb]
theorem Went.quiet {M M1:Mem} {w w1 w2:World} (h:Went M w M1 w1) (hg:Grew w1 w2) (hs:∀ b,b<w1.heap.size→w2.heap[b]? = w1.heap[b]?):Went M w M1 w2:=
 ⟨⟨Nat.le_trans h.on.size hg.size,fun b hb hz=>by rw [hs b (Nat.lt_of_lt_of_le hb h.on.size),h.on.same b hb hz]⟩,h.le,h.grew.trans hg,fun b hb=>by rw [hs b (Nat.lt_of_lt_of_le hb h.lt),h.old b hb],h.frz⟩
theorem Went.ret {M M1 M2:Mem} {w w1 w2:World} (h:Went M w M1 w1) (hg:Grew w1 w2) (hs:∀ b,b<w1.heap.size→w2.heap[b]? = w1.heap[b]?) (hh:M2.heap=w2.heap) (hl:M1.Le M2)
  (hz:∀ b,M2.frz b→(b<M1.heap.size∧M1.frz b)∨(w1.heap.size≤b∧b<w2.heap.size)):Went M w M2 w2:=
 ⟨⟨Nat.le_of_eq (by rw [hh]),fun b _ _=>by rw [hh]⟩,h.le.trans hl,h.grew.trans hg,fun b hb=>by rw [hs b (Nat.lt_of_lt_of_le hb h.lt),h.old b hb],fun b hb hf=>by
  rcases hz b hf with⟨h1,h2⟩ | ⟨h1,_⟩
  ·exact h.frz b h1 h2
  ·exact .inr (Nat.le_trans h.lt h1)⟩
theorem on_heap {M:Mem} {w w':World} (h:M.On w) (e:w'.heap=w.heap):M.On w':=⟨by rw [e]; exact h.size,fun b hb hz=>by rw [e]; exact h.same b hb hz⟩
theorem ret_of {M M1 M2:Mem} {w w1 w1' w2:World} (hg:Grew w1' w2) (hs:∀ b,b<w1'.heap.size→w2.heap[b]? = w1'.heap[b]?) (hh:M2.heap=w2.heap) (hl:M1.Le M2)
  (hz:∀ b,M2.frz b→(b<M1.heap.size∧M1.frz b)∨(w1'.heap.size≤b∧b<w2.heap.size)) (h:Went M w M1 w1) (e1:w1'.heap=w1.heap) (e2:w1'.tape=w1.tape) (e3:w1'.os=w1.os) (e4:w1'.output=w1.output):Went M w M2 w2:=
 h.ret ⟨hg.tape.trans e2,hg.os.trans e3,hg.output.trans e4,by rw [← e1]; exact hg.size⟩ (by rw [← e1]; exact hs) hh hl (by rw [← e1]; exact hz)
theorem quiet_of {M M1:Mem} {w w1 w1' w2:World} (hg:Grew w1' w2) (hs:∀ b,b<w1'.heap.size→w2.heap[b]? = w1'.heap[b]?) (h:Went M w M1 w1) (e1:w1'.heap=w1.heap) (e2:w1'.tape=w1.tape) (e3:w1'.os=w1.os) (e4:w1'.output=w1.output):Went M w M1 w2:=
 h.quiet ⟨hg.tape.trans e2,hg.os.trans e3,hg.output.trans e4,by rw [← e1]; exact hg.size⟩ (by rw [← e1]; exact hs)
theorem own_ret {M1 M2:Mem} {w1 w2:World} {p:Nat} (hp:p<w1.heap.size) (hn:¬ (p<M1.heap.size∧M1.frz p)) (hz:∀ b,M2.frz b→(b<M1.heap.size∧M1.frz b)∨(w1.heap.size≤b∧b<w2.heap.size)):¬ (p<M2.heap.size∧M2.frz p):=fun⟨_,h⟩=>by
 rcases hz p h with h | ⟨h,_⟩
 ·exact hn h
 ·omega
theorem Went.own {M M1:Mem} {w w1:World} (h:Went M w M1 w1) {p:Nat} (hp:w1.heap.size≤p):¬ (p<M1.heap.size∧M1.frz p):=fun⟨h1,_⟩=>by
 have:=h.on.size
 omega
theorem Went.retM {M M1:Mem} {w w1:World} (h:Went M w M1 w1) {y:Value} {Q:Value→Mem→Prop} (hQ:∀ M',M1.Le M'→Q y M'):RetM M w Q (.returned y) w1:=by
 have hle:M1.Le ⟨w1.heap,fun b=>b<M1.heap.size∧M1.frz b⟩:=⟨h.on.size,fun b hb hz=>⟨⟨hb,hz⟩,h.on.same b hb hz⟩⟩
 refine⟨y,⟨w1.heap,fun b=>b<M1.heap.size∧M1.frz b⟩,rfl,h.grew,h.old,rfl,h.le.trans hle,fun b hb => ?_,hQ _ hle⟩
 rcases h.frz b hb.1 hb.2 with h' | h'
 ·exact .inl h'
 ·exact .inr ⟨h',Nat.lt_of_lt_of_le hb.1 h.on.size⟩
def slipR (kx at_:Int):Value:=.agg #[.int .u8 kx,.int .u8 at_]
theorem two_old (w:World) (o o':Obj) (b:Nat) (hb:b<w.heap.size):((w.alloc o).alloc o').heap[b]? = w.heap[b]? := by
 rw [same_alloc _ _ b (by rw [size_alloc]; omega),same_alloc _ _ b hb]
theorem two_0 (w:World) (o o':Obj):((w.alloc o).alloc o').heap[w.heap.size]? = some o:=by
 rw [same_alloc _ _ _ (by rw [size_alloc]; omega),new_alloc]
theorem two_1 (w:World) (o o':Obj):((w.alloc o).alloc o').heap[w.heap.size+1]? = some o':=by
 rw [← size_alloc w o,new_alloc]
theorem two_size (w:World) (o o':Obj):((w.alloc o).alloc o').heap.size=w.heap.size+2:=by
 rw [size_alloc,size_alloc]
theorem quiet_old {w1 w2:World} (hs:∀ b,b<w1.heap.size→w2.heap[b]? = w1.heap[b]?) {b:Nat} {o:Obj} (h:w1.heap[b]? = some o):w2.heap[b]? = some o:=(hs b (Array.getElem?_eq_some_iff.1 h).1).trans h
theorem box2 {w:World} {b t:Nat} {x0 x1:Value} (h:w.heap[b]? = some (.cells #[x0,x1] t (0,0))):w.cell? ⟨b,0,none⟩=some x0∧w.cell? ⟨b,1,none⟩=some x1:=by
 refine⟨?_,?_⟩ <;> (unfold World.cell?; simp only [h]; rfl)
theorem wl_load {P:Program} {ops:Array Oper} {Q:Exit→Act→World→Prop} {a:Act} {w:World} {rest:List Oper} {o:Oper} {t k:Nat} {ad:Addr} {v:Value} (h:o.op = .load t (.tmp k)) (hw:Region.wanted o (yielded ops a.tmps)=true)
  (ha:a.eval (.tmp k) = .pointer (some ad)) (hl:(loadVar t ad).run P w = .ok v w) (hk:wpList P ops Q rest (a.put o.dst v) w):wpList P ops Q (o::rest) a w:=by
 refine Go.BigFrame.wpList_want hw fun K hK => ?_
 unfold Oper.wp execOp
 rw [h]
 simp only [ha,Instr.loadAt,Instr.sureAddr,Sem.run_bind,Sem.run_pure,Result.andThen_ok,hl]
 exact hK _ _ hk
theorem plan_load {w:World} {b t:Nat} {l:List Value} (hl:l.length=18) (h:w.heap[b]? = some (.cells l.toArray t (0,0))):(loadVar 34 ⟨b,0,none⟩).run Tryz.prog w = .ok (.agg l.toArray) w:=by
 have hT:=(tabOk:TabOk tb0 Tryz.prog)
 have ha:=isAgg_run hT (t:=34) (b:=true) (by decide) w
 have hs:=size_run hT (t:=34) (n:=18) (by decide) w
 have hld:=run_loadCells_list (P:=Tryz.prog) w ⟨b,0,none⟩ l (fun j y hj=>by
  rw [add_off,cell_of h,Nat.zero_add]
  simpa using hj)
 rw [hl] at hld
 simp [loadVar,ha,hs,hld]
theorem box11z {w:World} {b t:Nat} {x0 x1 x2 x3 x4 x5 x6 x7 x8 x9 x10:Value} (h:w.heap[b]? = some (.cells #[x0,x1,x2,x3,x4,x5,x6,x7,x8,x9,x10] t (0,0))) :
  (w.cell? ⟨b,0,none⟩=some x0∧w.cell? ⟨b,1,none⟩=some x1∧w.cell? ⟨b,2,none⟩=some x2∧w.cell? ⟨b,3,none⟩=some x3)∧w.frozen? ⟨b,0,none⟩=false∧w.frozen? ⟨b,1,none⟩=false∧w.frozen? ⟨b,2,none⟩=false∧w.frozen? ⟨b,3,none⟩=false:=by
 refine⟨⟨?_,?_,?_,?_⟩,?_,?_,?_,?_⟩
 ·unfold World.cell?; simp only [h]; rfl
 ·unfold World.cell?; simp only [h]; rfl
 ·unfold World.cell?; simp only [h]; rfl
 ·unfold World.cell?; simp only [h]; rfl
 ·unfold World.frozen?; simp only [h]; rfl
 ·unfold World.frozen?; simp only [h]; rfl
 ·unfold World.frozen?; simp only [h]; rfl
 ·unfold World.frozen?; simp only [h]; rfl
theorem fits30_walk {k s0 s1:Int} {hf:Bool} {b:Option Addr} {n c:Nat} (w:World) :
  Calls Tryz.prog 23 #[.agg #[.int .u8 k,.int .i8 s0,.int .i8 s1,.bool hf,.slice b n c]] w (QuietP (.bool (decide ((n:Int)≤3))) w):=by
 go_enter Tryz.func23,Tryz.ntmps23
 go_wp2_with fail
 go_ret
 exact⟨rfl,grew_alloc _ _,same_alloc _ _⟩
theorem fitsM_walk {k s0 s1:Int} {hf half:Bool} {b:Option Addr} {n c:Nat} {hv:Nat→Int} {a0 a1 q0 q1 lo hi:Int} (w:World) :
  Calls Tryz.prog 5 #[planM k s0 s1 hf half (.slice b n c) hv a0 a1 q0 q1 lo hi] w (QuietP (.bool (decide ((n:Int)≤2))) w):=by
 unfold planM
 go_enter Tryz.func5,Tryz.ntmps5
 by_cases h:(n:Int)≤2
 ·have H:=Lib.hid h
  go_wp2_with fail
  refine Calls.mono (fits30_walk _) ?_
  rintro e w2 ⟨rfl,hgr,hsm⟩
  have HG:=Lib.hid hgr; clear hgr
  have HS:=Lib.hid hsm; clear hsm
  go_wp2_with fail
  go_ret
  exact⟨by rw [decide_eq_true h,decide_eq_true (show (n:Int)≤3 by omega)]; rfl,(grew_alloc _ _).trans HG.out,fun b hb=>(HS.out b (by rw [size_alloc]; omega)).trans (same_alloc _ _ b hb)⟩
 ·have H:=Lib.hid h
  go_wp2_with fail
  go_ret
  exact⟨by rw [decide_eq_false (by omega)]; rfl,grew_alloc _ _,same_alloc _ _⟩
section
variable {M:Mem} {k s0 s1:Int} {hf half:Bool} {ds:Value} {hv:Nat→Int} {a0 a1 q0 q1 lo hi:Int} {kx at_ how:Int} {w:World} (hw:M.On w) (hk:∀ w,M.On w→Calls Tryz.prog 4 #[] w (QuietP (.bool true) w))
include hw hk
set_option maxHeartbeats 1000000 in
set_option maxRecDepth 4000 in
theorem many_wpM (hfit:∀ w,Calls Tryz.prog 5 #[planM k s0 s1 hf half ds hv a0 a1 q0 q1 lo hi] w (QuietP (.bool false) w)) (rest:Code) :
  Code.wp Tryz.prog (head1.seq (head2.seq (head3.seq rest))) (bodyPost Tryz.prog Tryz.f3 (LawP w)) { tmps := #[.agg #[.int .u8 k,.int .i8 s0,.int .i8 s1,.bool hf,ds,.int .i8 (hv 0),.int .i8 (hv 1),.int .i8 (hv 2),.int .i8 (hv 3),.int .i8 (hv 4),.int .i8 (hv 5),.bool half,.int .u8 a0,.int .u8 a1,.int .u8 q0,.int .u8 q1,.int .i8 lo,.int .i8 hi],.agg #[.int .u8 kx,.int .u8 at_],.int .u8 how]++Array.replicate (238-3) undef,defers:=[] } w:=by
 have W0:=Lib.hid (Went.refl hw); clear hw
 have K:=Lib.hid hk; clear hk
 have F:=Lib.hid hfit; clear hfit
 unfold planM at F
 simp only [head1,head2,head3,bodyM,sqA,sqB,Tryz.f3,Option.getD_some,List.size_toArray,List.length_cons,List.length_nil,Nat.reduceAdd,Nat.reduceSub,Array.replicate_succ,Array.replicate_zero,List.push_toArray,List.append_toArray,List.nil_append,List.cons_append]
 go_wp2_with fail
 refine Calls.mono (K.out _ ((W0.out.alloc _).alloc _).on) ?_
 rintro e w1 ⟨rfl,hgr,hsm⟩
 have W1:=Lib.hid (((W0.out.alloc _).alloc _).quiet hgr hsm)
 have HB:=Lib.hid (quiet_old hsm (two_0 _ _ _))
 clear hgr hsm
 go_wp2_with (refine wl_load (t:=34) rfl rfl rfl (plan_load rfl HB.out) ?_)
 refine Calls.mono (F.out _) ?_
 rintro e w2 ⟨rfl,hgr,hsm⟩
 have W2:=Lib.hid (W1.out.quiet hgr hsm)
 clear hgr hsm
 go_wp2_with fail
 refine Calls.mono (K.out _ W2.out.on) ?_
 rintro e w3 ⟨rfl,hgr,hsm⟩
 have W3:=Lib.hid (W2.out.quiet hgr hsm)
 clear hgr hsm
 go_wp2_with fail
 go_ret
 exact⟨rfl,W3.out.grew,W3.out.old⟩
end
section
variable {M:Mem} {k s0 s1:Int} {hf half:Bool} {ds:Value} {hv:Nat→Int} {a0 a1 q0 q1 lo hi:Int} {kx at_ how:Int} {w:World} (hw:M.On w) (hk:∀ w,M.On w→Calls Tryz.prog 4 #[] w (QuietP (.bool true) w))
include hw hk
set_option maxHeartbeats 1000000 in
set_option maxRecDepth 4000 in
theorem few_wpM (hfit:∀ w,Calls Tryz.prog 5 #[planM k s0 s1 hf half ds hv a0 a1 q0 q1 lo hi] w (QuietP (.bool true) w)) {np nt:Nat} {PQ:Nat→Nat→Nat→Nat→Value→Value→ByteArray→ByteArray→ByteArray→ByteArray→Mem→Prop} {g4 g5:ByteArray}
  (hm:∀ w,M.On w→Calls Tryz.prog 6 #[planM k s0 s1 hf half ds hv a0 a1 q0 q1 lo hi] w (RetM M w fun y M' => ∃ b0 c0 b1 c1 sva svn svc tva tvn tvc g0 g1 g2 g3,y = .agg #[.slice (some ⟨b0,0,none⟩) np c0,.slice (some ⟨b1,0,none⟩) nt c1,.string ⟨#[98,97,115,101]⟩,.slice sva svn svc,.slice tva tvn tvc,.string g0,.string g1,.string g2,.string g3,.string g4,.string g5]∧PQ b0 c0 b1 c1 (.slice sva svn svc) (.slice tva tvn tvc) g0 g1 g2 g3 M'))
  {QQ:Exit→Act→World→Prop} {rest:Code} (hQ:∀ (M':Mem) (b0 c0 b1 c1:Nat) (sva:Option Addr) (svn svc:Nat) (tva:Option Addr) (tvn tvc:Nat) (g0 g1 g2 g3:ByteArray) (p7:Nat) (ac:Act) (w':World),Went M w M' w'→ac.tmps.size=238→ac.tmps[2]? = some (.int .u8 how)→ac.tmps[7]? = some (.pointer (some ⟨p7,0,none⟩))→ac.defers=[] →
   w'.heap[p7]? = some (.cells #[.slice (some ⟨b0,0,none⟩) np c0,.slice (some ⟨b1,0,none⟩) nt c1,.string ⟨#[98,97,115,101]⟩,.slice sva svn svc,.slice tva tvn tvc,.string g0,.string g1,.string g2,.string g3,.string g4,.string g5] 52 (0,0)) → ¬ (p7<M'.heap.size∧M'.frz p7)→w.heap.size≤p7 →
   PQ b0 c0 b1 c1 (.slice sva svn svc) (.slice tva tvn tvc) g0 g1 g2 g3 M'→rest.wp Tryz.prog QQ ac w') :
  Code.wp Tryz.prog (head1.seq (head2.seq (head3.seq rest))) QQ { tmps := #[.agg #[.int .u8 k,.int .i8 s0,.int .i8 s1,.bool hf,ds,.int .i8 (hv 0),.int .i8 (hv 1),.int .i8 (hv 2),.int .i8 (hv 3),.int .i8 (hv 4),.int .i8 (hv 5),.bool half,.int .u8 a0,.int .u8 a1,.int .u8 q0,.int .u8 q1,.int .i8 lo,.int .i8 hi],.agg #[.int .u8 kx,.int .u8 at_],.int .u8 how]++Array.replicate (238-3) undef,defers:=[] } w:=by
 have HM:=Lib.hid hm; clear hm
 have HQ:=Lib.hid hQ; clear hQ
 have W0:=Lib.hid (Went.refl hw); clear hw
 have K:=Lib.hid hk; clear hk
 have F:=Lib.hid hfit; clear hfit
 unfold planM at F HM
 simp only [head1,head2,head3,bodyM,sqA,sqB,Tryz.f3,Option.getD_some,List.size_toArray,List.length_cons,List.length_nil,Nat.reduceAdd,Nat.reduceSub,Array.replicate_succ,Array.replicate_zero,List.push_toArray,List.append_toArray,List.nil_append,List.cons_append]
 go_wp2_with fail
 refine Calls.mono (K.out _ ((W0.out.alloc _).alloc _).on) ?_
 rintro e w1 ⟨rfl,hgr,hsm⟩
 have W1:=Lib.hid (((W0.out.alloc _).alloc _).quiet hgr hsm)
 have hb:=quiet_old hsm (two_0 _ _ _)
 have HB:=Lib.hid hb; clear hb hgr hsm
 go_wp2_with (refine wl_load (t:=34) rfl rfl rfl (plan_load rfl HB.out) ?_)
 refine Calls.mono (F.out _) ?_
 rintro e w2 ⟨rfl,hgr,hsm⟩
 have W2:=Lib.hid (W1.out.quiet hgr hsm)
 have HB2:=Lib.hid (quiet_old hsm HB.out)
 clear hgr hsm
 go_wp2_with (refine wl_load (t:=34) rfl rfl rfl (plan_load rfl HB2.out) ?_)
 refine Calls.mono (HM.out _ W2.out.on) ?_
 rintro e w3 ⟨y,M1,rfl,hgr,hsm,hh,hle,hz,b0,d0,b1,d1,sva,svn,svc,tva,tvn,tvc,g0,g1,g2,g3,rfl,hpq⟩
 have W3:=Lib.hid (W2.out.ret hgr hsm hh hle hz)
 clear hgr hsm hh hz hle
 have HPQ:=Lib.hid hpq; clear hpq
 go_wp2_with fail
 exact HQ.out M1 b0 d0 b1 d1 sva svn svc tva tvn tvc g0 g1 g2 g3 w3.heap.size _ _ (W3.out.alloc _) rfl rfl rfl rfl (new_alloc _ _) (W3.out.own (Nat.le_refl _)) W3.out.lt HPQ.out
end
section
variable {M:Mem} {k s0 s1:Int} {hf half:Bool} {ds:Value} {hv:Nat→Int} {a0 a1 q0 q1 lo hi:Int} {kx at_ how:Int} {w:World} (hw:M.On w) (hk:∀ w,M.On w→Calls Tryz.prog 4 #[] w (QuietP (.bool true) w))
include hw hk
set_option maxHeartbeats 1000000 in
set_option maxRecDepth 4000 in
theorem zero_wpM (hfit:∀ w,Calls Tryz.prog 5 #[planM k s0 s1 hf half ds hv a0 a1 q0 q1 lo hi] w (QuietP (.bool true) w)) (h0:how.tmod 9=0) {np nt:Nat} {PQ:Nat→Nat→Nat→Nat→Value→Value→ByteArray→ByteArray→ByteArray→ByteArray→Mem→Prop} {PC:Nat→Nat→Nat→Nat→Value→Value→Value→Value→ByteArray→ByteArray→ByteArray→ByteArray→Mem→Prop} {g4 g5:ByteArray}
  (hm:∀ w,M.On w→Calls Tryz.prog 6 #[planM k s0 s1 hf half ds hv a0 a1 q0 q1 lo hi] w (RetM M w fun y M' => ∃ b0 c0 b1 c1 sva svn svc tva tvn tvc g0 g1 g2 g3,y = .agg #[.slice (some ⟨b0,0,none⟩) np c0,.slice (some ⟨b1,0,none⟩) nt c1,.string ⟨#[98,97,115,101]⟩,.slice sva svn svc,.slice tva tvn tvc,.string g0,.string g1,.string g2,.string g3,.string g4,.string g5]∧PQ b0 c0 b1 c1 (.slice sva svn svc) (.slice tva tvn tvc) g0 g1 g2 g3 M'))
  (hch:∀ (M1:Mem) (b0 c0 b1 c1:Nat) (sv tv:Value) (g0 g1 g2 g3:ByteArray) (w:World),M.Le M1→M1.On w→PQ b0 c0 b1 c1 sv tv g0 g1 g2 g3 M1→Calls Tryz.prog 7 #[.agg #[.slice (some ⟨b0,0,none⟩) np c0,.slice (some ⟨b1,0,none⟩) nt c1,.string ⟨#[98,97,115,101]⟩,sv],.agg #[.int .u8 kx,.int .u8 at_]] w
   (RetM M1 w fun y M' => ∃ ma mn mc bt ea en ec,y = .agg #[.slice (some ⟨b0,0,none⟩) np c0,.slice ma mn mc,.string bt,.slice ea en ec]∧PC b0 c0 b1 c1 (.slice ma mn mc) (.string bt) (.slice ea en ec) tv g0 g1 g2 g3 M'))
  {QQ:Exit→Act→World→Prop} {rest:Code} (hQ:∀ (M':Mem) (b0 c0 b1 c1:Nat) (ma:Option Addr) (mn mc:Nat) (bt:ByteArray) (ea:Option Addr) (en ec:Nat) (tva:Option Addr) (tvn tvc:Nat) (g0 g1 g2 g3:ByteArray) (p7:Nat) (ac:Act) (w':World),Went M w M' w'→ac.tmps.size=238→ac.tmps[2]? = some (.int .u8 how)→ac.tmps[7]? = some (.pointer (some ⟨p7,0,none⟩))→ac.defers=[] →
   w'.heap[p7]? = some (.cells #[.slice (some ⟨b0,0,none⟩) np c0,.slice ma mn mc,.string bt,.slice ea en ec,.slice tva tvn tvc,.string g0,.string g1,.string g2,.string g3,.string g4,.string g5] 52 (0,0)) → ¬ (p7<M'.heap.size∧M'.frz p7)→w.heap.size≤p7 →
   PC b0 c0 b1 c1 (.slice ma mn mc) (.string bt) (.slice ea en ec) (.slice tva tvn tvc) g0 g1 g2 g3 M'→rest.wp Tryz.prog QQ ac w') :
  Code.wp Tryz.prog (head1.seq (head2.seq (head3.seq (swM.seq rest)))) QQ { tmps := #[.agg #[.int .u8 k,.int .i8 s0,.int .i8 s1,.bool hf,ds,.int .i8 (hv 0),.int .i8 (hv 1),.int .i8 (hv 2),.int .i8 (hv 3),.int .i8 (hv 4),.int .i8 (hv 5),.bool half,.int .u8 a0,.int .u8 a1,.int .u8 q0,.int .u8 q1,.int .i8 lo,.int .i8 hi],.agg #[.int .u8 kx,.int .u8 at_],.int .u8 how]++Array.replicate (238-3) undef,defers:=[] } w:=by
 have HM:=Lib.hid hm; clear hm
 have HC:=Lib.hid hch; clear hch
 have HQ:=Lib.hid hQ; clear hQ
 have W0:=Lib.hid (Went.refl hw); clear hw
 have K:=Lib.hid hk; clear hk
 have F:=Lib.hid hfit; clear hfit
 unfold planM at F HM
 simp only [head1,head2,head3,swM,restM,bodyM,sqA,sqB,Tryz.f3,Option.getD_some,List.size_toArray,List.length_cons,List.length_nil,Nat.reduceAdd,Nat.reduceSub,Array.replicate_succ,Array.replicate_zero,List.push_toArray,List.append_toArray,List.nil_append,List.cons_append]
 go_wp2_with fail
 refine Calls.mono (K.out _ ((W0.out.alloc _).alloc _).on) ?_
 rintro e w1 ⟨rfl,hgr,hsm⟩
 have W1:=Lib.hid (((W0.out.alloc _).alloc _).quiet hgr hsm)
 have hb:=quiet_old hsm (two_0 _ _ _)
 have hs:=quiet_old hsm (two_1 _ _ _)
 have HB:=Lib.hid hb; have HSL:=Lib.hid hs; clear hb hs hgr hsm
 go_wp2_with (refine wl_load (t:=34) rfl rfl rfl (plan_load rfl HB.out) ?_)
 refine Calls.mono (F.out _) ?_
 rintro e w2 ⟨rfl,hgr,hsm⟩
 have W2:=Lib.hid (W1.out.quiet hgr hsm)
 have hb:=quiet_old hsm HB.out
 have hs:=quiet_old hsm HSL.out
 have HB2:=Lib.hid hb; have HSL2:=Lib.hid hs; clear hb hs hgr hsm
 go_wp2_with (refine wl_load (t:=34) rfl rfl rfl (plan_load rfl HB2.out) ?_)
 refine Calls.mono (HM.out _ W2.out.on) ?_
 rintro e w3 ⟨y,M1,rfl,hgr,hsm,hh,hle,hz,b0,d0,b1,d1,sva,svn,svc,tva,tvn,tvc,g0,g1,g2,g3,rfl,hpq⟩
 have W3:=Lib.hid (W2.out.ret hgr hsm hh hle hz)
 have hs:=quiet_old hsm HSL2.out
 have HSL3:=Lib.hid hs
 clear hs hgr hsm hh hz hle
 have HPQ:=Lib.hid hpq; clear hpq
 have hs3:=(same_alloc w3 (Obj.cells #[.slice (some ⟨b0,0,none⟩) np d0,.slice (some ⟨b1,0,none⟩) nt d1,.string ⟨#[98,97,115,101]⟩,.slice sva svn svc,.slice tva tvn tvc,.string g0,.string g1,.string g2,.string g3,.string g4,.string g5] 52) _ (Array.getElem?_eq_some_iff.1 HSL3.out).1).trans HSL3.out
 obtain⟨u0,u1⟩:=box2 hs3
 clear hs3
 go_wp2_with fail
 refine Calls.mono (HC.out M1 b0 d0 b1 d1 _ _ g0 g1 g2 g3 _ W3.out.le (W3.out.alloc _).on HPQ.out) ?_
 rintro e w6 ⟨y,M3,rfl,gr6,fr6,hh6,le6,zz6,ma,mn,mc,bt,ea,en,ec,rfl,hpc⟩
 have W6:=Lib.hid ((W3.out.alloc _).ret gr6 fr6 hh6 le6 zz6)
 have own3:¬ (w3.heap.size<M1.heap.size∧M1.frz w3.heap.size):=W3.out.own (Nat.le_refl _)
 have own6:=own_ret (by rw [size_alloc]; omega) own3 zz6
 have hb6:=quiet_old fr6 (new_alloc _ _)
 obtain⟨⟨d20,d21,d22,d23⟩,z0,z1,z2,z3⟩:=box11z hb6
 have HB6:=Lib.hid hb6
 have HPC:=Lib.hid hpc
 have OWN:=Lib.hid own6
 clear hb6 hpc own6 own3 gr6 fr6 hh6 le6 zz6 u0 u1
 go_wp2_with fail
 have f1:=setc_same w6 w3.heap.size 0 (.slice (some ⟨b0,0,none⟩) np d0) HB6.out
 have f2:=setc_same _ w3.heap.size 1 (.slice ma mn mc) f1
 have f3:=setc_same _ w3.heap.size 2 (.string bt) f2
 have f4:=setc_same _ w3.heap.size 3 (.slice ea en ec) f3
 have q7:w.heap.size≤w3.heap.size:=W3.out.lt
 exact HQ.out M3 b0 d0 b1 d1 ma mn mc bt ea en ec tva tvn tvc g0 g1 g2 g3 w3.heap.size _ _ ((((W6.out.set _ q7 OWN.out).set _ q7 OWN.out).set _ q7 OWN.out).set _ q7 OWN.out) rfl rfl rfl rfl f4 OWN.out q7 HPC.out
end
section
variable {M:Mem} {k s0 s1:Int} {hf half:Bool} {ds:Value} {hv:Nat→Int} {a0 a1 q0 q1 lo hi:Int} {kx at_ how:Int} {w:World} (hw:M.On w) (hk:∀ w,M.On w→Calls Tryz.prog 4 #[] w (QuietP (.bool true) w))
include hw hk
set_option maxHeartbeats 1000000 in
set_option maxRecDepth 4000 in
theorem one_wpM (hfit:∀ w,Calls Tryz.prog 5 #[planM k s0 s1 hf half ds hv a0 a1 q0 q1 lo hi] w (QuietP (.bool true) w)) (h0:how.tmod 9=1) {np nt:Nat} {PQ:Nat→Nat→Nat→Nat→Value→Value→ByteArray→ByteArray→ByteArray→ByteArray→Mem→Prop} {g4 g5:ByteArray}
  (hm:∀ w,M.On w→Calls Tryz.prog 6 #[planM k s0 s1 hf half ds hv a0 a1 q0 q1 lo hi] w (RetM M w fun y M' => ∃ b0 c0 b1 c1 sva svn svc b2 n2 c2 g0 g1 g2 g3,y = .agg #[.slice (some ⟨b0,0,none⟩) np c0,.slice (some ⟨b1,0,none⟩) nt c1,.string ⟨#[98,97,115,101]⟩,.slice sva svn svc,.slice (some ⟨b2,0,none⟩) n2 c2,.string g0,.string g1,.string g2,.string g3,.string g4,.string g5]∧(2≤n2∧n2≤c2)∧PQ b0 c0 b1 c1 (.slice sva svn svc) (.slice (some ⟨b2,0,none⟩) n2 c2) g0 g1 g2 g3 M'))
  {QQ:Exit→Act→World→Prop} {rest:Code} (hQ:∀ (M':Mem) (b0 c0 b1 c1:Nat) (sva:Option Addr) (svn svc b2 n2 c2:Nat) (g0 g1 g2 g3:ByteArray) (p7:Nat) (ac:Act) (w':World),Went M w M' w'→ac.tmps.size=238→ac.tmps[2]? = some (.int .u8 how)→ac.tmps[7]? = some (.pointer (some ⟨p7,0,none⟩))→ac.defers=[] →
   w'.heap[p7]? = some (.cells #[.slice (some ⟨b0,0,none⟩) np c0,.slice (some ⟨b1,0,none⟩) nt c1,.string ⟨#[98,97,115,101]⟩,.slice sva svn svc,.slice (some ⟨b2,1,none⟩) (n2-1) (c2-1),.string g0,.string g1,.string g2,.string g3,.string g4,.string g5] 52 (0,0)) → ¬ (p7<M'.heap.size∧M'.frz p7)→w.heap.size≤p7 →
   PQ b0 c0 b1 c1 (.slice sva svn svc) (.slice (some ⟨b2,0,none⟩) n2 c2) g0 g1 g2 g3 M'→rest.wp Tryz.prog QQ ac w') :
  Code.wp Tryz.prog (head1.seq (head2.seq (head3.seq (swM.seq rest)))) QQ { tmps := #[.agg #[.int .u8 k,.int .i8 s0,.int .i8 s1,.bool hf,ds,.int .i8 (hv 0),.int .i8 (hv 1),.int .i8 (hv 2),.int .i8 (hv 3),.int .i8 (hv 4),.int .i8 (hv 5),.bool half,.int .u8 a0,.int .u8 a1,.int .u8 q0,.int .u8 q1,.int .i8 lo,.int .i8 hi],.agg #[.int .u8 kx,.int .u8 at_],.int .u8 how]++Array.replicate (238-3) undef,defers:=[] } w:=by
 have HM:=Lib.hid hm; clear hm
 have HQ:=Lib.hid hQ; clear hQ
 have W0:=Lib.hid (Went.refl hw); clear hw
 have K:=Lib.hid hk; clear hk
 have F:=Lib.hid hfit; clear hfit
 unfold planM at F HM
 simp only [head1,head2,head3,swM,restM,bodyM,sqA,sqB,Tryz.f3,Option.getD_some,List.size_toArray,List.length_cons,List.length_nil,Nat.reduceAdd,Nat.reduceSub,Array.replicate_succ,Array.replicate_zero,List.push_toArray,List.append_toArray,List.nil_append,List.cons_append]
 go_wp2_with fail
 refine Calls.mono (K.out _ ((W0.out.alloc _).alloc _).on) ?_
 rintro e w1 ⟨rfl,hgr,hsm⟩
 have W1:=Lib.hid (((W0.out.alloc _).alloc _).quiet hgr hsm)
 have hb:=quiet_old hsm (two_0 _ _ _)
 have HB:=Lib.hid hb; clear hb hgr hsm
 go_wp2_with (refine wl_load (t:=34) rfl rfl rfl (plan_load rfl HB.out) ?_)
 refine Calls.mono (F.out _) ?_
 rintro e w2 ⟨rfl,hgr,hsm⟩
 have W2:=Lib.hid (W1.out.quiet hgr hsm)
 have hb:=quiet_old hsm HB.out
 have HB2:=Lib.hid hb; clear hb hgr hsm
 go_wp2_with (refine wl_load (t:=34) rfl rfl rfl (plan_load rfl HB2.out) ?_)
 refine Calls.mono (HM.out _ W2.out.on) ?_
 rintro e w3 ⟨y,M1,rfl,hgr,hsm,hh,hle,hz,b0,d0,b1,d1,sva,svn,svc,b2,n2,c2,g0,g1,g2,g3,rfl,hn2,hpq⟩
 have W3:=Lib.hid (W2.out.ret hgr hsm hh hle hz)
 clear hgr hsm hh hz hle
 have HPQ:=Lib.hid hpq; clear hpq
 obtain⟨hn2,hc2⟩:=hn2
 go_wp2_with fail
 exact HQ.out M1 b0 d0 b1 d1 sva svn svc b2 n2 c2 g0 g1 g2 g3 w3.heap.size _ _ (W3.out.alloc _) rfl rfl rfl rfl (new_alloc _ _) (W3.out.own (Nat.le_refl _)) W3.out.lt HPQ.out
end
end Go.Proofs.YtogialghppmdfaaGreatDoor
namespace Go.Proofs.YtogialghppmdfaaGreatDoor
open Go Ev Klp
theorem known_calls {M:Mem} (hg:Good M) (w:World) (hw:M.On w):Calls Tryz.prog 4 #[] w (QuietP (.bool true) w):=by
 let B:Base:={ toMem:=M,sym:=fun _=>.nilFunc }
 have hone:∀ i,oneV (B.sym i):=fun _=>trivial
 refine (known_true (fnOk (hg.pow _ _)) (baseE B hone) w [] base_stat rfl hw.size hw.same).mono ?_
 rintro e w' ⟨x,rfl,hv,hgr,hs⟩
 exact⟨by rw [show x = .bool true from hv],hgr,hs⟩
theorem retM_mono {M:Mem} {w:World} {Q Q':Value→Mem→Prop} (h:∀ y M',Q y M'→Q' y M') {e:Ending} {w':World} (hr:RetM M w Q e w'):RetM M w Q' e w':=by
 obtain⟨y,M',h1,h2,h3,h4,h5,h6,h7⟩:=hr
 exact⟨y,M',h1,h2,h3,h4,h5,h6,h _ _ h7⟩
theorem body_eq:Tryz.f3.body=some (head1.seq (head2.seq (head3.seq restM))):=rfl
theorem rest_eq:restM=swM.seq tailM:=rfl
def meshKB (t:MeshD):Bool:=(Nat.beq t.d 1||Nat.beq t.d 2)&&kindsC.any (fun k=>Nat.beq k.1 t.pts.length&&decide (k.2=t.tris))&&Nat.beq t.nt (t.tris.length/3)&&t.tris.all (fun n=>decide (0≤n)&&decide (n<t.pts.length)) &&
 t.pts.all (fun p=>ile (-13) p.1&&ile p.1 13&&ile (-13) p.2&&ile p.2 13)&&(match t.pts with
  | p::q::_ => !(decide (p.1=q.1)&&decide (p.2=q.2))
  | _=>false)
theorem meshK_of {t:MeshD} (hn:goodNp t.pts.length) (h:meshKB t=true):MeshK t.d t.nt t.pts t.tris:=by
 simp only [meshKB,Bool.and_eq_true,Bool.or_eq_true] at h
 obtain⟨⟨⟨⟨⟨h1,h2⟩,h3⟩,h4⟩,h5⟩,h6⟩:=h
 refine⟨h1.elim (fun h=>.inl (nbeq_true h)) (fun h=>.inr (nbeq_true h)),hn,?_,nbeq_true h3,h4,fun p hp => ?_,?_⟩
 ·obtain⟨k,hk,he⟩:=List.any_eq_true.1 h2
  simp only [Bool.and_eq_true,decide_eq_true_eq] at he
  rw [← nbeq_true he.1,← he.2]
  exact hk
 ·have:=List.all_eq_true.1 h5 p hp
  simp only [Bool.and_eq_true,ile,decide_eq_true_eq] at this
  omega
 ·split at h6
  ·rename_i p q rest he
   refine⟨p,q,rest,he,fun⟨e1,e2⟩ => ?_⟩
   rw [decide_eq_true e1,decide_eq_true e2] at h6
   cases h6
  ·cases h6
theorem mesh_allM {K:Nat} (hK:K<8) (hf:Bool):∃ t,MeshAll K hf t∧MeshK t.d t.nt t.pts t.tris:=by
 have go:∀ {K hf} {t:MeshD},MeshAll K hf t→meshKB t=true → ∃ t,MeshAll K hf t∧MeshK t.d t.nt t.pts t.tris:=fun ht hk=>⟨_,ht,meshK_of ht.np hk⟩
 have:K=0∨K=1∨K=2∨K=3∨K=4∨K=5∨K=6∨K=7:=by omega
 cases hf
 ·rcases this with rfl | rfl | rfl | rfl | rfl | rfl | rfl | rfl
  ·exact go all00 (by decide)
  ·exact go all10 (by decide)
  ·exact go all20 (by decide)
  ·exact go all30 (by decide)
  ·exact go all40 (by decide)
  ·exact go all50 (by decide)
  ·exact go all60 (by decide)
  ·exact go all70 (by decide)
 ·rcases this with rfl | rfl | rfl | rfl | rfl | rfl | rfl | rfl
  ·exact go all01 (by decide)
  ·exact go all11 (by decide)
  ·exact go all21 (by decide)
  ·exact go all31 (by decide)
  ·exact go all41 (by decide)
  ·exact go all51 (by decide)
  ·exact go all61 (by decide)
  ·exact go all71 (by decide)
theorem TerrRaw.texts {M:Mem} {np:Nat} {z:Nat→Int} {tv:Value} (h:TerrRaw M np z tv):TextsRaw M (htsR np z) tv:=by
 obtain⟨b,c,rfl,h2,hf,rc,t,fr,rest,h3,h4⟩:=h
 have e:(htsR np z).length=np:=by simp [htsR]
 exact⟨b,c,rc,t,fr,rest,by rw [e],by rw [e]; exact h2,hf,h3,h4⟩
theorem str_ex (x:Value) (h:∃ l,x=strV l):∃ g,x = .string g:=by
 obtain⟨l,rfl⟩:=h
 exact⟨_,rfl⟩
theorem qV_999 (D:Nat) (hD:0<D):qV (999*(D:Int)) D=strV str999:=by
 unfold qV
 have h:=constNum_ok (x:=fun _=>0) (l:=str999) (a:=⟨[([],999)],1⟩) rfl
 rw [h.1]
 congr 2
 have n2:((D:Int):Rat)≠0:=fun e=>by have:=Rat.intCast_eq_zero_iff.1 e; omega
 unfold Num.val
 rw [Rat.intCast_mul,show Poly.ev (fun _=>0) [([],999)]=999 from rfl]
 generalize ((D:Int):Rat)=u at *
 rw [show (((1:Nat):Int):Rat)=1 from rfl,show ((999:Int):Rat)=(999:Rat) from rfl]
 grind
theorem qV_0 (D:Nat) (hD:0<D):qV 0 D=strV [48]:=by
 unfold qV
 rw [show ((0:Int):Rat)=0 from rfl,Rat.div_def,Rat.zero_mul,canon_zero]
section
variable {M:Mem} (hg:Good M) {np:Nat} {m0 m1 bs sv tv x0 x1 x2 x3:Value} {lo up:Int} {how:Int} (hh:0≤how∧how≤255) (o0:oneV m0) (o1:oneV m1) (o2:oneV bs) (o3:oneV sv) (o4:oneV tv) (y0:oneV x0) (y1:oneV x1) (y2:oneV x2) (y3:oneV x3)
 {w w1:World} {a:Act} {p7:Nat} (hon:M.On w1) (ts:a.tmps.size=238) (t2:a.tmps[2]? = some (.int .u8 how)) (t7:a.tmps[7]? = some (.pointer (some ⟨p7,0,none⟩))) (hdf:a.defers=[])
 (hb7:w1.heap[p7]? = some (.cells #[m0,m1,bs,sv,tv,x0,x1,x2,x3,qV lo 2,qV up 2] 52 (0,0))) (z7:¬ (p7<M.heap.size∧M.frz p7)) (hgr:Grew w w1) (hfr:∀ b,b<w.heap.size→w1.heap[b]? = w.heap[b]?) (q7:w.heap.size≤p7)
include hg hh o0 o1 o2 o3 o4 y0 y1 y2 y3 hon ts t2 t7 hdf hb7 z7 hgr hfr q7
theorem oneL:∀ x∈[m0,m1,bs,sv,tv,x0,x1,x2,x3,qV lo 2,qV up 2],oneV x:=fun x hx=>by
 simp only [List.mem_cons,List.not_mem_nil,or_false] at hx
 rcases hx with rfl | rfl | rfl | rfl | rfl | rfl | rfl | rfl | rfl | rfl | rfl <;> first | assumption | trivial
theorem finJ {j:Nat} (hj:j=0∨j=1∨j=2∨j=3∨j=4∨j=5∨j=6∨j=7∨j=8) {rest:Code} (hrest:(j<2∧rest=tailM)∨(2≤j∧rest=restM)) (hm:how.tmod 9=(j:Int)) {z:Int} (hz:0≤z∧z≤40) (hp:PairOk M (cellsR [m0,m1,bs,sv,tv] x0 x1 x2 x3 (qV lo 2) (qV up 2) j) z) :
  rest.wp Tryz.prog (bodyPost Tryz.prog Tryz.f3 (LawP w)) a w1:=by
 have h1:=oneL (lo:=lo) (up:=up) hg hh o0 o1 o2 o3 o4 y0 y1 y2 y3 hon ts t2 t7 hdf hb7 z7 hgr hfr q7
 have hcb:∀ {z:Int} (E:Env),StatOk (baseTm M [m0,m1,bs,sv,tv,x0,x1,x2,x3,qV lo 2,qV up 2] z how j { blk:=0,size:=0,unit:=0 }) E→VRL E (cellsB j 0) [m0,m1,bs,sv,tv,x0,x1,x2,x3,qV lo 2,qV up 2]:=fun E hE=>by
  have v:∀ {k:Nat} {y:Value},k<11→([m0,m1,bs,sv,tv,x0,x1,x2,x3,qV lo 2,qV up 2]:List Value)[k]? = some y→VR E (syC k) y:=fun hk hy=>vTm hE hk hy
  exact VRL.cons (v (by omega) rfl) (VRL.cons (v (by omega) rfl) (VRL.cons (v (by omega) rfl) (VRL.cons (v (by omega) rfl) (VRL.cons (v (by omega) rfl) (VRL.cons (v (by omega) rfl) (VRL.cons (v (by omega) rfl) (VRL.cons (v (by omega) rfl) (VRL.cons (v (by omega) rfl) (VRL.cons (v (by omega) rfl) (VRL.cons (v (by omega) rfl) VRL.nil))))))))))
 have hce:∀ {z:Int} (E:Env),StatOk (baseTm M [m0,m1,bs,sv,tv,x0,x1,x2,x3,qV lo 2,qV up 2] z how j { blk:=0,size:=0,unit:=0 }) E→VRL E (cellsE j 0) (cellsR [m0,m1,bs,sv,tv] x0 x1 x2 x3 (qV lo 2) (qV up 2) j):=fun E hE=>by
  have v:∀ {k:Nat} {y:Value},k<11→([m0,m1,bs,sv,tv,x0,x1,x2,x3,qV lo 2,qV up 2]:List Value)[k]? = some y→VR E (syC k) y:=fun hk hy=>vTm hE hk hy
  rcases hj with rfl | rfl | rfl | rfl | rfl | rfl | rfl | rfl | rfl <;> exact VRL.cons (v (by omega) rfl) (VRL.cons (v (by omega) rfl) (VRL.cons (v (by omega) rfl) (VRL.cons (v (by omega) rfl) (VRL.cons (v (by omega) rfl) (VRL.cons (by first | exact v (by omega) rfl | rfl) (VRL.cons (by first | exact v (by omega) rfl | rfl) (VRL.cons (by first | exact v (by omega) rfl | rfl) (VRL.cons (by first | exact v (by omega) rfl | rfl) (VRL.cons (by first | exact v (by omega) rfl | rfl) (VRL.cons (by first | exact v (by omega) rfl | rfl) VRL.nil))))))))))
 have run:∀ ok,runTm rest j 0 ok=true:=fun ok=>by
  rcases hrest with⟨h0,rfl⟩ | ⟨h0,rfl⟩
  ·have:j=0∨j=1:=by omega
   rcases this with rfl | rfl
   ·exact allB_ok runTm0 ok
   ·exact allB_ok runTm1 ok
  ·refine allB_ok (List.all_eq_true.1 runTm2 j ?_) ok
   simp only [List.mem_cons,List.not_mem_nil,or_false]
   omega
 have hdst:dstOk 238 rest=true:=by rcases hrest with⟨_,rfl⟩ | ⟨_,rfl⟩; exact tailM_dst; exact restM_dst
 by_cases h0:z=0
 ·subst h0
  exact tailM_run hg rfl h1 (z:=1) ⟨by omega,by omega⟩ hh hon ts t2 t7 hdf hb7 z7 hgr hfr q7 hdst (ok:=true) hcb hce hp (run true) hm
 ·exact tailM_run hg rfl h1 (z:=z) ⟨by omega,hz.2⟩ hh hon ts t2 t7 hdf hb7 z7 hgr hfr q7 hdst (ok:=false) hcb hce hp (run false) hm
end
theorem zT_bd {half:Bool} {hv:Nat→Int} (i:Nat) : -38≤zT half hv i∧zT half hv i≤38:=by
 have h : -19≤(hv i).tmod 20∧(hv i).tmod 20≤19:=tmod_rg (z:=hv i) (n:=20) (by omega)
 unfold zT
 cases half <;> simp only [cond_true,cond_false] <;> omega
theorem dens_of {d n:Nat} (hd:d=1∨d=2) (hn:n=3∨n=4∨n=5∨n=6):d*(4*n)∈dens:=by
 rcases hd with rfl | rfl <;> rcases hn with rfl | rfl | rfl | rfl <;> decide
theorem pair_of {M:Mem} (hg:Good M) {d nt:Nat} {pts:List (Int × Int)} {tris:List Int} (hmk:MeshK d nt pts tris) {u0 u1:Int} (hu0 : -7≤u0∧u0≤7) (hu1 : -7≤u1∧u1≤7) {b0 c0 b1 c1:Nat} {bs sv tv x0 x1 x2 x3:Value} (o2:oneV bs) (o3:oneV sv)
  (hck:CallOk Tryz.prog M 72 [.agg #[slV b0 pts.length c0,slV b1 nt c1]] (.int .i64 0)) (hx:MeshRaw d u0 u1 pts tris nt (slV b0 pts.length c0) (slV b1 nt c1) M) (hhist:CallOk Tryz.prog M 30 [.agg #[slV b0 pts.length c0,slV b1 nt c1,bs,sv]] (.int .i64 0))
  {z:Nat→Int} (hz:∀ i,i<6 → -38≤z i∧z i≤38) (hterr:TerrRaw M pts.length z tv) (hpl:PlacesOk (d*(4*pts.length)) x0 x1 x2 x3) {lo up:Int} (hlo : -40≤lo∧lo≤40) (hup : -40≤up∧up≤40) (hlt:lo<up) {j:Nat} (hj:j∈[0,2,3,4,5,6]) :
  ∃ e:Int,(0≤e∧e≤40)∧PairOk M (cellsR [slV b0 pts.length c0,slV b1 nt c1,bs,sv,tv] x0 x1 x2 x3 (qV lo 2) (qV up 2) j) e:=by
 obtain⟨ax,ay,bx,by_,⟨rfl,rfl,rfl,rfl⟩,hax,hay,hbx,hby,hne⟩:=hpl
 have hD:=dens_of hmk.d hmk.np
 have hd0:0<d:=by rcases hmk.d with h | h <;> omega
 have hg0:0<4*pts.length:=by rcases hmk.np with h | h | h | h <;> omega
 have hD0:0<d*(4*pts.length):=Nat.mul_pos hd0 hg0
 have hbig:∀ p∈pts,Big ((p.1+u0)*(4*pts.length:Nat))∧Big ((p.2+u1)*(4*pts.length:Nat)):=fun p hp=>by
  have h24:4*pts.length≤24:=by rcases hmk.np with h | h | h | h <;> omega
  have:=hmk.rng p hp
  exact⟨mul_small (by omega) h24,mul_small (by omega) h24⟩
 have wide:∀ {v:Int},Big v→BigX v:=fun h=>⟨by have:=h.1; omega,by have:=h.2; omega⟩
 have otv:oneV tv:=by obtain⟨_,_,rfl,_⟩:=hterr; trivial
 have hnp:pts.length∈[3,4,5,6]:=by rcases hmk.np with h | h | h | h <;> rw [h] <;> decide
 have hfield:=field_0 hg hnp hz ⟨_,_,rfl⟩ (show oneV (slV b1 nt c1) from trivial) hck hterr.texts
 obtain⟨ba,ha⟩:=contains_ok hg hx hck hmk.kind hmk.nt hmk.cor hd0 hg0 hD hbig (wide hax) hay
 obtain⟨bb,hb⟩:=contains_ok hg hx hck hmk.kind hmk.nt hmk.cor hd0 hg0 hD hbig (wide hbx) hby
 have h48:d*(4*pts.length)≤48:=by
  rcases hmk.d with h | h <;> rcases hmk.np with h' | h' | h' | h' <;> rw [h,h'] <;> decide
 have hfar:BigX (999*((d*(4*pts.length):Nat):Int)):=⟨by omega,by omega⟩
 obtain⟨bf,hf⟩:=contains_ok hg hx hck hmk.kind hmk.nt hmk.cor hd0 hg0 hD hbig hfar (show Big 0 from ⟨by omega,by omega⟩)
 have hf':CallOk Tryz.prog M 34 [.agg #[slV b0 pts.length c0,slV b1 nt c1],.agg #[strV str999,strV [48]]] (.tuple #[.bool bf,.int .i64 0]):=by
  have e:qP (999*((d*(4*pts.length):Nat):Int)) 0 (d*(4*pts.length)) = .agg #[strV str999,strV [48]]:=by
   unfold qP
   rw [qV_999 _ hD0,qV_0 _ hD0]
  rw [← e]
  exact hf
 exact pair_line hg (by exact trivial) (by exact trivial) o2 o3 otv hD hax hay hbx hby hlo hup hlt hne hhist hfield ha hb hf' hj
theorem loZ_rg {lo:Int} : -7≤loZ lo∧loZ lo≤7:=tmod_rg (n:=8) (by omega)
theorem upZ_rg {lo hi:Int} (hhi : -128≤hi∧hi≤127):loZ lo<upZ lo hi∧upZ lo hi≤loZ lo+14:=by
 have h:0≤(cond (decide (hi<0)) (hi+256) hi).tmod 14∧(cond (decide (hi<0)) (hi+256) hi).tmod 14≤13:=by
  refine tmod_rn (n:=14) (by omega) ?_
  by_cases h:hi<0
  ·rw [decide_eq_true h]; show 0≤hi+256; omega
  ·rw [decide_eq_false h]; show 0≤hi; omega
 unfold upZ loZ
 omega
set_option maxHeartbeats 1000000 in
theorem law_true {W:World} (hg:Good ⟨W.heap,fun _=>True⟩) {k s0 s1:Int} (hk:0≤k∧k≤255) (hs0 : -128≤s0∧s0≤127) (hs1 : -128≤s1∧s1≤127) {hf half:Bool} {ds:Value} {hv:Nat→Int} (hh:HeightsOk hv) {dds:List (Nat→Int)}
  (hds:DeedsRaw ⟨W.heap,fun _=>True⟩ ds dds) (hdd:∀ dd∈dds,DeedOk dd) {a0 a1 q0 q1 lo hi:Int} (ha0:0≤a0∧a0≤255) (ha1:0≤a1∧a1≤255) (hq0:0≤q0∧q0≤255) (hq1:0≤q1∧q1≤255) (hlo : -128≤lo∧lo≤127) (hhi : -128≤hi∧hi≤127)
  {kx at_ how:Int} (hkx:0≤kx∧kx≤255) (hat:0≤at_∧at_≤255) (hhow:0≤how∧how≤255) :
  Calls Tryz.prog 3 #[planM k s0 s1 hf half ds hv a0 a1 q0 q1 lo hi,slipR kx at_,.int .u8 how] W (LawP W):=by
 have hon:(⟨W.heap,fun _=>True⟩:Mem).On W:=Mem.On.self W _
 have hkn:=known_calls hg
 obtain⟨db,dcap,rfl,hcap,_⟩:=id hds
 have hfit:=fun w=>fitsM_walk (k:=k) (s0:=s0) (s1:=s1) (hf:=hf) (half:=half) (b:=db) (n:=dds.length) (c:=dcap) (hv:=hv) (a0:=a0) (a1:=a1) (q0:=q0) (q1:=q1) (lo:=lo) (hi:=hi) w
 by_cases hn:dds.length≤2
 ·rw [decide_eq_true (by omega)] at hfit
  obtain⟨K,hK,eK⟩:=tmod_nat (z:=k) (n:=8) (by omega) hk.1
  obtain⟨t,ht,hmk⟩:=mesh_allM hK hf
  obtain⟨dl,hdl⟩:=dealt ht.np hdd (by omega)
  have t8:∀ z:Int,-7≤z.tmod 8∧z.tmod 8≤7:=fun z=>tmod_rg (z:=z) (n:=8) (by omega)
  have hX:∀ m0 m1 M M',M.Le M'→t.X (s0.tmod 8) (s1.tmod 8) m0 m1 M→t.X (s0.tmod 8) (s1.tmod 8) m0 m1 M':=fun _ _ _ _ hle h=>MeshRaw.le hle h
  have h30:∀ w,(⟨W.heap,fun _=>True⟩:Mem).On w→Calls Tryz.prog 24 #[.agg #[.int .u8 k,.int .i8 s0,.int .i8 s1,.bool hf,.slice db dds.length dcap]] w (RetM ⟨W.heap,fun _=>True⟩ w (Post30 t.pts.length t.nt (t.X (s0.tmod 8) (s1.tmod 8)))):=fun w hw=>
   make30 hg hX hw (fun w hw=>ht.mesh hg hk hs0 hs1 eK hw) hdl.few hdl.idx hdl.shp hdl.hox hdl.len hdl.kin hds hdl.run
  obtain⟨l1,l2⟩:=loZ_rg (lo:=lo)
  obtain⟨u1,u2⟩:=upZ_rg (lo:=lo) hhi
  let PQ:Nat→Nat→Nat→Nat→Value→Value→ByteArray→ByteArray→ByteArray→ByteArray→Mem→Prop:=fun b0 c0 b1 c1 sv tv g0 g1 g2 g3 M'=>CallOk Tryz.prog M' 72 [.agg #[slV b0 t.pts.length c0,slV b1 t.nt c1]] (.int .i64 0)∧t.X (s0.tmod 8) (s1.tmod 8) (slV b0 t.pts.length c0) (slV b1 t.nt c1) M' ∧
   HistR M' (slV b0 t.pts.length c0) (slV b1 t.nt c1) sv∧TerrRaw M' t.pts.length (zT half hv) tv∧PlacesOk (t.d*(4*t.pts.length)) (.string g0) (.string g1) (.string g2) (.string g3)
  obtain⟨g4,e4⟩:∃ g,hV (loZ lo) = .string g:=⟨_,rfl⟩
  obtain⟨g5,e5⟩:∃ g,hV (upZ lo hi) = .string g:=⟨_,rfl⟩
  have hm:∀ w,(⟨W.heap,fun _=>True⟩:Mem).On w→Calls Tryz.prog 6 #[planM k s0 s1 hf half (.slice db dds.length dcap) hv a0 a1 q0 q1 lo hi] w (RetM ⟨W.heap,fun _=>True⟩ w fun y M' => ∃ b0 c0 b1 c1 sva svn svc tva tvn tvc g0 g1 g2 g3,
    y = .agg #[.slice (some ⟨b0,0,none⟩) t.pts.length c0,.slice (some ⟨b1,0,none⟩) t.nt c1,.string ⟨#[98,97,115,101]⟩,.slice sva svn svc,.slice tva tvn tvc,.string g0,.string g1,.string g2,.string g3,.string g4,.string g5]∧PQ b0 c0 b1 c1 (.slice sva svn svc) (.slice tva tvn tvc) g0 g1 g2 g3 M'):=fun w hw=>
   Calls.mono (make37 hg hmk (t8 s0) (t8 s1) (show oneV (.slice db dds.length dcap) from trivial) hh ha0 ha1 hq0 hq1 hlo hhi hw h30) fun e w' h=>retM_mono (fun y M' h=>by
    obtain⟨b0,c0,b1,c1,sv,tv,x0,x1,x2,x3,rfl,⟨sva,svn,svc,rfl⟩,h1,h2,h3,h4,h5⟩:=h
    obtain⟨b2,c2,e2,h4'⟩:=id h4
    obtain⟨ax,ay,bx,by_,⟨rfl,rfl,rfl,rfl⟩,h5'⟩:=id h5
    subst e2
    exact⟨b0,c0,b1,c1,sva,svn,svc,_,_,_,_,_,_,_,by rw [e4,e5]; rfl,h1,h2,h3,h4,h5⟩) h
  obtain⟨j,hj9,ej⟩:=tmod_nat (z:=how) (n:=9) (by omega) hhow.1
  have hnp:=good_mem ht.np
  have hz:∀ i,i<6 → -38≤zT half hv i∧zT half hv i≤38:=fun i _=>zT_bd i
  by_cases j0:j=0
  ·subst j0
   refine calls_of_wp Tryz.func3 (body_eq.trans (by rw [rest_eq])) ?_
   refine zero_wpM hon hkn hfit ej (PQ:=PQ) (PC:=fun b0 c0 b1 c1 m1' bs' sv' tv g0 g1 g2 g3 M' => ∃ h:Int,(0≤h∧h≤40)∧CallOk Tryz.prog M' 30 [.agg #[slV b0 t.pts.length c0,m1',bs',sv']] (.int .i64 h)∧(h=0→m1'=slV b1 t.nt c1) ∧
    CallOk Tryz.prog M' 72 [.agg #[slV b0 t.pts.length c0,slV b1 t.nt c1]] (.int .i64 0)∧t.X (s0.tmod 8) (s1.tmod 8) (slV b0 t.pts.length c0) (slV b1 t.nt c1) M'∧TerrRaw M' t.pts.length (zT half hv) tv∧PlacesOk (t.d*(4*t.pts.length)) (.string g0) (.string g1) (.string g2) (.string g3))
    hm (fun M1 b0 c0 b1 c1 sv tv g0 g1 g2 g3 w hle hon hpq => ?_) (QQ:=bodyPost Tryz.prog Tryz.f3 (LawP W)) ?_
   ·obtain⟨hck,hx,hhist,hterr,hpl⟩:=hpq
    have e1:=raw_nt hx
    subst e1
    refine Calls.mono (chg_hist (hg.le hle) ht.nt hck hhist (ht.cut (hg.le hle) (t8 s0) (t8 s1) hx) hkx hat hon) ?_
    rintro e w' ⟨y,M',rfl,g1,g2,g3,g4,g5,m1',bs',sv',rfl,⟨ma,mn,mc,rfl⟩,⟨bt,rfl⟩,⟨ea,en,ec,rfl⟩,h,hr,hH,heq⟩
    exact⟨_,M',rfl,g1,g2,g3,g4,g5,ma,mn,mc,bt,ea,en,ec,rfl,h,hr,hH,heq,hck.le g4,MeshRaw.le g4 hx,hterr.le g4,hpl⟩
   ·rintro M' b0 c0 b1 c1 ma mn mc bt ea en ec tva tvn tvc g0 g1 g2 g3 p7 ac w' hw' ts t2 t7 hdf h7 z7 q7 ⟨h,hr,hH,heq,hck,hx,hterr,hpl⟩
    have h7':w'.heap[p7]? = some (.cells #[slV b0 t.pts.length c0,.slice ma mn mc,.string bt,.slice ea en ec,.slice tva tvn tvc,.string g0,.string g1,.string g2,.string g3,qV (loZ lo) 2,qV (upZ lo hi) 2] 52 (0,0)):=by
     rw [h7,show qV (loZ lo) 2 = .string g4 from e4,show qV (upZ lo hi) 2 = .string g5 from e5]; rfl
    by_cases h0:h=0
    ·subst h0
     have e1:=heq rfl
     rw [e1] at h7' hH
     obtain⟨e,he,hp⟩:=pair_of (hg.le hw'.le) hmk (t8 s0) (t8 s1) (show oneV (.string bt) from trivial) (show oneV (.slice ea en ec) from trivial) hck hx hH hz hterr hpl (lo:=loZ lo) (up:=upZ lo hi) (by omega) (by omega) u1 (j:=0) (by decide)
     exact finJ (hg.le hw'.le) hhow (by exact trivial) (by exact trivial) (by exact trivial) (by exact trivial) (by exact trivial) (by exact trivial) (by exact trivial) (by exact trivial) (by exact trivial) hw'.on ts t2 t7 hdf h7' z7 hw'.grew hw'.old q7 (j:=0) (.inl rfl) (.inl ⟨by omega,rfl⟩) ej he hp
    ·have hp:PairOk M' [slV b0 t.pts.length c0,.slice ma mn mc,.string bt,.slice ea en ec,.slice tva tvn tvc,.string g0,.string g1,.string g2,.string g3,qV (loZ lo) 2,qV (upZ lo hi) 2] h:=pair_hist (hg.le hw'.le) rfl (fun x hx=>by
      simp only [List.mem_cons,List.not_mem_nil,or_false] at hx
      rcases hx with rfl | rfl | rfl | rfl | rfl | rfl | rfl | rfl | rfl | rfl | rfl <;> trivial) ⟨by omega,hr.2⟩ hH
     exact finJ (hg.le hw'.le) hhow (by exact trivial) (by exact trivial) (by exact trivial) (by exact trivial) (by exact trivial) (by exact trivial) (by exact trivial) (by exact trivial) (by exact trivial) hw'.on ts t2 t7 hdf h7' z7 hw'.grew hw'.old q7 (j:=0) (.inl rfl) (.inl ⟨by omega,rfl⟩) ej hr hp
  ·by_cases j1:j=1
   ·subst j1
    refine calls_of_wp Tryz.func3 (body_eq.trans (by rw [rest_eq])) ?_
    refine one_wpM hon hkn hfit ej (PQ:=PQ) (fun w hw=>Calls.mono (hm w hw) fun e w' h=>retM_mono (fun y M' h=>by
     obtain⟨b0,c0,b1,c1,sva,svn,svc,tva,tvn,tvc,g0,g1,g2,g3,rfl,hpq⟩:=h
     obtain⟨b2,c2,e2,hc2,_⟩:=id hpq.2.2.2.1
     unfold slV at e2
     obtain⟨eb,en,ec⟩:=Value.slice.inj e2
     subst eb
     have hnp3:3≤t.pts.length:=by rcases hmk.np with h | h | h | h <;> omega
     exact⟨b0,c0,b1,c1,sva,svn,svc,b2,tvn,tvc,g0,g1,g2,g3,rfl,⟨by omega,by omega⟩,hpq⟩) h) (QQ:=bodyPost Tryz.prog Tryz.f3 (LawP W)) ?_
    rintro M' b0 c0 b1 c1 sva svn svc b2 n2 c2 g0 g1 g2 g3 p7 ac w' hw' ts t2 t7 hdf h7 z7 q7 ⟨hck,hx,hhist,hterr,hpl⟩
    have hn2:n2=t.pts.length:=by
     obtain⟨b2',c2',e2,_⟩:=id hterr
     unfold slV at e2
     cases e2; rfl
    subst hn2
    have h7':w'.heap[p7]? = some (.cells #[slV b0 t.pts.length c0,slV b1 t.nt c1,strB baseB,.slice sva svn svc,.slice (some ⟨b2,1,none⟩) (t.pts.length-1) (c2-1),.string g0,.string g1,.string g2,.string g3,qV (loZ lo) 2,qV (upZ lo hi) 2] 52 (0,0)):=by
     rw [h7,show qV (loZ lo) 2 = .string g4 from e4,show qV (upZ lo hi) 2 = .string g5 from e5]; rfl
    have hf2:=field_2 (hg.le hw'.le) hnp hz (tv:=.slice (some ⟨b2,1,none⟩) (t.pts.length-1) (c2-1)) ⟨_,_,rfl⟩ (show oneV (slV b1 t.nt c1) from trivial) hck ⟨_,_,rfl⟩
    have hp:PairOk M' [slV b0 t.pts.length c0,slV b1 t.nt c1,strB baseB,.slice sva svn svc,.slice (some ⟨b2,1,none⟩) (t.pts.length-1) (c2-1),.string g0,.string g1,.string g2,.string g3,qV (loZ lo) 2,qV (upZ lo hi) 2] 5:=pair_field (hg.le hw'.le) rfl (fun x hx=>by
     simp only [List.mem_cons,List.not_mem_nil,or_false] at hx
     rcases hx with rfl | rfl | rfl | rfl | rfl | rfl | rfl | rfl | rfl | rfl | rfl <;> trivial) ⟨by omega,by omega⟩ hhist.chk rfl hf2
    exact finJ (hg.le hw'.le) hhow (by exact trivial) (by exact trivial) (by exact trivial) (by exact trivial) (by exact trivial) (by exact trivial) (by exact trivial) (by exact trivial) (by exact trivial) hw'.on ts t2 t7 hdf h7' z7 hw'.grew hw'.old q7 (j:=1) (.inr (.inl rfl)) (.inl ⟨by omega,rfl⟩) ej ⟨by omega,by omega⟩ hp
   ·refine calls_of_wp Tryz.func3 body_eq ?_
    refine few_wpM hon hkn hfit (PQ:=PQ) hm (QQ:=bodyPost Tryz.prog Tryz.f3 (LawP W)) ?_
    rintro M' b0 c0 b1 c1 sva svn svc tva tvn tvc g0 g1 g2 g3 p7 ac w' hw' ts t2 t7 hdf h7 z7 q7 ⟨hck,hx,hhist,hterr,hpl⟩
    have h7':w'.heap[p7]? = some (.cells #[slV b0 t.pts.length c0,slV b1 t.nt c1,strB baseB,.slice sva svn svc,.slice tva tvn tvc,.string g0,.string g1,.string g2,.string g3,qV (loZ lo) 2,qV (upZ lo hi) 2] 52 (0,0)):=by
     rw [h7,show qV (loZ lo) 2 = .string g4 from e4,show qV (upZ lo hi) 2 = .string g5 from e5]; rfl
    have fin:∀ i,i∈[0,2,3,4,5,6]→cellsR [slV b0 t.pts.length c0,slV b1 t.nt c1,strB baseB,.slice sva svn svc,.slice tva tvn tvc] (.string g0) (.string g1) (.string g2) (.string g3) (qV (loZ lo) 2) (qV (upZ lo hi) 2) i=cellsR [slV b0 t.pts.length c0,slV b1 t.nt c1,strB baseB,.slice sva svn svc,.slice tva tvn tvc] (.string g0) (.string g1) (.string g2) (.string g3) (qV (loZ lo) 2) (qV (upZ lo hi) 2) j →
      restM.wp Tryz.prog (bodyPost Tryz.prog Tryz.f3 (LawP W)) ac w':=fun i hil heq=>by
     obtain⟨e,he,hp⟩:=pair_of (hg.le hw'.le) hmk (t8 s0) (t8 s1) (show oneV (strB baseB) from trivial) (show oneV (.slice sva svn svc) from trivial) hck hx hhist.chk hz hterr hpl (lo:=loZ lo) (up:=upZ lo hi) (by omega) (by omega) u1 hil
     rw [heq] at hp
     exact finJ (hg.le hw'.le) hhow (by exact trivial) (by exact trivial) (by exact trivial) (by exact trivial) (by exact trivial) (by exact trivial) (by exact trivial) (by exact trivial) (by exact trivial) hw'.on ts t2 t7 hdf h7' z7 hw'.grew hw'.old q7 (j:=j) (by omega) (.inr ⟨by omega,rfl⟩) ej he hp
    have:j=2∨j=3∨j=4∨j=5∨j=6∨j=7∨j=8:=by omega
    rcases this with rfl | rfl | rfl | rfl | rfl | rfl | rfl
    ·exact fin 2 (by decide) rfl
    ·exact fin 3 (by decide) rfl
    ·exact fin 4 (by decide) rfl
    ·exact fin 5 (by decide) rfl
    ·exact fin 6 (by decide) rfl
    ·exact fin 0 (by decide) rfl
    ·exact fin 0 (by decide) rfl
 ·rw [decide_eq_false (by omega)] at hfit
  refine calls_of_wp Tryz.func3 body_eq ?_
  exact many_wpM hon hkn hfit _
end Go.Proofs.YtogialghppmdfaaGreatDoor
