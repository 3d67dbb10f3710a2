/-
  The abstract evaluator: equality of its data is reflexive.
-/
import Derived.Test.YtkjinnjopoehhaaGreatDoorEvDrawJ
import Derived.LoopNIn
set_option linter.unusedSectionVars false
set_option linter.unusedVariables false
set_option linter.unusedSimpArgs false
namespace Ev
open Go
def XE:X→Exit
 | .normal=>.normal
 | .exit id=>.exit id
 | .ret=>.ret
def RC (E:Env):Option Nat→Option Nat→Prop
 | none,r=>r=none
 | some l,r => ∃ i,E.at_ l=some i∧r=some i.blk
theorem RC.mono {E E':Env} (h:E.Le E') {l r:Option Nat} (hr:RC E l r):RC E' l r:=by
 cases l with
 | none=>exact hr
 | some l=>obtain⟨i,hi,e⟩:=hr; exact⟨i,h.2 _ _ hi,e⟩
def Came (E:Env) (g:G) (nx:Nat) (w:World) (N:Nat) (outs:List Out):Exit→Act→World→Prop:=
 fun e a w' => ∃ o∈outs,e=XE o.1 ∧ ∃ E',At E g nx w N E' o.2 a w'
theorem Came.trans {E E1:Env} {g:G} {nx N:Nat} {w w1:World} {s1:S} {a1:Act} {outs outs':List Out} (h:At E g nx w N E1 s1 a1 w1) (hs:∀ o∈outs,o∈outs') {e:Exit} {a:Act} {w':World} (hc:Came E1 s1.h.get s1.nx w1 N outs e a w') :
  Came E g nx w N outs' e a w':=by
 obtain⟨o,ho,he,E',hat⟩:=hc
 exact⟨o,hs o ho,he,E',h.step.trans hat.step,hat.tr,hat.marks,hat.size⟩
theorem T.keep_get {α β:Type}:∀ (a:T α) (b:T β) (n:Nat) (x:β),(T.keep a b).get n=some x→b.get n=some x:=by
 intro a
 induction a with
 | e=>intro b n x h; simp [T.keep_e,T.get_e] at h
 | n l v r ihl ihr=>
  intro b n x h
  cases b with
  | e=>simp [T.keep_ne,T.get_e] at h
  | n c w d=>
   rw [T.keep_n] at h
   rw [T.get_eq] at h ⊢
   by_cases h0:n=0
   ·simp only [h0,if_true,T.val] at h ⊢; cases v <;> simp at h; exact h
   ·by_cases h1:n%2=1
    ·simp only [h0,if_false,h1,if_true,T.left] at h ⊢; exact ihl c _ x h
    ·simp only [h0,if_false,h1,T.right] at h ⊢; exact ihr d _ x h
def Weaker (o o':O):Prop:=o'=o ∨ ∃ m left last,o = .iter m left last∧o' = .iter m left none
theorem Step.weak {E:Env} {g g':G} {nx:Nat} {w:World} (hr:Rel E g w) (hf:Fresh E nx) (hs:∀ n o',g' n=some o' → ∃ o,g n=some o∧Weaker o o'):Step E g nx w E g' nx w:=by
 refine⟨Env.Le.refl E,fun _ _=>rfl,Nat.le_refl _,hf,⟨fun n o' hn => ?_,fun n m o p i j hn hm => ?_⟩,Grew.refl w,fun _ _ _=>rfl,?_⟩
 ·obtain⟨o,ho,hw⟩:=hs n o' hn
  obtain⟨i,hi,hob⟩:=hr.obj n o ho
  refine⟨i,hi,?_⟩
  rcases hw with rfl | ⟨m,left,last,rfl,rfl⟩
  ·exact hob
  ·obtain⟨j,seen,h1,h2,h3,h4,h5,h6⟩:=hob
   exact⟨j,seen,h1,h2,h3,h4,h5,fun p hp=>by cases hp⟩
 ·obtain⟨o1,ho1,_⟩:=hs n o hn
  obtain⟨p1,hp1,_⟩:=hs m p hm
  exact hr.inj n m o1 p1 i j ho1 hp1
 ·rintro b hb ⟨n,o',i,hn,hi,he⟩
  obtain⟨o,ho,_⟩:=hs n o' hn
  exact⟨n,o,i,ho,hi,he⟩
theorem dropIters_get:∀ (ns:List Nat) (h:H) (n:Nat) (o':O),(dropIters h ns).get n=some o' → ∃ o,h.get n=some o∧Weaker o o'
 | [],h,n,o',hn=>⟨o',hn,.inl rfl⟩
 | k::ns,h,n,o',hn=>by
  simp only [dropIters] at hn
  obtain⟨o,ho,hw⟩:=dropIters_get ns _ n o' hn
  split at ho
  ·rename_i m left last hk
   rw [T.get_set] at ho
   by_cases he:n=k
   ·subst he
    simp only [if_true,Option.some.injEq] at ho
    subst ho
    refine⟨_,hk,.inr ⟨m,left,last,rfl,?_⟩⟩
    rcases hw with rfl | ⟨m',left',last',e1,rfl⟩
    ·rfl
    ·cases e1; rfl
   ·simp only [if_neg he] at ho
    exact⟨o,ho,hw⟩
  ·exact⟨o,ho,hw⟩
theorem At.forget {E:Env} {g:G} {nx N:Nat} {w w':World} {E':Env} {s:S} {a:Act} (s0:S) (its:List Nat) (h:At E g nx w N E' s a w'):At E g nx w N E' (Ev.forget s0 s its) a w':=by
 refine⟨h.step.trans (Step.weak h.step.rel h.step.fresh fun n o' hn => ?_),fun k v hk=>h.tr k v (T.keep_get _ _ _ _ hk),h.marks,h.size⟩
 obtain⟨o,ho,hw⟩:=dropIters_get its _ n o' hn
 exact⟨o,reach_sub s.h _ _ .e (fun n o hn=>by rw [T.get_e] at hn; cases hn) n o ho,hw⟩
theorem mergeS_mem {E:Env} {g:G} {nx N:Nat} {w w':World} {E':Env} {s s0:S} {a:Act} {l:List S} (hs:s∈l) (h:At E g nx w N E' s a w'):∃ s'∈mergeS s0 l,At E g nx w N E' s' a w':=by
 cases l with
 | nil=>cases hs
 | cons x xs=>
  cases xs with
  | nil=>exact⟨s,hs,h⟩
  | cons y ys=>
   refine⟨_,List.mem_map.2 ⟨_,dedup_mem (fun a b h => ?_) _ _ (List.mem_map.2 ⟨s,hs,rfl⟩),rfl⟩,h.forget s0 _⟩
   simp only [Bool.and_eq_true] at h
   exact Prod.ext (nbeq_true h.1) (S.eq_eq h.2)
theorem Step.killed {E:Env} {g:G} {nx n:Nat} {w w':World} {i:Info} {o0:O} (hr:Rel E g w) (hf:Fresh E nx) (hn:g n=some o0) (hi:E.at_ n=some i) (hgr:Grew w w') (hw:∀ b,b≠i.blk→w'.heap[b]? = w.heap[b]?) :
  Step E g nx w E (rem g n) nx w':=by
 have key:∀ m p,rem g n m=some p→g m=some p∧m≠n:=by
  intro m p h
  by_cases h':m=n
  ·simp [rem,h'] at h
  ·simp only [rem,if_neg h'] at h; exact⟨h,h'⟩
 refine⟨Env.Le.refl E,fun _ _=>rfl,Nat.le_refl _,hf,⟨fun m p hm => ?_,fun m k p q a b hm hk ha hb he=>hr.inj m k p q a b (key m p hm).1 (key k q hk).1 ha hb he⟩,hgr,fun b hb hnf => ?_,?_⟩
 ·obtain⟨h1,h2⟩:=key m p hm
  obtain⟨j,hj,hoj⟩:=hr.obj m p h1
  exact⟨j,hj,hoj.mono (Env.Le.refl E) (hw _ fun e=>h2 (hr.inj m n p o0 j i h1 hn hj hi e))⟩
 ·exact hw b fun e=>hnf ⟨n,o0,i,hn,hi,e.symm⟩
 ·rintro b hb ⟨m,p,j,hm,hj,he⟩
  exact⟨m,p,j,(key m p hm).1,hj,he⟩
section
variable {tb:Tab} {P:Program} {w0:Base} (hT:TabOk tb P) (hF:FnOk tb P w0) {rc:Rec} (hR:RecOk P w0 rc)
include hT hF hR
omit hT in
theorem range_ok {cx:Ctx} {r:Option Nat} (hc1:cx.tb=tb) (hc2:cx.rc=rc) {g:Operand} {ps:Array Tmp} {assign body:Code} {s:S} {outs:List Out} {a:Act} {w:World} {E:Env} {N:Nat} (hrc:RC E cx.inRound r)
  (h:code cx (.rangeFunc g ps assign body) s=some outs) (ho:Ok w0 E s.h.get s.nx w) (ht:TR E s.t a.tmps) (hm:MR E s.m a.defers) (hN:a.tmps.size=N) (hd:dstOk N (.rangeFunc g ps assign body)=true) :
  (Code.rangeFunc g ps assign body).wpIn (FR r) 0 P (Came E s.h.get s.nx w N outs) a w:=by
 simp only [dstOk,Bool.and_eq_true] at hd
 simp only [code,hc1,hc2] at h
 split at h
 case h_2=>cases h
 rename_i f first cap hg
 split at h
 ·cases h
 ·rename_i d s1 hpre
  split at h
  ·cases h
  ·rename_i v2 h2 nx2 hcall
   split at h
   case h_2=>cases h
   rename_i st pend t' ps' as' bd' d' hloop
   have hst:st ≠ .busy:=by rintro rfl; simp at h
   have hj:∃ j,jumpOf pend=some j∧outs=[(j,{ s1 with h:=h2.del s1.nx,nx:=nx2 })]:=by
    cases st <;> simp at hst <;> (
     simp only at h
     split at h
     ·cases h
     ·rename_i j hj; simp at h; exact⟨j,hj,h.symm⟩)
   clear h
   obtain⟨j,hj,rfl⟩:=hj
   cases hb:hasBody tb f with
   | false=>rw [hb] at hcall; cases hcall
   | true=>
    rw [hb,cond_true] at hcall
    obtain⟨fnn,b,hfn,hbody⟩:∃ fnn b,tb.fn f=some fnn∧fnn.body=some b:=by
     unfold hasBody at hb
     split at hb
     ·rename_i fnn hfn
      obtain⟨b,hb'⟩:=Option.isSome_iff_exists.1 hb
      exact⟨fnn,b,hfn,hb'⟩
     ·cases hb
    obtain⟨fs,cs,hfs,hcs,heg⟩:=ev_ok ht ho.glob hg
    refine wpIn_rangeFunc fun fn _ => ?_
    obtain⟨E1,w1,mark,dd,hat1,hd1,hent,htm⟩:∃ E1 w1 mark dd,At E s.h.get s.nx w N E1 s1 { a with defers:=mark++a.defers } w1∧E1.at_ d=some dd ∧
      (∀ (obj:Nat→Obj),True)∧(Instr.enterLoop fn a.tmps ps assign body (FR r).round).run P w =
       .ok (w1.heap.size,mark) (w1.alloc (.loop { state:=.ready,pending:=none,fn:=fn,tmps:=a.tmps,params:=ps,assign:=assign,body:=body,defers:=dd.blk })):=by
     cases hin:cx.inRound with
     | none=>
      rw [hin] at hpre hrc
      simp only [Option.some.injEq,Prod.mk.injEq] at hpre
      obtain⟨rfl,rfl⟩:=hpre
      rw [show r=none from hrc]
      let i:Info:=⟨w.heap.size,0,0,(#[],0)⟩
      have hν:=ho.fresh s.nx (Nat.le_refl _)
      have hstep:Step E s.h.get s.nx w (E.add s.nx i) (s.h.set s.nx (.defer true)).get (s.nx+1) (w.alloc (.deferred (some []))):=by
       rw [get_set_upd]
       exact Step.alloc ho.rel ho.fresh rfl rfl ⟨rfl,rfl,rfl⟩ ⟨rfl,heap_alloc_new w _⟩
      refine⟨E.add s.nx i,w.alloc (.deferred (some [])),[{ target:=.collected w.heap.size,args := #[] }],i,⟨hstep,ht.mono hstep.le,⟨i,_,E.add_at _ i,rfl,hm.mono hstep.le⟩,hN⟩,E.add_at _ i,fun _=>trivial,?_⟩
      simp [Instr.enterLoop,FR,Fence.wide,i]
     | some l=>
      rw [hin] at hpre hrc
      obtain⟨il,hil,rfl⟩:=hrc
      simp only at hpre
      split at hpre
      ·rename_i st0 pend0 t0 ps0 a0 b0 d0 hl0
       simp only [Option.some.injEq,Prod.mk.injEq] at hpre
       obtain⟨rfl,rfl⟩:=hpre
       obtain⟨il',hil',dd,fn0,tm0,hdd,hob,_⟩:=ho.rel.obj l _ hl0
       rw [hil] at hil'; cases hil'
       refine⟨E,w,[],dd,⟨Step.refl ho.rel ho.fresh,ht,hm,hN⟩,hdd,fun _=>trivial,?_⟩
       have hgl:(Instr.getLoop il.blk).run P w = .ok { state:=st0,pending:=pend0,fn:=fn0,tmps:=tm0,params:=ps0.toArray,assign:=a0,body:=b0,defers:=dd.blk } w:=by
        simp only [Instr.getLoop,Sem.run_bind,getObj,Sem.run,hob,Result.andThen_ok,Sem.run_pure]
       simp only [Instr.enterLoop,FR,Sem.run_bind,hgl,Result.andThen_ok,Sem.run_pure,run_newObj,World.alloc_eq]
      ·cases hpre
    have ho1:=ho.step hat1.step
    let li:Info:=⟨w1.heap.size,0,0,(#[],0)⟩
    let w2:World:=w1.alloc (.loop { state:=.ready,pending:=none,fn:=fn,tmps:=a.tmps,params:=ps,assign:=assign,body:=body,defers:=dd.blk })
    have hν1:=ho1.fresh s1.nx (Nat.le_refl _)
    have hle1:=Env.le_add (i:=li) hν1
    have hpsd:ps.toList.all (Nat.blt · a.tmps.size)=true:=by rw [hN]; exact hd.1.1
    have hst1:s1.t=s.t:=by
     cases hin:cx.inRound with
     | none=>rw [hin] at hpre; simp only [Option.some.injEq,Prod.mk.injEq] at hpre; obtain⟨_,rfl⟩:=hpre; rfl
     | some l=>
      rw [hin] at hpre; simp only at hpre; split at hpre
      ·simp only [Option.some.injEq,Prod.mk.injEq] at hpre; obtain⟨_,rfl⟩:=hpre; rfl
      ·cases hpre
    have hstep2:Step E1 s1.h.get s1.nx w1 (E1.add s1.nx li) (s1.h.set s1.nx (.loop .ready none s1.t ps.toList assign body d)).get (s1.nx+1) w2:=by
     rw [get_set_upd]
     refine Step.alloc ho1.rel ho1.fresh rfl rfl ⟨rfl,rfl,rfl⟩ ⟨dd,fn,a.tmps,hle1.2 _ _ hd1,?_,(hat1.tr).mono hle1,?_,?_,hpsd⟩
     ·have:=heap_alloc_new w1 (.loop { state:=.ready,pending:=none,fn:=fn,tmps:=a.tmps,params:=ps,assign:=assign,body:=body,defers:=dd.blk })
      exact this
     ·rw [hN]; exact hd.1.2
     ·rw [hN]; exact hd.2
    have ho2:=ho1.step hstep2
    have hargs:VRL (E1.add s1.nx li) (first++[.yld s1.nx]++cap) (fs++[Value.func (.yield w1.heap.size) #[] #[]]++cs):=by
     have hle:=hat1.step.le.trans hle1
     exact ((VRL.mono hle _ _ hfs).append (VRL.cons (show VR (E1.add s1.nx li) (.yld s1.nx) (.func (.yield w1.heap.size) #[] #[]) from ⟨li,Env.add_at _ _ _,rfl⟩) VRL.nil)).append (VRL.mono hle _ _ hcs)
    obtain⟨henter,hcalls⟩:=callFn_calls hF hR hfn hbody hcall ho2 hargs
    refine⟨w1.heap.size,mark,w2,{ target:=.fn (.func f) cs.toArray,args:=fs.toArray ++ #[Value.func (.yield w1.heap.size) #[] #[]] },w2,f,(fs++[Value.func (.yield w1.heap.size) #[] #[]]++cs).toArray,w2,htm,?_,fun _ _=>trivial,?_,(by intro hh; cases hh),?_⟩
    ·have hmapc:Array.map a.eval #[Operand.const (Value.func (Fn.yield w1.heap.size) #[] #[])] = #[Value.func (.yield w1.heap.size) #[] #[]]:=by simp [Act.eval]
     simp only [resolve,heg,Deferred.ofValue,Sem.run_pure,hmapc]
    ·simp only [invoke]
     have e:fs.toArray ++ #[Value.func (.yield w1.heap.size) #[] #[]]++cs.toArray=(fs++[Value.func (.yield w1.heap.size) #[] #[]]++cs).toArray:=by apply Array.ext'; simp
     rw [e]; exact henter
    ·refine CallsIn.mono (F:=FR r) (n:=0) ((callsIn_wide (n:=0)).2 hcalls) ?_
     rintro e w3 ⟨x,rfl,E3,_,hs3⟩
     obtain⟨i3,hi3,dd3,fn3,tm3,_,hob3,_⟩:=hs3.rel.obj s1.nx _ hloop
     have:i3=li:=by have:=hs3.le.2 s1.nx li (Env.add_at _ _ _); rw [hi3] at this; exact Option.some.inj this
     subst this
     let w4:World:={ w3 with heap:=w3.heap.setIfInBounds li.blk (.loop { state:=.exhausted,pending:=pend,fn:=fn3,tmps:=tm3,params:=ps'.toArray,assign:=as',body:=bd',defers:=dd3.blk }) }
     have hgl:(Instr.getLoop li.blk).run P w3 = .ok { state:=st,pending:=pend,fn:=fn3,tmps:=tm3,params:=ps'.toArray,assign:=as',body:=bd',defers:=dd3.blk } w3:=by
      simp only [Instr.getLoop,Sem.run_bind,getObj,Sem.run,hob3,Result.andThen_ok,Sem.run_pure]
     have hnb:(st == LoopState.busy)=false:=by cases st <;> first | rfl | exact absurd rfl hst
     have hend:(Instr.endLoop w1.heap.size).run P w3 = .ok pend w4:=by
      have hset:(setObj li.blk (.loop { state:=.exhausted,pending:=pend,fn:=fn3,tmps:=tm3,params:=ps'.toArray,assign:=as',body:=bd',defers:=dd3.blk })).run P w3 = .ok () w4:=by
       simp only [setObj,Sem.run,hob3]
       rfl
      show (Instr.endLoop li.blk).run P w3=_
      simp only [Instr.endLoop,Sem.run_bind,hgl,Result.andThen_ok,hnb,Bool.false_eq_true,if_false,hset,Sem.run_pure]
     have hk:=Step.killed (nx:=nx2) hs3.rel hs3.fresh hloop hi3 (w':=w4) ⟨rfl,rfl,rfl,by simp [w4]⟩ (fun b hb=>by simp [w4,Array.getElem?_setIfInBounds_ne (Ne.symm hb)])
     have hall:Step E s.h.get s.nx w E3 (h2.del s1.nx).get nx2 w4:=by
      rw [get_del_rem]
      exact (hat1.step.trans hstep2).trans (hs3.trans hk)
     have hle3:E1.Le E3:=hle1.trans hs3.le
     have hat4:At E s.h.get s.nx w N E3 { s1 with h:=h2.del s1.nx,nx:=nx2 } { a with defers:=mark++a.defers } w4:=⟨hall,hat1.tr.mono hle3,hat1.marks.mono hle3,hN⟩
     refine⟨pend,w4,hend,?_⟩
     cases pend with
     | none=>simp [jumpOf] at hj; subst hj; exact⟨_,List.mem_singleton.2 rfl,rfl,E3,hat4⟩
     | some cd=>
      cases cd <;> simp [jumpOf] at hj
      ·subst hj; exact wpIn_exit ⟨_,List.mem_singleton.2 rfl,rfl,E3,hat4⟩
      ·subst hj; exact wpIn_ret ⟨_,List.mem_singleton.2 rfl,rfl,E3,hat4⟩
theorem code_ok {cx:Ctx} {r:Option Nat} (hc1:cx.tb=tb) (hc2:cx.rc=rc) {N:Nat}:∀ (c:Code) {s:S} {outs:List Out} {a:Act} {w:World} {E:Env},RC E cx.inRound r→code cx c s=some outs→Ok w0 E s.h.get s.nx w→TR E s.t a.tmps→MR E s.m a.defers →
  a.tmps.size=N→dstOk N c=true→c.wpIn (FR r) 0 P (Came E s.h.get s.nx w N outs) a w:=by
 intro c
 induction c with
 | skip=>
  intro s outs a w E _ h ho ht hm hN _
  simp [code] at h; subst h
  exact wpIn_skip ⟨_,List.mem_singleton.2 rfl,rfl,E,Step.refl ho.rel ho.fresh,ht,hm,hN⟩
 | label l=>
  intro s outs a w E _ h ho ht hm hN _
  simp [code] at h; subst h
  exact wpIn_label ⟨_,List.mem_singleton.2 rfl,rfl,E,Step.refl ho.rel ho.fresh,ht,hm,hN⟩
 | exit id=>
  intro s outs a w E _ h ho ht hm hN _
  simp [code] at h; subst h
  exact wpIn_exit ⟨_,List.mem_singleton.2 rfl,rfl,E,Step.refl ho.rel ho.fresh,ht,hm,hN⟩
 | ret=>
  intro s outs a w E _ h ho ht hm hN _
  simp [code] at h; subst h
  exact wpIn_ret ⟨_,List.mem_singleton.2 rfl,rfl,E,Step.refl ho.rel ho.fresh,ht,hm,hN⟩
 | region id ops draw=>
  intro s outs a w E _ h ho ht hm hN hd
  have hdst:∀ o∈ops.toList,∀ k,o.dst=some k→k<N:=by
   intro o hmem k hk
   simp only [dstOk,List.all_eq_true] at hd
   have:=hd o hmem
   simp only [hk] at this
   exact nblt_lt this
  simp only [code,hc1,hc2] at h
  cases draw with
  | false=>
   simp only [cond_false] at h
   cases h1:runOps tb rc ops ops.toList s with
   | none=>simp [h1] at h
   | some l=>
    simp [h1] at h
    subst h
    refine wpIn_region ?_
    have:=runOps_ok (r:=r) hT hF hR ops.toList 0 (by simp) h1 ho ht hm hN hdst (Came E s.h.get s.nx w N (l.map fun s=>(X.normal,s))) (fun s' hs' E' a' w' hat=>⟨(.normal,s'),List.mem_map.2 ⟨s',hs',rfl⟩,rfl,E',hat⟩)
    rw [List.range_eq_range']
    simpa using this
  | true=>
   simp only [cond_true] at h
   cases h1:drawn tb rc ops s with
   | none=>simp [h1] at h
   | some s'=>
    simp [h1] at h
    subst h
    exact wpIn_region_draw fun t=>drawn_ok hT hF hR h1 ho ht hm hN hdst _ (fun E' a' w' hat=>⟨_,List.mem_singleton.2 rfl,rfl,E',hat⟩) t
 | seq x y ihx ihy=>
  intro s outs a w E hrc h ho ht hm hN hd
  simp only [dstOk,Bool.and_eq_true] at hd
  simp only [code] at h
  cases h1:code cx x s with
  | none=>simp [h1] at h
  | some o1=>
   simp only [h1] at h
   refine wpIn_seq (wpIn_mono (ihx hrc h1 ho ht hm hN hd.1) ?_)
   rintro e a1 w1 ⟨o,hmem,rfl,E1,hat⟩
   obtain⟨ys,hy,hsub⟩:=eachL_mem h o hmem
   obtain⟨xo,so⟩:=o
   cases xo with
   | normal=>
    simp only at hy
    show y.wpIn _ _ _ _ _ _
    exact wpIn_mono (ihy (hrc.mono hat.step.le) hy (ho.step hat.step) hat.tr hat.marks hat.size hd.2) fun e a w hc=>Came.trans hat hsub hc
   | exit id=>simp only [Option.some.injEq] at hy; subst hy; exact⟨_,hsub _ (List.mem_singleton.2 rfl),rfl,E1,hat⟩
   | ret=>simp only [Option.some.injEq] at hy; subst hy; exact⟨_,hsub _ (List.mem_singleton.2 rfl),rfl,E1,hat⟩
 | cond c x y ihx ihy=>
  intro s outs a w E hrc h ho ht hm hN hd
  simp only [dstOk,Bool.and_eq_true] at hd
  simp only [code] at h
  split at h
  ·rename_i hc
   exact wpIn_cond_true (show a.eval c=_ from ev_ok ht ho.glob hc) (ihx hrc h ho ht hm hN hd.1)
  ·rename_i hc
   exact wpIn_cond_false (show a.eval c=_ from ev_ok ht ho.glob hc) (ihy hrc h ho ht hm hN hd.2)
  ·cases h
 | block id x ih=>
  intro s outs a w E hrc h ho ht hm hN hd
  simp only [code] at h
  cases h1:code cx x s with
  | none=>simp [h1] at h
  | some o1=>
   simp only [h1,Option.map_some,Option.some.injEq] at h
   subst h
   refine wpIn_block (wpIn_mono (ih hrc h1 ho ht hm hN hd) ?_)
   rintro e a1 w1 ⟨o,hmem,rfl,E1,hat⟩
   obtain⟨xo,so⟩:=o
   cases xo with
   | normal=>exact⟨(.normal,so),List.mem_map.2 ⟨_,hmem,rfl⟩,rfl,E1,hat⟩
   | ret=>exact⟨(.ret,so),List.mem_map.2 ⟨_,hmem,rfl⟩,rfl,E1,hat⟩
   | exit j=>
    show if j=id then _ else _
    by_cases hj:j=id
    ·rw [if_pos hj]
     refine⟨(.normal,so),List.mem_map.2 ⟨_,hmem,?_⟩,rfl,E1,hat⟩
     simp [hj,Nat.beq_refl]
    ·rw [if_neg hj]
     refine⟨(.exit j,so),List.mem_map.2 ⟨_,hmem,?_⟩,rfl,E1,hat⟩
     simp only [nbeq_false hj,cond_false]
 | loop x ih=>
  intro s outs a w E hrc h ho ht hm hN hd
  simp only [code] at h
  refine wpIn_loop_rounds cx.rounds ?_
  have key:∀ (n:Nat) (l:List S) (acc:List Out),iter (code cx x) s n l acc=some outs→(∀ o∈acc,o∈outs) ∧ ∀ s1∈l,∀ E1 a1 w1,At E s.h.get s.nx w N E1 s1 a1 w1 →
    Code.roundsIn (FR r) 0 P x (Came E s.h.get s.nx w N outs) n a1 w1:=by
   intro n
   induction n with
   | zero=>
    intro l acc hi
    cases l with
    | nil=>simp [iter] at hi; subst hi; exact⟨fun o ho=>ho,fun s1 hs1=>by cases hs1⟩
    | cons y ys=>simp [iter] at hi
   | succ n ihn=>
    intro l acc hi
    cases l with
    | nil=>simp [iter] at hi; subst hi; exact⟨fun o ho=>ho,fun s1 hs1=>by cases hs1⟩
    | cons y ys=>
     simp only [iter] at hi
     cases h1:eachL (code cx x) (y::ys) with
     | none=>simp [h1] at hi
     | some os=>
      simp only [h1] at hi
      obtain⟨hacc,hnext⟩:=ihn _ _ hi
      refine⟨fun o hmem=>hacc o (List.mem_append.2 (.inl hmem)),fun s1 hs1 E1 a1 w1 hat => ?_⟩
      obtain⟨o1,ho1,hsub⟩:=eachL_mem h1 s1 hs1
      rw [roundsIn_succ]
      refine wpIn_mono (ih (hrc.mono hat.step.le) ho1 (ho.step hat.step) hat.tr hat.marks hat.size hd) ?_
      rintro e a2 w2 ⟨o,hmem,rfl,E2,hat2⟩
      have hat3:At E s.h.get s.nx w N E2 o.2 a2 w2:=⟨hat.step.trans hat2.step,hat2.tr,hat2.marks,hat2.size⟩
      obtain⟨xo,so⟩:=o
      cases xo with
      | normal=>
       show Code.roundsIn _ _ _ _ _ n a2 w2
       obtain⟨s',hs',hat4⟩:=mergeS_mem (s0:=s) (l:=os.filterMap Out.next) (List.mem_filterMap.2 ⟨_,hsub _ hmem,rfl⟩) hat3
       exact hnext s' hs' E2 a2 w2 hat4
      | exit id=>exact⟨_,hacc _ (List.mem_append.2 (.inr (List.mem_filter.2 ⟨hsub _ hmem,rfl⟩))),rfl,E2,hat3⟩
      | ret=>exact⟨_,hacc _ (List.mem_append.2 (.inr (List.mem_filter.2 ⟨hsub _ hmem,rfl⟩))),rfl,E2,hat3⟩
  exact (key cx.rounds [s] [] h).2 s (List.mem_singleton.2 rfl) E a w ⟨Step.refl ho.rel ho.fresh,ht,hm,hN⟩
 | rangeFunc g ps assign body _ _=>
  intro s outs a w E hrc h ho ht hm hN hd
  exact range_ok hF hR hc1 hc2 hrc h ho ht hm hN hd
 | scope x _=>intro s outs a w E _ h; simp [code] at h
 | goto l=>intro s outs a w E _ h; simp [code] at h
 | refuse why=>intro s outs a w E _ h; simp [code] at h
end
end Ev
namespace Ev
open Go
def packV:List V→V
 | [v]=>v
 | vs=>.tup vs
def resSem (tmps:Array Value):ResultVar→Sem Value
 | .tmp t=>pure (tmps.getD t undef)
 | .cell a t=>do loadVar t (← asAddr (tmps.getD a undef))
theorem results_eq (fn:Func) (tmps:Array Value):results fn tmps=(do
  let vs ← fn.results.mapM (resSem tmps)
  pure (if h:vs.size=1 then vs[0] else .tuple vs)):=by
 unfold results
 congr 1
section
variable {tb:Tab} {P:Program} (hT:TabOk tb P) {E:Env} {w:World}
include hT
theorem resOf_ok {t:T V} {g:H} {tmps:Array Value} {f:ResultVar→Sem Value} (hf1:∀ t,f (.tmp t)=pure (tmps.getD t undef)) (hf2:∀ a t,f (.cell a t)=do loadVar t (← asAddr (tmps.getD a undef))) (ht:TR E t tmps)
  (hr:Rel E g.get w):∀ {rs:List ResultVar} {vs:List V},resOf tb t g rs=some vs → ∃ xs,(rs.mapM f).run P w = .ok xs w∧VRL E vs xs
 | [],vs,h=>by simp [resOf] at h; subst h; exact⟨[],by simp,rfl⟩
 | .tmp i::rs,vs,h=>by
  simp only [resOf] at h
  cases h1:t.get i with
  | none=>simp [h1] at h
  | some v=>
   simp only [h1] at h
   cases h2:resOf tb t g rs with
   | none=>simp [h2] at h
   | some us=>
    simp [h2] at h
    subst h
    obtain⟨x,hx,hv⟩:=ht i v h1
    obtain⟨xs,hrun,hxs⟩:=resOf_ok hf1 hf2 ht hr h2
    refine⟨x::xs,?_,x,xs,rfl,hv,hxs⟩
    have:tmps.getD i undef=x:=by simp [Array.getD_eq_getD_getElem?,hx]
    simp only [List.mapM_cons,Sem.run_bind,hf1,this,Sem.run_pure,Result.andThen_ok,hrun]
 | .cell ad ty::rs,vs,h=>by
  simp only [resOf] at h
  split at h
  ·rename_i n off h1
   cases h3:load tb g ty n off with
   | none=>simp [h3] at h
   | some v=>
    simp only [h3] at h
    cases h2:resOf tb t g rs with
    | none=>simp [h2] at h
    | some us=>
     simp [h2] at h
     subst h
     obtain⟨x,hx,i,hi,rfl⟩:=ht ad _ h1
     obtain⟨y,hy,hv⟩:=load_ok hT h3 hr hi
     obtain⟨xs,hrun,hxs⟩:=resOf_ok hf1 hf2 ht hr h2
     refine⟨y::xs,?_,y,xs,rfl,hv,hxs⟩
     have hA:(asAddr (tmps.getD ad undef)).run P w = .ok ⟨i.blk,off,none⟩ w:=by
      have:tmps.getD ad undef = .pointer (some ⟨i.blk,off,none⟩):=by simp [Array.getD_eq_getD_getElem?,hx]
      rw [this]; rfl
     simp only [List.mapM_cons,Sem.run_bind,hf2,hA,Sem.run_pure,Result.andThen_ok,hy,hrun]
  ·cases h
theorem results_ok {t:T V} {g:H} {tmps:Array Value} {fn:Func} {vs:List V} (ht:TR E t tmps) (hr:Rel E g.get w) (h:resOf tb t g fn.results.toList=some vs) :
  ∃ x,(results fn tmps).run P w = .ok x w∧VR E (packV vs) x:=by
 obtain⟨xs,hrun0,hv⟩:=resOf_ok (P:=P) (f:=resSem tmps) hT (fun _=>rfl) (fun _ _=>rfl) ht hr h
 have hrun:(fn.results.mapM (resSem tmps)).run P w = .ok xs.toArray w:=by
  rw [Array.mapM_eq_mapM_toList]
  simp only [Sem.run_map,hrun0,Result.andThen_ok]
 refine⟨if h:xs.toArray.size=1 then xs.toArray[0] else .tuple xs.toArray,?_,?_⟩
 ·rw [results_eq]; simp only [Sem.run_bind,hrun,Result.andThen_ok,Sem.run_pure]
 ·have hl:=hv.length
  match vs,hv,hl with
  | [],hv,hl=>rw [show xs=[] from hv]; exact⟨[],rfl,rfl⟩
  | [v],⟨y,ys,e,hy,hn⟩,hl=>rw [e,show ys=[] from hn]; exact hy
  | u::v::us,hv,hl=>
   rw [dif_neg (by simp [hl])]
   exact⟨xs,hv,rfl⟩
end
section
variable {tb:Tab} {P:Program} {w0:Base} (hT:TabOk tb P) (hF:FnOk tb P w0) {rc:Rec} (hR:RecOk P w0 rc)
include hT hF hR
omit hF hR in
theorem marks_ok {E E1:Env} {g:G} {nx:Nat} {w:World} {fn:Func} {tmps:Array Value} {t:T V} {v:V} {g':H} {nx':Nat} {vs:List V} {R:Ending→World→Prop} (hRR:∀ e w',Post E g nx w v g'.get nx' e w'→R e w') (ht:TR E1 t tmps):∀ (m:List Nat) (ds:List Deferred) (h:H) (w1:World),MR E1 m ds→takeMarks m h=some g' →
  Step E g nx w E1 h.get nx' w1→resOf tb t g' fn.results.toList=some vs→v=packV vs→LeavesInM (FR none) 0 P fn tmps R ds .returning w1:=by
 intro m
 induction m with
 | nil=>
  intro ds h w1 hm htake hs hres hv
  rw [show ds=[] from hm]
  simp [takeMarks] at htake
  subst htake
  obtain⟨x,hx,hxv⟩:=results_ok (P:=P) hT ht hs.rel hres
  rw [← hv] at hxv
  exact⟨x,hx,hRR _ _ ⟨x,rfl,E1,hxv,hs⟩⟩
 | cons d m ih=>
  intro ds h w1 hm htake hs hres hv
  obtain⟨i,rest,hi,rfl,hmr⟩:=hm
  simp only [takeMarks] at htake
  split at htake
  ·rename_i hg
   obtain⟨i',hi',_,hob⟩:=hs.rel.obj d _ hg
   rw [hi] at hi'; cases hi'
   let w2:World:={ w1 with heap:=w1.heap.setIfInBounds i.blk (.deferred none) }
   have hrun:(Instr.takeDeferred i.blk).run P w1 = .ok [] w2:=by
    simp [Instr.takeDeferred,getObj,setObj,Sem.run,hob,w2]
   have hk:=Step.killed (nx:=nx') hs.rel hs.fresh hg hi (w':=w2) ⟨rfl,rfl,rfl,by simp [w2]⟩ (fun b hb=>by simp [w2,Array.getElem?_setIfInBounds_ne (Ne.symm hb)])
   refine⟨by simp,.inl ⟨i.blk,w2,rfl,hrun,ih rest (h.del d) w2 hmr htake ?_ hres hv⟩⟩
   rw [get_del_rem]
   exact hs.trans hk
  ·cases htake
omit hF hR in
theorem leave_ok {E E1:Env} {g:G} {nx N:Nat} {w w1:World} {fn:Func} {o:Out} {a:Act} {v:V} {g':H} {nx':Nat} {R:Ending→World→Prop} (hRR:∀ e w',Post E g nx w v g'.get nx' e w'→R e w') (hat:At E g nx w N E1 o.2 a w1) (h:leaveFn tb fn o=some (v,g',nx')) :
  (o.1 = .normal∨o.1 = .ret)∧LeavesInM (FR none) 0 P fn a.tmps R a.defers .returning w1:=by
 obtain⟨x,s⟩:=o
 unfold leaveFn at h
 simp only at h hat ⊢
 have hx:x = .normal∨x = .ret:=by
  cases x with
  | normal=>exact .inl rfl
  | ret=>exact .inr rfl
  | exit id=>simp at h
 refine⟨hx,?_⟩
 have h':(match takeMarks s.m s.h with
  | none=>none
  | some h=>match resOf tb s.t h fn.results.toList with
   | some [v]=>some (v,h,s.nx)
   | some vs=>some (V.tup vs,h,s.nx)
   | none=>none:Option R3)=some (v,g',nx'):=by rcases hx with rfl | rfl <;> exact h
 clear h
 cases hm:takeMarks s.m s.h with
 | none=>simp [hm] at h'
 | some h1=>
  simp only [hm] at h'
  cases hres:resOf tb s.t h1 fn.results.toList with
  | none=>simp [hres] at h'
  | some vs=>
   have key:v=packV vs∧h1=g'∧s.nx=nx':=by
    rw [hres] at h'
    match vs,h' with
    | [],h'=>simp at h'; exact⟨h'.1.symm,h'.2⟩
    | [u],h'=>simp at h'; exact⟨h'.1.symm,h'.2⟩
    | u::u'::us,h'=>simp at h'; exact⟨h'.1.symm,h'.2⟩
   obtain⟨hv,rfl,rfl⟩:=key
   exact marks_ok hT hRR hat.tr s.m a.defers s.h w1 hat.marks hm hat.step hres hv
omit hT hF hR in
theorem mapO_mem {α β:Type} {f:α→Option β}:∀ {l:List α} {r:List β},mapO f l=some r → ∀ x∈l,∃ y,f x=some y∧y∈r:=by
 intro l
 induction l with
 | nil=>intro r _ x hx; cases hx
 | cons y l ih=>
  intro r h x hx
  simp only [mapO] at h
  cases h1:f y with
  | none=>simp [h1] at h
  | some z=>
   simp only [h1] at h
   cases h2:mapO f l with
   | none=>simp [h2] at h
   | some zs=>
    simp [h2] at h
    subst h
    rcases List.mem_cons.1 hx with rfl | hx
    ·exact⟨z,h1,List.mem_cons_self ..⟩
    ·obtain⟨u,hu,hm⟩:=ih h2 x hx
     exact⟨u,hu,List.mem_cons_of_mem _ hm⟩
omit hT hF hR in
theorem R3.eq_eq (a b:R3) (h:R3.eq a b=true):a=b:=by
 obtain⟨a1,a2,a3⟩:=a
 obtain⟨b1,b2,b3⟩:=b
 simp only [R3.eq,Bool.and_eq_true] at h
 rw [V.eq_eq _ _ h.1.1,nbeq_true h.1.2,T.eqBy_eq O.eq_eq _ _ h.2]
omit hT hF hR in
theorem oneR_mem {h:H} {rs:List R3} {r:R3} (hd:oneR h rs=some r) {y:R3} (hy:y∈rs):y=r∨gcR (keysT id h) (maxNx rs) y=r:=by
 unfold oneR at hd
 split at hd
 ·rename_i r1 h1
  cases hd
  have:=dedup_mem R3.eq_eq rs y hy
  rw [h1,List.mem_singleton] at this
  exact .inl this
 ·cases hd
 ·split at hd
  ·rename_i r1 h1
   cases hd
   have:=dedup_mem R3.eq_eq (rs.map (gcR (keysT id h) (maxNx rs))) _ (List.mem_map.2 ⟨y,hy,rfl⟩)
   rw [h1,List.mem_singleton] at this
   exact .inr this
  ·cases hd
omit hT hF hR in
theorem maxNx_le:∀ {rs:List R3} {y:R3},y∈rs→y.2.2≤maxNx rs
 | r::rs,y,h=>by
  unfold maxNx
  cases hb:Nat.ble r.2.2 (maxNx rs) with
  | true=>
   rw [cond_true]
   rcases List.mem_cons.1 h with rfl | h
   ·exact nble_le hb
   ·exact maxNx_le h
  | false=>
   rw [cond_false]
   have hlt:¬ r.2.2≤maxNx rs:=fun hh=>by rw [Nat.ble_eq_true_of_le hh] at hb; cases hb
   rcases List.mem_cons.1 h with rfl | h
   ·exact Nat.le_refl _
   ·have:=maxNx_le h
    omega
omit hT hF hR in
theorem gc_post {E:Env} {g:G} {nx:Nat} {w:World} {ns:List Nat} {mx:Nat} {y r:R3} (h:gcR ns mx y=r) (hm:y.2.2≤mx) {e:Ending} {w':World} (hp:Post E g nx w y.1 y.2.1.get y.2.2 e w'):Post E g nx w r.1 r.2.1.get r.2.2 e w':=by
 subst h
 obtain⟨x,rfl,E',hv,hs⟩:=hp
 have hs':=hs.trans (Step.same hs.rel hs.fresh (reach_sub y.2.1 100000 (namesV y.1++ns) .e (fun n o hn=>by rw [T.get_e] at hn; cases hn)) rfl ⟨rfl,rfl,rfl⟩)
 exact⟨x,rfl,E',hv,{ hs' with mono:=Nat.le_trans hs'.mono hm,fresh:=fun n hn=>hs'.fresh n (Nat.le_trans hm hn) }⟩
theorem callBody_ok {rounds f:Nat} {args:List V} {h h':H} {nx nx':Nat} {v:V} (hc:callBody tb rounds rc f args h nx=some (v,h',nx')) {E:Env} {w:World} {xs:List Value} (ho:Ok w0 E h.get nx w) (hx:VRL E args xs) :
  Calls P f xs.toArray w (Post E h.get nx w v h'.get nx'):=by
 unfold callBody at hc
 split at hc
 ·cases hc
 ·rename_i fn hfn
  split at hc
  ·cases hc
  ·rename_i b hb
   cases hcond:(Nat.ble args.length fn.ntmps&&dstOk fn.ntmps b) with
   | false=>rw [hcond] at hc; cases hc
   | true=>
    rw [hcond,cond_true] at hc
    rw [Bool.and_eq_true] at hcond
    have hle:=nble_le hcond.1
    split at hc
    ·cases hc
    ·rename_i outs hcode
     split at hc
     ·cases hc
     ·rename_i rs hmap
      ·have hsz:(xs.toArray++Array.replicate (fn.ntmps-xs.toArray.size) undef).size=fn.ntmps:=by
        have:=hx.length
        simp
        omega
       have htr:TR E (T.ofList .e 0 args) (xs.toArray++Array.replicate (fn.ntmps-xs.toArray.size) undef):=by
        intro k u hk
        rw [T.get_ofList] at hk
        split at hk
        ·rename_i hlt
         simp only [Nat.sub_zero] at hk
         obtain⟨y,hy,hv⟩:=hx.get hk
         refine⟨y,?_,hv⟩
         rw [Array.getElem?_append_left (by have:=hx.length; simp; omega)]
         simpa using hy
        ·simp [T.get_e] at hk
       have hwp:=code_ok (cx:={ tb:=tb,rc:=rc,inRound:=none,rounds:=rounds }) (r:=none) hT hF hR rfl rfl b (N:=fn.ntmps) (a:={ tmps:=xs.toArray++Array.replicate (fn.ntmps-xs.toArray.size) undef,defers:=[] })
        (E:=E) (w:=w) rfl hcode ho htr rfl hsz hcond.2
       refine callsIn_wide.1 (callsIn_of_wp_marks (F:=FR none) (n:=0) (hT.fn f fn hfn) hb trivial ?_)
       refine wpIn_mono hwp ?_
       rintro e a1 w1 ⟨o,hmem,rfl,E1,hat⟩
       obtain⟨y,hy,hym⟩:=mapO_mem hmap o hmem
       obtain⟨yv,yh,yn⟩:=y
       obtain⟨hox,hl⟩:=leave_ok (P:=P) (R:=Post E h.get nx w v h'.get nx') hT (fun e w' hp=>by
        rcases oneR_mem hc hym with he | he
        ·cases he; exact hp
        ·exact gc_post he (maxNx_le hym) hp) hat hy
       rcases hox with hox | hox <;> rw [hox] <;> exact hl
end
end Ev
namespace Ev
open Go
theorem setParams_ok {E:Env}:∀ (ps:List Nat) (args:List V) (xs:List Value) {t:T V} {tmps:Array Value},ps.length=args.length→VRL E args xs→TR E t tmps→ps.all (Nat.blt · tmps.size)=true →
  TR E (setParams ps args t) ((ps.zip xs).foldl (fun tm p=>tm.setIfInBounds p.1 p.2) tmps)∧((ps.zip xs).foldl (fun tm p=>tm.setIfInBounds p.1 p.2) tmps).size=tmps.size
 | [],args,xs,t,tmps,_,_,ht,_=>by
  cases args <;> exact⟨ht,rfl⟩
 | p::ps,[],xs,t,tmps,hl,_,_,_=>by simp at hl
 | p::ps,v::args,xs,t,tmps,hl,⟨x,xs',hx,hv,hvs⟩,ht,ha=>by
  subst hx
  rw [List.all_cons,Bool.and_eq_true] at ha
  have hp:=nblt_lt ha.1
  have ht':TR E (t.set p v) (tmps.setIfInBounds p x):=by
   intro k u hk
   rw [T.get_set] at hk
   by_cases h:k=p
   ·subst h
    simp at hk
    subst hk
    exact⟨x,by simp [hp],hv⟩
   ·simp only [if_neg h] at hk
    obtain⟨y,hy,hu⟩:=ht k u hk
    exact⟨y,by rw [Array.getElem?_setIfInBounds_ne (fun e=>h e.symm)]; exact hy,hu⟩
  have:=setParams_ok ps args xs' (t:=t.set p v) (tmps:=tmps.setIfInBounds p x) (by simpa using hl) hvs ht' (by simpa using ha.2)
  simpa [setParams] using this
section
variable {tb:Tab} {P:Program} {w0:Base} (hT:TabOk tb P) (hF:FnOk tb P w0) {rc:Rec} (hR:RecOk P w0 rc)
include hT hF hR
omit hT hF hR in
theorem loop_write {E:Env} {g:H} {nx l:Nat} {w:World} {i:Info} {st st':LoopState} {pend pend':Option Code} {t:T V} {ps:List Nat} {as bd:Code} {d:Nat} (hr:Rel E g.get w) (hf:Fresh E nx) (hg:g.get l=some (.loop st pend t ps as bd d))
  (hi:E.at_ l=some i):∃ (r:Loop) (w':World),(Instr.getLoop i.blk).run P w = .ok r w∧r.state=st∧(setObj i.blk (.loop { r with state:=st',pending:=pend' })).run P w = .ok () w'∧Step E g.get nx w E (g.set l (.loop st' pend' t ps as bd d)).get nx w':=by
 obtain⟨i',hi',dd,fn,tmps,hd,hob,h1,h2⟩:=hr.obj l _ hg
 rw [hi] at hi'; cases hi'
 have hlt:=(Array.getElem?_eq_some_iff.1 hob).1
 refine⟨{ state:=st,pending:=pend,fn:=fn,tmps:=tmps,params:=ps.toArray,assign:=as,body:=bd,defers:=dd.blk },
  { w with heap:=w.heap.setIfInBounds i.blk (.loop { state:=st',pending:=pend',fn:=fn,tmps:=tmps,params:=ps.toArray,assign:=as,body:=bd,defers:=dd.blk }) },?_,rfl,?_,?_⟩
 ·simp only [Instr.getLoop,Sem.run_bind,getObj,Sem.run,hob,Result.andThen_ok,Sem.run_pure]
 ·simp only [setObj,Sem.run,hob]
 ·rw [get_set_upd]
  refine Step.write hr hf hg hi ⟨rfl,rfl,rfl,by simp⟩ (fun b hb=>by simp [Array.getElem?_setIfInBounds_ne (Ne.symm hb)]) ⟨dd,fn,tmps,hd,?_,h1,h2⟩
  simp [hlt]
theorem roundBody_ok {rounds l:Nat} {args:List V} {h h':H} {nx nx':Nat} {v:V} (hc:roundBody tb rounds rc l args h nx=some (v,h',nx')) {E:Env} {w:World} {xs:List Value} {i:Info} (ho:Ok w0 E h.get nx w) (hi:E.at_ l=some i) (hx:VRL E args xs) :
  ∃ fn tmps assign body,(Instr.yield i.blk xs.toArray).run P w = .ok (.round i.blk fn tmps assign body) w ∧ ∀ r,RoundIn (FR r) 0 P i.blk fn tmps assign body w (Post E h.get nx w v h'.get nx'):=by
 unfold roundBody at hc
 split at hc
 case h_2=>cases hc
 rename_i pend t ps assign body d hg
 cases hlen:Nat.beq args.length ps.length with
 | false=>rw [hlen] at hc; cases hc
 | true=>
  rw [hlen,cond_true] at hc
  have hl:=nbeq_true hlen
  simp only at hc
  obtain⟨i',hi',dd,fn,tmps,hd,hob,htr,hda,hdb,hps⟩:=ho.rel.obj l _ hg
  rw [hi] at hi'; cases hi'
  have hgl:(Instr.getLoop i.blk).run P w = .ok { state:=.ready,pending:=pend,fn:=fn,tmps:=tmps,params:=ps.toArray,assign:=assign,body:=body,defers:=dd.blk } w:=by
   simp only [Instr.getLoop,Sem.run_bind,getObj,Sem.run,hob,Result.andThen_ok,Sem.run_pure]
  obtain⟨htr1,hsz1⟩:=setParams_ok ps args xs hl.symm hx htr hps
  refine⟨fn,(ps.zip xs).foldl (fun tm p=>tm.setIfInBounds p.1 p.2) tmps,assign,body,?_,fun r => ?_⟩
  ·have hsz:¬ (xs.toArray.size≠ps.toArray.size):=by simp [hx.length,hl]
   have hz:(ps.toArray.zip xs.toArray).foldl (fun tmps p=>tmps.setIfInBounds p.1 p.2) tmps=(ps.zip xs).foldl (fun tm p=>tm.setIfInBounds p.1 p.2) tmps:=by
    rw [← Array.foldl_toList]; simp
   simp only [Instr.yield,Sem.run_bind,hgl,Result.andThen_ok,if_neg hsz,Sem.run_pure]
   rw [← hz]
  ·split at hc
   case h_2=>cases hc
   rename_i s1 hassign
   split at hc
   case h_2=>cases hc
   rename_i p1 t1 ps1 a1 b1 d1 hl1
   split at hc
   ·cases hc
   ·rename_i outs hbody
    split at hc
    case h_2=>cases hc
    rename_i rr hmap
    cases hc
    refine roundIn_of_wpIn (F:=FR r) (n:=0) trivial ?_
    have hwa:=code_ok (cx:={ tb:=tb,rc:=rc,inRound:=some l,rounds:=rounds }) (r:=some i.blk) hT hF hR rfl rfl assign (N:=tmps.size)
     (a:={ tmps:=(ps.zip xs).foldl (fun tm p=>tm.setIfInBounds p.1 p.2) tmps,defers:=[] }) (E:=E) (w:=w) ⟨i,hi,rfl⟩ hassign ho htr1 rfl hsz1 hda
    refine wpIn_mono (F:=FR (some i.blk)) hwa ?_
    rintro e a1' w1 ⟨o,hmem,rfl,E1,hat⟩
    rw [List.mem_singleton] at hmem
    subst hmem
    have hi1:=hat.step.le.2 _ _ hi
    have ho1:=ho.step hat.step
    obtain⟨rl,w2,hgl1,hst,hset,hstep⟩:=loop_write (P:=P) (st':=.busy) (pend':=p1) ho1.rel ho1.fresh hl1 hi1
    have hpend:rl={ rl with pending:=p1 }:=by
     obtain⟨i'',hi'',dd'',fn'',tm'',_,hob'',_⟩:=ho1.rel.obj l _ hl1
     rw [hi1] at hi''; cases hi''
     have:(Instr.getLoop i.blk).run P w1 = .ok { state:=.ready,pending:=p1,fn:=fn'',tmps:=tm'',params:=ps1.toArray,assign:=a1,body:=b1,defers:=dd''.blk } w1:=by
      simp only [Instr.getLoop,Sem.run_bind,getObj,Sem.run,hob'',Result.andThen_ok,Sem.run_pure]
     rw [this] at hgl1
     cases hgl1
     rfl
    refine⟨w2,?_,?_⟩
    ·have hset':(setObj i.blk (.loop { rl with state:=.busy })).run P w1 = .ok () w2:=by rw [hpend]; exact hset
     simp only [Instr.beginRound,Sem.run_bind,hgl1,Result.andThen_ok,hset',hst,Sem.run_pure]
    ·have hat2:At E h.get nx w tmps.size E1 { s1 with h:=s1.h.set l (.loop .busy p1 t1 ps1 a1 b1 d1) } a1' w2:=⟨hat.step.trans hstep,hat.tr,hat.marks,hat.size⟩
     have ho2:=ho.step hat2.step
     have hwb:=code_ok (cx:={ tb:=tb,rc:=rc,inRound:=some l,rounds:=rounds }) (r:=some i.blk) hT hF hR rfl rfl body (N:=tmps.size) (a:=a1') (E:=E1) (w:=w2) ⟨i,hi1,rfl⟩ hbody ho2 hat2.tr hat2.marks hat2.size hdb
     refine wpIn_mono (F:=FR (some i.blk)) hwb ?_
     rintro e a3 w3 ⟨o,hmem,rfl,E3,hat3⟩
     obtain⟨y,hy,hym⟩:=mapO_mem hmap o hmem
     rw [List.mem_singleton] at hym
     subst hym
     have hi3:=hat3.step.le.2 _ _ hi1
     have hs3:=hat2.step.trans hat3.step
     obtain⟨xo,so⟩:=o
     unfold endRound at hy
     simp only at hy
     split at hy
     ·cases hy
     ·split at hy
      ·rename_i st3 pd3 t3 ps3 a3' b3 d3 hl3
       have key:∀ (jump:Option Code) (st':LoopState),st'=(if jump.isNone then .ready else .done)→(V.bool jump.isNone,so.h.set l (.loop st' jump t3 ps3 a3' b3 d3),so.nx)=(v,h',nx') →
         ∃ v' w',(Instr.endRound i.blk jump).run P w3 = .ok v' w'∧Post E h.get nx w v h'.get nx' (.returned v') w':=by
        rintro jump st' hst' he
        cases he
        obtain⟨rl3,w4,hgl3,_,hset3,hstep3⟩:=loop_write (P:=P) (st':=st') (pend':=jump) hs3.rel hs3.fresh hl3 hi3
        refine⟨.bool jump.isNone,w4,?_,.bool jump.isNone,rfl,E3,rfl,hs3.trans hstep3⟩
        rw [hst'] at hset3
        simp only [Instr.endRound,Sem.run_bind,hgl3,Result.andThen_ok,hset3,Sem.run_pure]
       cases xo with
       | normal=>exact key none .ready rfl (by simpa using hy)
       | ret=>exact key (some .ret) .done rfl (by simpa using hy)
       | exit id=>exact key (some (.exit id)) .done rfl (by simpa using hy)
      ·cases hy
end
theorem recN_ok {tb:Tab} {P:Program} {w0:Base} (hT:TabOk tb P) (hF:FnOk tb P w0) (rounds:Nat):∀ n,RecOk P w0 (recN tb rounds n)
 | 0=>⟨fun f args h nx v h' nx' hc=>by simp [recN] at hc,fun l args h nx v h' nx' hc=>by simp [recN] at hc⟩
 | n+1=>⟨fun f args h nx v h' nx' hc E w xs ho hx=>callBody_ok hT hF (recN_ok hT hF rounds n) hc ho hx,fun l args h nx v h' nx' hc E w xs i ho hi hx=>roundBody_ok hT hF (recN_ok hT hF rounds n) hc ho hi hx⟩
end Ev
namespace Ev
open Go
mutual
def plainV:V→Bool
 | .bool _ | .int _ _ | .str _ | .nilp | .nils | .nilm | .nilf | .nili | .sym _=>true
 | .iface _ v=>plainV v
 | .agg cs=>plainL cs
 | .tup cs=>plainL cs
 | .fn _ a b=>plainL a&&plainL b
 | .ptr n _=>Nat.ble 32 n&&Nat.blt n 64
 | .slice n _ _ _=>Nat.ble 32 n&&Nat.blt n 64
 | _=>false
def plainL:List V→Bool
 | []=>true
 | v::vs=>plainV v&&plainL vs
end
mutual
theorem VR.plain {w0:Base} {E E':Env} (hE:StatOk w0 E) (hE':StatOk w0 E'):∀ (v:V) (x:Value),plainV v=true→VR E v x→VR E' v x
 | .bool _,_,_,h | .int _ _,_,_,h | .str _,_,_,h | .nilp,_,_,h | .nils,_,_,h | .nilm,_,_,h | .nilf,_,_,h | .nili,_,_,h=>h
 | .sym i,x,_,h=>by show x=E'.sym i; rw [hE'.sym,← hE.sym]; exact h
 | .iface _ v,_,hp,⟨y,hy,e⟩=>⟨y,VR.plain hE hE' v y hp hy,e⟩
 | .agg cs,_,hp,⟨xs,hx,e⟩=>⟨xs,VRL.plain hE hE' cs xs hp hx,e⟩
 | .tup cs,_,hp,⟨xs,hx,e⟩=>⟨xs,VRL.plain hE hE' cs xs hp hx,e⟩
 | .fn _ a b,_,hp,⟨xs,ys,hx,hy,e⟩=>by
  simp only [plainV,Bool.and_eq_true] at hp
  exact⟨xs,ys,VRL.plain hE hE' a xs hp.1 hx,VRL.plain hE hE' b ys hp.2 hy,e⟩
 | .ptr n _,_,hp,⟨i,hi,e⟩=>by
  simp only [plainV,Bool.and_eq_true] at hp
  rw [hE.stat n (nble_le hp.1) (nblt_lt hp.2)] at hi
  exact⟨i,by rw [hE'.stat n (nble_le hp.1) (nblt_lt hp.2)]; exact hi,e⟩
 | .slice n _ _ _,_,hp,⟨i,hi,e⟩=>by
  simp only [plainV,Bool.and_eq_true] at hp
  rw [hE.stat n (nble_le hp.1) (nblt_lt hp.2)] at hi
  exact⟨i,by rw [hE'.stat n (nble_le hp.1) (nblt_lt hp.2)]; exact hi,e⟩
 | .map _,_,hp,_=>by simp [plainV] at hp
 | .yld _,_,hp,_=>by simp [plainV] at hp
theorem VRL.plain {w0:Base} {E E':Env} (hE:StatOk w0 E) (hE':StatOk w0 E'):∀ (vs:List V) (xs:List Value),plainL vs=true→VRL E vs xs→VRL E' vs xs
 | [],_,_,h=>h
 | v::vs,_,hp,⟨y,ys,e,hy,hr⟩=>by
  simp only [plainL,Bool.and_eq_true] at hp
  exact⟨y,ys,e,VR.plain hE hE' v y hp.1 hy,VRL.plain hE hE' vs ys hp.2 hr⟩
end
def Contract (P:Program) (w0:Base) (f:Nat) (args:List V) (v:V):Prop:=
 ∀ (E:Env) (w:World) (xs:List Value),StatOk w0 E→VRL E args xs→w0.heap.size≤w.heap.size→(∀ b,b<w0.heap.size→w0.frz b→w.heap[b]? = w0.heap[b]?) →
  Calls P f xs.toArray w fun e w' => ∃ x,e = .returned x∧VR E v x∧Grew w w' ∧ ∀ b,b<w.heap.size→w'.heap[b]? = w.heap[b]?
def baseE (w0:Base) (h:∀ i,oneV (w0.sym i)):Env:={ at_:=fun n=>if n<32 then some { blk:=n,size:=0,unit:=0 } else if n<64 then some (w0.stat n) else none,sym:=w0.sym,one:=h }
theorem base_stat {w0:Base} {h:∀ i,oneV (w0.sym i)}:StatOk w0 (baseE w0 h):=⟨rfl,fun g h1 h2=>by
 have:¬ g<32:=by omega
 simp [baseE,this,h2]⟩
theorem base_ok {w0:Base} {w:World} {h:∀ i,oneV (w0.sym i)} (h1:w0.heap.size≤w.heap.size) (h2:∀ b,b<w0.heap.size→w0.frz b→w.heap[b]? = w0.heap[b]?):Ok w0 (baseE w0 h) (T.e:H).get 64 w:=by
 refine⟨⟨fun n o hn => ?_,fun n m o p i j hn => ?_⟩,fun n hn => ?_,fun g hg=>⟨{ blk:=g,size:=0,unit:=0 },by simp [baseE,hg],rfl⟩,⟨h1,h2,fun b _ _ ⟨n,o,i,hn,_⟩ => ?_⟩,base_stat⟩
 ·rw [T.get_e] at hn; cases hn
 ·rw [T.get_e] at hn; cases hn
 ·have h1:¬ n<32:=by omega
  have h2:¬ n<64:=by omega
  simp [baseE,h1,h2]
 ·rw [T.get_e] at hn; cases hn
noncomputable def memoOk (tb:Tab) (rounds n:Nat) (f:Nat) (args:List V) (v:V):Bool:=
 plainV v&&plainL args&&match (recN tb rounds n).call f args .e 64 with
  | some (u,_,_)=>V.eq u v
  | none=>false
section
variable {tb:Tab} {P:Program} {w0:Base} (hT:TabOk tb P) (hF:FnOk tb P w0)
include hT hF
theorem memo_ok {rounds n f:Nat} {args:List V} {v:V} (h:memoOk tb rounds n f args v=true):Contract P w0 f args v:=by
 intro E w xs h0 hx h1 h2
 simp only [memoOk,Bool.and_eq_true] at h
 obtain⟨⟨hv,ha⟩,h⟩:=h
 split at h
 ·rename_i u h' nx' hc
  have:=V.eq_eq _ _ h
  subst this
  have h1v:∀ i,oneV (w0.sym i):=fun i=>by rw [← h0.sym]; exact E.one i
  refine Calls.mono ((recN_ok hT hF (rounds:=rounds) n).call f args .e 64 u h' nx' hc (baseE w0 h1v) w xs (base_ok h1 h2) (VRL.plain h0 base_stat args xs ha hx)) ?_
  rintro e w' ⟨x,rfl,E',hvx,hs⟩
  refine⟨x,rfl,VR.plain (base_stat.mono hs.le) h0 u x hv hvx,hs.grew,fun b hb=>hs.frame b hb ?_⟩
  ·rintro⟨n,o,i,hn,_⟩
   rw [T.get_e] at hn; cases hn
 ·cases h
end
abbrev Memo:=List (Nat × List (List V × V))
noncomputable def look:List (List V × V)→List V→Option V
 | [],_=>none
 | p::r,args=>cond (V.eqL p.1 args) (some p.2) (look r args)
theorem look_mem:∀ {l:List (List V × V)} {args:List V} {v:V},look l args=some v→(args,v)∈l
 | [],_,_,h=>by cases h
 | p::r,args,v,h=>by
  simp only [look] at h
  cases h1:V.eqL p.1 args with
  | true=>
   rw [h1] at h
   cases h
   rw [← V.eqL_eq _ _ h1]
   exact List.mem_cons_self ..
  | false=>
   rw [h1] at h
   exact List.mem_cons_of_mem _ (look_mem h)
noncomputable def mkMemo:Memo→T (List (List V × V))
 | []=>.e
 | e::r=>(mkMemo r).set e.1 e.2
theorem mkMemo_mem:∀ {l:Memo} {f:Nat} {r:List (List V × V)},(mkMemo l).get f=some r→(f,r)∈l
 | [],f,r,h=>by rw [mkMemo,T.get_e] at h; cases h
 | e::l,f,r,h=>by
  rw [mkMemo,T.get_set] at h
  by_cases hf:f=e.1
  ·subst hf
   simp at h
   subst h
   exact List.mem_cons_self ..
  ·rw [if_neg hf] at h
   exact List.mem_cons_of_mem _ (mkMemo_mem h)
noncomputable def primOf (t:T (List (List V × V))) (f:Nat) (args:List V):Option V:=
 match t.get f with
 | some l=>look l args
 | none=>none
def Memos (P:Program) (w0:Base) (l:Memo):Prop := ∀ e∈l,∀ p∈e.2,Contract P w0 e.1 p.1 p.2
theorem Memos.append {P:Program} {w0:Base} {l m:Memo} (h:Memos P w0 l) (h':Memos P w0 m):Memos P w0 (l++m):=fun e he=>(List.mem_append.1 he).elim (h e) (h' e)
noncomputable def chk (tb:Tab) (rounds n:Nat) (l:Memo):Bool:=l.all fun e=>e.2.all fun p=>memoOk tb rounds n e.1 p.1 p.2
theorem chk_ok {tb:Tab} {P:Program} {w0:Base} (hT:TabOk tb P) (hF:FnOk tb P w0) {rounds n:Nat} {l:Memo} (h:chk tb rounds n l=true):Memos P w0 l:=by
 intro e he p hp
 simp only [chk,List.all_eq_true] at h
 exact memo_ok hT hF (h e he p hp)
def AllC (P:Program) (w0:Base) (f:Nat) (l:List (List V × V)):Prop := ∀ p∈l,Contract P w0 f p.1 p.2
theorem AllC.append {P:Program} {w0:Base} {f:Nat} {l m:List (List V × V)} (h:AllC P w0 f l) (h':AllC P w0 f m):AllC P w0 f (l++m):=fun e he=>(List.mem_append.1 he).elim (h e) (h' e)
noncomputable def chkF (tb:Tab) (rounds n f:Nat) (l:List (List V × V)):Bool:=l.all fun p=>memoOk tb rounds n f p.1 p.2
theorem chkF_ok {tb:Tab} {P:Program} {w0:Base} (hT:TabOk tb P) (hF:FnOk tb P w0) {rounds n f:Nat} {l:List (List V × V)} (h:chkF tb rounds n f l=true):AllC P w0 f l:=by
 intro p hp
 simp only [chkF,List.all_eq_true] at h
 exact memo_ok hT hF (h p hp)
theorem Memos.nil {P:Program} {w0:Base}:Memos P w0 []:=fun _ he=>(List.not_mem_nil he).elim
theorem Memos.cons {P:Program} {w0:Base} {f:Nat} {r:List (List V × V)} {l:Memo} (h:AllC P w0 f r) (h':Memos P w0 l):Memos P w0 ((f,r)::l):=fun e he=>
 (List.mem_cons.1 he).elim (fun e1=>by subst e1; exact h) (h' e)
noncomputable def outIn (h:H):List (Nat × O)→Bool
 | []=>true
 | p::r=>(match h.get p.1 with | some x=>O.eq x p.2 | none=>false)&&outIn h r
theorem outIn_mem {h:H}:∀ {l:List (Nat × O)},outIn h l=true → ∀ p∈l,h.get p.1=some p.2
 | [],_,p,hp=>(List.not_mem_nil hp).elim
 | q::r,hl,p,hp=>by
  simp only [outIn,Bool.and_eq_true] at hl
  rcases List.mem_cons.1 hp with rfl | hp
  ·have h1:=hl.1
   split at h1
   ·rename_i x hx
    rw [hx,O.eq_eq _ _ h1]
   ·cases h1
  ·exact outIn_mem hl.2 p hp
noncomputable def rmChk (tb:Tab) (rounds n f:Nat) (e:RM):Bool:=
 match (recN tb rounds n).call f e.args (T.ofList .e 64 e.sub) (64+e.sub.length) with
 | some (v,h',nx')=>V.eq v e.v&&Nat.beq nx' (64+e.sub.length+e.made)&&outIn h' e.out
 | none=>false
theorem rm_ok {tb:Tab} {P:Program} {w0:Base} (hT:TabOk tb P) (hF:FnOk tb P w0) {rounds n f:Nat} {e:RM} (h:rmChk tb rounds n f e=true):RmOk P w0 f e:=by
 intro E w xs ho hx
 unfold rmChk at h
 split at h
 ·rename_i v h' nx' hc
  simp only [Bool.and_eq_true] at h
  have e1:=V.eq_eq _ _ h.1.1
  have e2:=nbeq_true h.1.2
  refine Calls.mono ((recN_ok hT hF (rounds:=rounds) n).call f e.args _ _ v h' nx' hc E w xs ho hx) ?_
  rintro en w' ⟨x,rfl,E',hvx,hs⟩
  rw [e2] at hs
  exact⟨x,rfl,E',h'.get,by rw [← e1]; exact hvx,hs,outIn_mem h.2⟩
 ·cases h
def AllR (P:Program) (w0:Base) (f:Nat) (l:List RM):Prop := ∀ e∈l,RmOk P w0 f e
theorem AllR.append {P:Program} {w0:Base} {f:Nat} {l m:List RM} (h:AllR P w0 f l) (h':AllR P w0 f m):AllR P w0 f (l++m):=fun e he=>(List.mem_append.1 he).elim (h e) (h' e)
noncomputable def chkR (tb:Tab) (rounds n f:Nat) (l:List RM):Bool:=l.all fun e=>rmChk tb rounds n f e
theorem chkR_ok {tb:Tab} {P:Program} {w0:Base} (hT:TabOk tb P) (hF:FnOk tb P w0) {rounds n f:Nat} {l:List RM} (h:chkR tb rounds n f l=true):AllR P w0 f l:=by
 intro e he
 simp only [chkR,List.all_eq_true] at h
 exact rm_ok hT hF (h e he)
abbrev Kept:=List (Nat × List RM)
def Kepts (P:Program) (w0:Base) (l:Kept):Prop := ∀ e∈l,AllR P w0 e.1 e.2
theorem Kepts.nil {P:Program} {w0:Base}:Kepts P w0 []:=fun _ he=>(List.not_mem_nil he).elim
theorem Kepts.cons {P:Program} {w0:Base} {f:Nat} {r:List RM} {l:Kept} (h:AllR P w0 f r) (h':Kepts P w0 l):Kepts P w0 ((f,r)::l):=fun e he=>
 (List.mem_cons.1 he).elim (fun e1=>by subst e1; exact h) (h' e)
noncomputable def mkKept:Kept→T (List RM)
 | []=>.e
 | e::r=>(mkKept r).set e.1 e.2
theorem mkKept_mem:∀ {l:Kept} {f:Nat} {r:List RM},(mkKept l).get f=some r→(f,r)∈l
 | [],f,r,h=>by rw [mkKept,T.get_e] at h; cases h
 | e::l,f,r,h=>by
  rw [mkKept,T.get_set] at h
  by_cases hf:f=e.1
  ·subst hf
   simp at h
   subst h
   exact List.mem_cons_self ..
  ·rw [if_neg hf] at h
   exact List.mem_cons_of_mem _ (mkKept_mem h)
noncomputable def Tab.both (tb:Tab) (t:T (List (List V × V))) (k:T (List RM)):Tab:={ tb with prim:=primOf t,rm:=k.get }
end Ev
namespace Ev
open Go
def CallOk (P:Program) (M:Mem) (f:Nat) (xs:List Value) (y:Value):Prop:=
 ∀ w:World,M.heap.size≤w.heap.size→(∀ b,b<M.heap.size→M.frz b→w.heap[b]? = M.heap[b]?) →
  Calls P f xs.toArray w fun e w'=>e = .returned y∧Grew w w' ∧ ∀ b,b<w.heap.size→w'.heap[b]? = w.heap[b]?
theorem CallOk.le {P:Program} {M M':Mem} {f:Nat} {xs:List Value} {y:Value} (h:CallOk P M f xs y) (hl:M.Le M'):CallOk P M' f xs y:=
 fun w g1 g2=>h w (Nat.le_trans hl.size g1) (hl.on g2)
theorem Contract.callOk {P:Program} {w0:Base} {f:Nat} {args:List V} {v:V} (h:Contract P w0 f args v) {E:Env} (hE:StatOk w0 E) {xs:List Value} (hx:VRL E args xs) {y:Value} (hy:VR E v y):CallOk P w0.toMem f xs y:=by
 intro w h1 h2
 refine (h E w xs hE hx h1 h2).mono ?_
 rintro e w' ⟨r,rfl,hv,hg,hb⟩
 exact⟨by rw [VR.det v r y hv hy],hg,hb⟩
theorem CallOk.contract {P:Program} {w0:Base} {M:Mem} {f:Nat} {args:List V} {v:V} {xs:List Value} {y:Value} (h:CallOk P M f xs y) (hl:M.Le w0.toMem)
  (hx:∀ E,StatOk w0 E→VRL E args xs) (hy:∀ E,StatOk w0 E→VR E v y):Contract P w0 f args v:=by
 intro E w ys hE hys g1 g2
 have:ys=xs:=VRL.det args ys xs hys (hx E hE)
 subst this
 refine (h.le hl w g1 g2).mono ?_
 rintro e w' ⟨rfl,hg,hb⟩
 exact⟨y,rfl,hy E hE,hg,hb⟩
def Lies (w0:Base) (n:Nat) (cs:List V):Prop:=
 32≤n∧n<64∧(w0.stat n).blk<w0.heap.size∧w0.frz (w0.stat n).blk ∧ ∃ rc e fr,w0.heap[(w0.stat n).blk]? = some (.cells rc e fr) ∧ ∀ E,StatOk w0 E→CellsR E cs rc
def fz (n:Nat):Nat:=n-32
def FzOk (P:Program) (B:Base) (f:Nat) (args:List V) (sub:List (List V)) (v:V):Prop:=
 ∀ w0:Base,w0.sym=B.sym→B.toMem.Le w0.toMem→(∀ j cs,sub[j]? = some cs→Lies w0 (32+j) (renL fz cs))→Contract P w0 f (renL fz args) v
def subCells:List O→Option (List (List V))
 | []=>some []
 | .cells c _ _ _::r=>match subCells r with
  | none=>none
  | some l=>some (c::l)
 | _::_=>none
theorem subCells_get:∀ {l:List O} {r:List (List V)} {j:Nat} {c:List V},subCells l=some r→r[j]? = some c → ∃ e u z,l[j]? = some (.cells c e u z)
 | [],r,j,c,h,hj=>by cases h; simp at hj
 | o::l,r,j,c,h,hj=>by
  cases o <;> simp only [subCells] at h <;> try (cases h; done)
  rename_i c' e u z
  cases hs:subCells l with
  | none=>rw [hs] at h; cases h
  | some q=>
   rw [hs] at h
   cases h
   cases j with
   | zero=>simp at hj; subst hj; exact⟨e,u,z,rfl⟩
   | succ j=>exact subCells_get (j:=j) hs (by simpa using hj)
theorem subCells_len:∀ {l:List O} {r:List (List V)},subCells l=some r→r.length=l.length
 | [],r,h=>by cases h; rfl
 | o::l,r,h=>by
  cases o <;> simp only [subCells] at h <;> try (cases h; done)
  cases hs:subCells l with
  | none=>rw [hs] at h; cases h
  | some q=>rw [hs] at h; cases h; simp [subCells_len hs]
mutual
def nmV (k:Nat):V→Bool
 | .ptr n _=>Nat.ble 64 n&&Nat.blt n (64+k)
 | .slice n _ _ _=>Nat.ble 64 n&&Nat.blt n (64+k)
 | .map _ | .yld _=>false
 | .fn _ a b=>nmL k a&&nmL k b
 | .iface _ v=>nmV k v
 | .agg cs=>nmL k cs
 | .tup cs=>nmL k cs
 | _=>true
def nmL (k:Nat):List V→Bool
 | []=>true
 | v::vs=>nmV k v&&nmL k vs
end
mutual
theorem VR.fz {E E2:Env} {r:Nat→Nat} {k:Nat} (hs:E2.sym=E.sym) (h:∀ j i,j<k→E.at_ (r (64+j))=some i→E2.at_ (32+j)=some i):∀ (v:V) (x:Value),nmV k v=true→VR E (renV r v) x→VR E2 (renV fz v) x
 | .bool _,_,_,hx | .int _ _,_,_,hx | .str _,_,_,hx | .nilp,_,_,hx | .nils,_,_,hx | .nilm,_,_,hx | .nilf,_,_,hx | .nili,_,_,hx=>hx
 | .sym i,x,_,hx=>by show x=E2.sym i; rw [hs]; exact hx
 | .ptr n o,x,hn,⟨i,hi,e⟩=>by
  simp only [nmV,Bool.and_eq_true] at hn
  have h1:=nble_le hn.1
  have h2:=nblt_lt hn.2
  have:=h (n-64) i (by omega) (by rw [show 64+(n-64)=n from by omega]; exact hi)
  exact⟨i,by rw [Ev.fz,show n-32=32+(n-64) from by omega]; exact this,e⟩
 | .slice n o l c,x,hn,⟨i,hi,e⟩=>by
  simp only [nmV,Bool.and_eq_true] at hn
  have h1:=nble_le hn.1
  have h2:=nblt_lt hn.2
  have:=h (n-64) i (by omega) (by rw [show 64+(n-64)=n from by omega]; exact hi)
  exact⟨i,by rw [Ev.fz,show n-32=32+(n-64) from by omega]; exact this,e⟩
 | .map _,_,hn,_=>by simp [nmV] at hn
 | .yld _,_,hn,_=>by simp [nmV] at hn
 | .fn f a b,x,hn,⟨xs,ys,ha,hb,e⟩=>by
  simp only [nmV,Bool.and_eq_true] at hn
  exact⟨xs,ys,VRL.fz hs h a xs hn.1 ha,VRL.fz hs h b ys hn.2 hb,e⟩
 | .iface t v,x,hn,⟨y,hy,e⟩=>⟨y,VR.fz hs h v y hn hy,e⟩
 | .agg cs,x,hn,⟨xs,hx,e⟩=>⟨xs,VRL.fz hs h cs xs hn hx,e⟩
 | .tup cs,x,hn,⟨xs,hx,e⟩=>⟨xs,VRL.fz hs h cs xs hn hx,e⟩
theorem VRL.fz {E E2:Env} {r:Nat→Nat} {k:Nat} (hs:E2.sym=E.sym) (h:∀ j i,j<k→E.at_ (r (64+j))=some i→E2.at_ (32+j)=some i):∀ (vs:List V) (xs:List Value),nmL k vs=true→VRL E (renL r vs) xs→VRL E2 (renL fz vs) xs
 | [],_,_,hx=>hx
 | v::vs,_,hn,⟨y,ys,e,hy,hs'⟩=>by
  simp only [nmL,Bool.and_eq_true] at hn
  exact⟨y,ys,e,VR.fz hs h v y hn.1 hy,VRL.fz hs h vs ys hn.2 hs'⟩
end
noncomputable def fits (ord:List Nat) (args:List V) (h:H) (nx:Nat) (pargs:List V) (psub:List O):Bool:=
 V.eqL (renL (invN ord ord.length nx) pargs) args&&matchSub (invN ord ord.length nx) h psub ord&&Nat.ble ord.length 32
def patOk (pargs:List V) (psub:List O):Bool:=
 nmL psub.length pargs&&match subCells psub with
  | some cs=>cs.all (nmL psub.length)
  | none=>false
theorem matchSub_at {r:Nat→Nat} {h:H}:∀ {os:List O} {ns:List Nat},matchSub r h os ns=true→os.length=ns.length ∧ ∀ (j:Nat) (o:O) (n:Nat),os[j]? = some o→ns[j]? = some n → ∃ o',renO r o=some o'∧h.get n=some o'
 | [],[],_=>⟨rfl,fun j o n hj=>by simp at hj⟩
 | [],_::_,h=>by cases h
 | _::_,[],h=>by cases h
 | o::os,n::ns,h=>by
  simp only [matchSub,Bool.and_eq_true] at h
  obtain⟨h1,h2⟩:=matchSub_at h.2
  refine⟨by simp [h1],fun j p m hj hm => ?_⟩
  cases j with
  | zero=>
   simp at hj hm
   subst hj; subst hm
   have:=h.1
   split at this
   ·rename_i o' ho
    split at this
    ·rename_i x hx
     exact⟨o',ho,by rw [hx,O.eq_eq _ _ this]⟩
    ·cases this
   ·cases this
  | succ j=>exact h2 j p m (by simpa using hj) (by simpa using hm)
def memAt (w0:Base) (E:Env) (w:World) (ord:List Nat):Mem:=⟨w.heap,fun b=>(b<w0.heap.size∧w0.frz b) ∨ ∃ n∈ord,∃ i,E.at_ n=some i∧i.blk=b⟩
theorem memAt_le {w0:Base} {E:Env} {g:G} {nx:Nat} {w:World} {ord:List Nat} (ho:Ok w0 E g nx w):w0.toMem.Le (memAt w0 E w ord):=⟨ho.inv.size,fun b hb hz=>⟨.inl ⟨hb,hz⟩,ho.inv.same b hb hz⟩⟩
theorem callOk_of_fits {P:Program} {w0:Base} {E:Env} {h:H} {nx:Nat} {w:World} {f:Nat} {args:List V} {xs:List Value} {ord:List Nat} {pargs:List V} {psub:List O} {cs:List (List V)} {v:V} {y:Value}
  (ho:Ok w0 E h.get nx w) (hx:VRL E args xs) (hf:fits ord args h nx pargs psub=true) (hp:patOk pargs psub=true) (hs:subCells psub=some cs) (hFz:FzOk P w0 f pargs cs v) (hy:∀ E',E'.sym=w0.sym→VR E' v y) :
  CallOk P (memAt w0 E w ord) f xs y:=by
 simp only [fits,Bool.and_eq_true] at hf
 obtain⟨⟨f1,f2⟩,f3⟩:=hf
 have f3:=nble_le f3
 obtain⟨hl,hget⟩:=matchSub_at f2
 simp only [patOk,hs,Bool.and_eq_true] at hp
 obtain⟨p1,p2⟩:=hp
 have hlen:=subCells_len hs
 let st:Nat→Info:=fun g=>match ord[g-32]? with
  | some n=>(E.at_ n).getD { blk:=0,size:=0,unit:=0 }
  | none=>{ blk:=0,size:=0,unit:=0 }
 let w1:Base:={ toMem:=memAt w0 E w ord,sym:=w0.sym,stat:=st }
 have rn:∀ j n,ord[j]? = some n→invN ord ord.length nx (64+j)=n:=by
  intro j n hj
  have hlt:=(List.getElem?_eq_some_iff.1 hj).1
  have b1:Nat.blt (64+j) 64=false:=by
   rw [← Bool.not_eq_true]; intro hb; have:=nblt_lt hb; omega
  have b2:Nat.blt (64+j) (64+ord.length)=true:=Nat.ble_eq_true_of_le (by omega)
  unfold invN
  rw [b1,b2,cond_false,cond_true,show 64+j-64=j from by omega,hj]
  rfl
 have hat:∀ {E2:Env},StatOk w1 E2 → ∀ j i,j<psub.length→E.at_ (invN ord ord.length nx (64+j))=some i→E2.at_ (32+j)=some i:=by
  intro E2 h2 j i hj hi
  have hjo:ord[j]? = some ord[j]:=List.getElem?_eq_getElem (by omega)
  rw [rn j _ hjo] at hi
  rw [h2.stat (32+j) (by omega) (by omega)]
  show some (st (32+j))=_
  simp only [st]
  rw [show 32+j-32=j from by omega,hjo]
  simp only [hi,Option.getD_some]
 have hC:Contract P w1 f (renL fz pargs) v:=by
  refine hFz w1 rfl (memAt_le ho) fun j c hj => ?_
  obtain⟨e,u,z,hoj⟩:=subCells_get hs hj
  have hjl:=(List.getElem?_eq_some_iff.1 hoj).1
  have hjo:ord[j]? = some ord[j]:=List.getElem?_eq_getElem (by omega)
  obtain⟨o',hr,hg⟩:=hget j _ _ hoj hjo
  simp only [renO,Option.some.injEq] at hr
  subst hr
  obtain⟨i,hi,hu,rc,fr,h1,h2,h3,xs',rest,hx',hrc⟩:=ho.rel.obj _ _ hg
  have hst:w1.stat (32+j)=i:=by
   show st (32+j)=i
   simp only [st]
   rw [show 32+j-32=j from by omega,hjo]
   simp only [hi,Option.getD_some]
  refine⟨by omega,by omega,?_,?_,rc,e,fr,?_,fun E2 h2'=>⟨xs',rest,?_,hrc⟩⟩
  ·rw [hst]; exact (Array.getElem?_eq_some_iff.1 h1).1
  ·rw [hst]; exact .inr ⟨_,List.mem_of_getElem? hjo,i,hi,rfl⟩
  ·rw [hst]; exact h1
  ·exact VRL.fz (k:=psub.length) (by rw [h2'.sym]; exact ho.sym.sym.symm) (hat h2') c xs' (List.all_eq_true.1 p2 c (List.mem_of_getElem? hj)) hx'
 have hone:∀ i,oneV (w1.sym i):=fun i=>by show oneV (w0.sym i); rw [← ho.sym.sym]; exact E.one i
 have hE2:StatOk w1 (baseE w1 hone):=base_stat
 refine hC.callOk hE2 ?_ (hy _ rfl)
 refine VRL.fz (k:=psub.length) (E:=E) (by rw [hE2.sym]; exact ho.sym.sym.symm) (hat hE2) pargs xs p1 ?_
 rw [V.eqL_eq _ _ f1]
 exact hx
section
variable {tb:Tab} {P:Program} (hT:TabOk tb P)
include hT
theorem cut_run {t e sz n cap:Nat} {b:Option Addr} (hd:tb.und t=some (.slice e)) (hs:tb.size e=some sz) (hn:n≤cap) (j:IntKind) (w:World) :
  (Instr.sliceAt t (.slice b n cap) none (some (.int j (Int.ofNat n))) none).run P w = .ok (.slice b n cap) w:=by
 have hu:=hT.und _ _ hd
 have hb:(0:Int)≤(n:Int)∧(n:Int)≤(cap:Int):=⟨by omega,by omega⟩
 have h0:(if cap=0 then b else b.map (·.add (0*sz)))=b:=by
  split
  ·rfl
  ·cases b with
   | none=>rfl
   | some a=>simp [Addr.add]
 simp only [Instr.sliceAt,Sem.run_bind,run_underlying hu,Result.andThen_ok,Instr.slice,Instr.sliceBounds,Sem.run_pure,Instr.sliceBound,asInt,asIntOf,Int.ofNat_eq_natCast,size_run hT hs]
 simp only [if_pos hb,Sem.run_pure,Result.andThen_ok,Int.toNat_natCast,Nat.sub_zero]
 rw [h0]
theorem adr_run {t e sz n cap i:Nat} {a:Addr} (hd:tb.und t=some (.slice e)) (hs:tb.size e=some sz) (hi:i<n) (j:IntKind) (w:World) :
  (Instr.indexAt t (.slice (some a) n cap) (.int j (Int.ofNat i))).run P w = .ok (.pointer (some (a.add (i*sz)))) w:=by
 have hu:=hT.und _ _ hd
 have hin:(0:Int)≤Int.ofNat i∧Int.ofNat i<(n:Int):=⟨Int.natCast_nonneg i,Int.ofNat_lt.2 hi⟩
 simp only [Instr.indexAt,asIntOf,Sem.run_bind,Sem.run_pure,Result.andThen_ok,run_underlying hu,if_pos hin,size_run hT hs]
 rfl
end
noncomputable def leave0 (tb:Tab) (fn:Func) (o:Out):Option R3:=
 match o.1 with
 | .exit _=>none
 | _=>match o.2.m with
  | _::_=>none
  | []=>match resOf tb o.2.t o.2.h fn.results.toList with
   | some vs=>some (packV vs,o.2.h,o.2.nx)
   | none=>none
noncomputable def tailRun (tb:Tab) (rounds n:Nat) (fn:Func) (rest:Code) (s:S):Option (List R3):=
 match code { tb:=tb,rc:=recN tb rounds n,inRound:=none,rounds:=rounds } rest s with
 | none=>none
 | some outs=>mapO (leave0 tb fn) outs
section
variable {tb:Tab} {P:Program} {w0:Base} (hT:TabOk tb P) (hF:FnOk tb P w0)
include hT hF
theorem tail_wp {rounds n:Nat} {fn:Func} {rest:Code} {s:S} {rs:List R3} (h:tailRun tb rounds n fn rest s=some rs) {E:Env} {a:Act} {w:World} (ho:Ok w0 E s.h.get s.nx w) (ht:TR E s.t a.tmps) (hm:s.m=[]) (hd:a.defers=[])
  (hdst:dstOk a.tmps.size rest=true) {R:Ending→World→Prop} (hQ:∀ r∈rs,∀ (x:Value) (E':Env) (w':World),VR E' r.1 x→Step E s.h.get s.nx w E' r.2.1.get r.2.2 w'→R (.returned x) w') :
  rest.wp P (bodyPost P fn R) a w:=by
 unfold tailRun at h
 split at h
 ·cases h
 ·rename_i outs hc
  refine (wpIn_wide (n:=0)).1 ?_
  have hfr:FR none=Fence.wide:=rfl
  rw [← hfr]
  refine wpIn_mono (code_ok (cx:={ tb:=tb,rc:=recN tb rounds n,inRound:=none,rounds:=rounds }) (r:=none) hT hF (recN_ok hT hF (rounds:=rounds) n) rfl rfl (N:=a.tmps.size) rest rfl hc ho ht (by rw [hm,hd]; rfl) rfl hdst) ?_
  rintro e a1 w1 ⟨o,hmem,rfl,E1,hat⟩
  obtain⟨r,hr,hrm⟩:=mapO_mem h o hmem
  obtain⟨xo,so⟩:=o
  unfold leave0 at hr
  have hx:xo = .normal∨xo = .ret:=by
   cases xo with
   | normal=>exact .inl rfl
   | ret=>exact .inr rfl
   | exit id=>cases hr
  have hr:(match so.m with
   | _::_=>none
   | []=>match resOf tb so.t so.h fn.results.toList with
    | some vs=>some (packV vs,so.h,so.nx)
    | none=>none:Option R3)=some r:=by rcases hx with rfl | rfl <;> exact hr
  split at hr
  ·cases hr
  ·rename_i hsm
   split at hr
   ·rename_i vs hres
    cases hr
    obtain⟨x,hx1,hx2⟩:=results_ok (P:=P) hT hat.tr hat.step.rel hres
    have hda:a1.defers=[]:=by
     have:=hat.marks
     rw [hsm] at this
     exact this
    have key:a1.defers=[] ∧ ∃ v,(results fn a1.tmps).run P w1 = .ok v w1∧R (.returned v) w1:=⟨hda,x,hx1,hQ _ hrm x E1 w1 hx2 hat.step⟩
    rcases hx with rfl | rfl
    ·exact key
    ·exact key
   ·cases hr
end
def RetM (M:Mem) (w:World) (Q:Value→Mem→Prop) (e:Ending) (w':World):Prop:=
 ∃ y M',e = .returned y∧Grew w w'∧(∀ b,b<w.heap.size→w'.heap[b]? = w.heap[b]?)∧M'.heap=w'.heap∧M.Le M'∧(∀ b,M'.frz b→(b<M.heap.size∧M.frz b)∨(w.heap.size≤b∧b<w'.heap.size))∧Q y M'
structure Mem.On (M:Mem) (w:World):Prop where
 size:M.heap.size≤w.heap.size
 same:∀ b,b<M.heap.size→M.frz b→w.heap[b]? = M.heap[b]?
theorem Mem.On.le {M M':Mem} {w:World} (h:M'.On w) (hl:M.Le M'):M.On w:=⟨Nat.le_trans hl.size h.size,hl.on h.same⟩
theorem Mem.On.self (w:World) (f:Nat→Prop):(⟨w.heap,f⟩:Mem).On w:=⟨Nat.le_refl _,fun _ _ _=>rfl⟩
noncomputable def mkH:List (Nat × O)→H
 | []=>.e
 | e::r=>(mkH r).set e.1 e.2
theorem mkH_mem:∀ {l:List (Nat × O)} {n:Nat} {o:O},(mkH l).get n=some o→(n,o)∈l
 | [],n,o,h=>by rw [mkH,T.get_e] at h; cases h
 | e::l,n,o,h=>by
  rw [mkH,T.get_set] at h
  by_cases hf:n=e.1
  ·subst hf
   simp at h
   subst h
   exact List.mem_cons_self ..
  ·rw [if_neg hf] at h
   exact List.mem_cons_of_mem _ (mkH_mem h)
theorem RmOk.fresh {P:Program} {w0:Base} {f:Nat} {e:RM} (h:RmOk P w0 f e) (ho:∀ i,oneV (w0.sym i)) (hs:e.sub=[]) {xs:List Value} (hx:∀ E,StatOk w0 E→VRL E e.args xs) {w:World} (hw:w0.toMem.On w) :
  Calls P f xs.toArray w fun en w' => ∃ x E2,en = .returned x∧Grew w w'∧(∀ b,b<w.heap.size→w'.heap[b]? = w.heap[b]?)∧VR E2 e.v x∧Ok w0 E2 (mkH e.out).get (64+e.made) w' ∧
   (∀ n o i,(n,o)∈e.out→E2.at_ n=some i→w.heap.size≤i.blk):=by
 have hok:=base_ok (h:=ho) hw.size hw.same
 have h:=h (baseE w0 ho) w xs (by rw [hs]; exact hok) (hx _ base_stat)
 rw [hs] at h
 refine h.mono ?_
 rintro en w' ⟨x,rfl,E2,g2,hv,hst,hout⟩
 have hfr:∀ b,b<w.heap.size→w'.heap[b]? = w.heap[b]? := fun b hb=>hst.frame b hb (by
  rintro⟨n,o,i,hn,_⟩
  have:(T.e:H).get n=some o:=hn
  rw [T.get_e] at this; cases this)
 refine⟨x,E2,rfl,hst.grew,hfr,hv,(hok.step hst).sub fun n o hn=>hout _ (mkH_mem hn),fun n o i hm hi => ?_⟩
 rcases Nat.lt_or_ge i.blk w.heap.size with hlt | hge
 ·exfalso
  obtain⟨n',o',i',hn',_⟩:=hst.foot i.blk hlt ⟨n,o,i,hout _ hm,hi,rfl⟩
  have:(T.e:H).get n'=some o':=hn'
  rw [T.get_e] at this; cases this
 ·exact hge
structure Box where
 blk:Nat
 cs:List V
 xs:List Value
 ty:Nat
def Box.key (b:Box):List V × Nat:=(b.cs,b.ty)
noncomputable def boxH:Nat→List (List V × Nat)→H
 | _,[]=>.e
 | k,b::l=>(boxH (k+1) l).set k (.cells b.1 b.2 0 false)
theorem boxH_get:∀ {l:List (List V × Nat)} {k n:Nat} {o:O},(boxH k l).get n=some o → ∃ j b,l[j]? = some b∧n=k+j∧o = .cells b.1 b.2 0 false
 | [],k,n,o,h=>by rw [boxH,T.get_e] at h; cases h
 | b::l,k,n,o,h=>by
  rw [boxH,T.get_set] at h
  by_cases hn:n=k
  ·rw [if_pos hn] at h
   cases h
   exact⟨0,b,rfl,hn,rfl⟩
  ·rw [if_neg hn] at h
   obtain⟨j,b',h1,h2,h3⟩:=boxH_get h
   exact⟨j+1,b',by simpa using h1,by omega,h3⟩
def boxE (B:Base) (h:∀ i,oneV (B.sym i)) (l:List Box):Env:=
 {at_:=fun n=>if n<32 then some { blk:=n,size:=0,unit:=0 } else if n<64 then some (B.stat n) else match l[n-64]? with
   | some b=>some { blk:=b.blk,size:=b.xs.length,unit:=0 }
   | none=>none
  sym:=B.sym,one:=h }
theorem boxE_stat {B:Base} {h:∀ i,oneV (B.sym i)} {l:List Box}:StatOk B (boxE B h l):=⟨rfl,fun g h1 h2=>by
 show (if g<32 then _ else if g<64 then _ else _)=_
 rw [if_neg (by omega),if_pos h2]⟩
theorem boxE_at {B:Base} {h:∀ i,oneV (B.sym i)} {l:List Box} {j:Nat} {b:Box} (hj:l[j]? = some b):(boxE B h l).at_ (64+j)=some { blk:=b.blk,size:=b.xs.length,unit:=0 }:=by
 show (if 64+j<32 then _ else if 64+j<64 then _ else _)=_
 rw [if_neg (by omega),if_neg (by omega),show 64+j-64=j from by omega,hj]
structure BoxesOk (B:Base) (w:World) (l:List Box):Prop where
 on:B.toMem.On w
 heap:∀ b∈l,w.heap[b.blk]? = some (.cells b.xs.toArray b.ty (0,0))
 val:∀ b∈l,∀ E,StatOk B E→VRL E b.cs b.xs
 inj:∀ (i j:Nat) (a b:Box),l[i]? = some a→l[j]? = some b→a.blk=b.blk→i=j
 free:∀ b∈l,¬ (b.blk<B.heap.size∧B.frz b.blk)
theorem boxes_foot {B:Base} {h:∀ i,oneV (B.sym i)} {l:List Box} {b:Nat} (hf:Foot (boxE B h l) (boxH 64 (l.map Box.key)).get b):∃ x∈l,x.blk=b:=by
 obtain⟨n,o,i,hn,hi,rfl⟩:=hf
 obtain⟨j,kb,hj,rfl,rfl⟩:=boxH_get hn
 rw [List.getElem?_map] at hj
 cases hb:l[j]? with
 | none=>rw [hb] at hj; cases hj
 | some x=>
  rw [boxE_at hb] at hi
  cases hi
  exact⟨x,List.mem_of_getElem? hb,rfl⟩
theorem boxes_ok {B:Base} {h:∀ i,oneV (B.sym i)} {w:World} {l:List Box} (hb:BoxesOk B w l):Ok B (boxE B h l) (boxH 64 (l.map Box.key)).get (64+l.length) w:=by
 have hget:∀ {n:Nat} {o:O},(boxH 64 (l.map Box.key)).get n=some o → ∃ j b,l[j]? = some b∧n=64+j∧o = .cells b.cs b.ty 0 false:=by
  intro n o hn
  obtain⟨j,kb,hj,rfl,rfl⟩:=boxH_get hn
  rw [List.getElem?_map] at hj
  cases hx:l[j]? with
  | none=>rw [hx] at hj; cases hj
  | some x=>
   rw [hx] at hj
   cases hj
   exact⟨j,x,hx,rfl,rfl⟩
 refine⟨⟨fun n o hn => ?_,fun n m o p i j hn hm hi hj hbl => ?_⟩,fun n hn => ?_,fun g hg=>⟨{ blk:=g,size:=0,unit:=0 },by show (if g<32 then _ else _)=_; rw [if_pos hg],rfl⟩,⟨hb.on.size,hb.on.same,fun b hbb hz hf => ?_⟩,boxE_stat⟩
 ·obtain⟨j,b,hj,rfl,rfl⟩:=hget hn
  have hm:=List.mem_of_getElem? hj
  exact⟨_,boxE_at hj,rfl,_,_,hb.heap b hm,by simp,fun _=>rfl,b.xs,[],hb.val b hm _ boxE_stat,by simp⟩
 ·obtain⟨a,x,ha,rfl,rfl⟩:=hget hn
  obtain⟨c,y,hc,rfl,rfl⟩:=hget hm
  rw [boxE_at ha] at hi
  rw [boxE_at hc] at hj
  cases hi; cases hj
  rw [hb.inj a c x y ha hc hbl]
 ·show (if n<32 then _ else if n<64 then _ else _)=_
  rw [if_neg (by omega),if_neg (by omega)]
  rw [List.getElem?_eq_none (by omega)]
 ·obtain⟨x,hx,rfl⟩:=boxes_foot hf
  exact hb.free x hx ⟨hbb,hz⟩
noncomputable def iterTo (f:S→Option (List Out)) (s0:S):Nat→List S→List Out→Option (List S × List Out)
 | 0,l,acc=>some (l,acc)
 | n+1,l,acc=>match eachL f l with
  | none=>none
  | some outs=>iterTo f s0 n (mergeS s0 (outs.filterMap Out.next)) (acc++outs.filter Out.gone)
theorem iter_nil (f:S→Option (List Out)) (s0:S) (n:Nat) (acc:List Out):iter f s0 n [] acc=some acc:=by cases n <;> rfl
theorem iter_to {f:S→Option (List Out)} {s0:S}:∀ {k n:Nat} {l:List S} {acc:List Out} {l':List S} {acc':List Out},iterTo f s0 k l acc=some (l',acc')→iter f s0 (k+n) l acc=iter f s0 n l' acc'
 | 0,n,l,acc,l',acc',h=>by
  cases h
  rw [Nat.zero_add]
 | k+1,n,[],acc,l',acc',h=>by
  simp only [iterTo,eachL] at h
  have h:iterTo f s0 k [] (acc++[])=some (l',acc'):=h
  rw [List.append_nil] at h
  have:=iter_to (n:=n) h
  rw [iter_nil] at this ⊢
  exact this
 | k+1,n,x::l,acc,l',acc',h=>by
  rw [show k+1+n=(k+n)+1 from by omega]
  simp only [iterTo] at h
  simp only [iter]
  split at h
  ·cases h
  ·rename_i outs ho
   rw [ho]
   exact iter_to h
noncomputable def statesEq:List S→List S→Bool
 | [],[]=>true
 | a::l,b::m=>S.eq a b&&statesEq l m
 | _,_=>false
theorem statesEq_eq:∀ {l m:List S},statesEq l m=true→l=m
 | [],[],_=>rfl
 | [],_::_,h=>by cases h
 | _::_,[],h=>by cases h
 | a::l,b::m,h=>by
  simp only [statesEq,Bool.and_eq_true] at h
  rw [S.eq_eq h.1,statesEq_eq h.2]
noncomputable def cutB (f:S→Option (List Out)) (s0:S) (n:Nat) (l l':List S):Bool:=
 match iterTo f s0 n l [] with
 | some (m,[])=>statesEq m l'
 | _=>false
theorem cutB_ok {f:S→Option (List Out)} {s0:S} {n k:Nat} {l l':List S} (h:cutB f s0 n l l'=true):iter f s0 (n+k) l []=iter f s0 k l' []:=by
 unfold cutB at h
 split at h
 ·rename_i m hm
  rw [iter_to hm,statesEq_eq h]
 ·cases h
noncomputable def runs (c:Ctx):List Code→S→Option S
 | [],s=>some s
 | a::l,s=>match code c a s with
  | some [(.normal,s')]=>runs c l s'
  | _=>none
theorem code_seq1 {c:Ctx} {a b:Code} {s s':S} (h:code c a s=some [(.normal,s')]):code c (.seq a b) s=code c b s':=by
 simp only [code,h,eachL]
 cases code c b s' <;> rfl
def blockOut (id:Nat) (o:Out):Out:=match o.1 with
 | .exit j=>cond (Nat.beq j id) (.normal,o.2) o
 | _=>o
structure Cut where
 r0:Code
 r1:Code
 r2:Code
 r3:Code
 id:Nat
 b:Code
 d:Code
def Cut.body (k:Cut):Code:=.seq k.r0 (.seq k.r1 (.seq k.r2 (.seq (.seq k.r3 (.block k.id (.loop k.b))) k.d)))
def cutOf:Code→Cut
 | .seq r0 (.seq r1 (.seq r2 (.seq (.seq r3 (.block id (.loop b))) d)))=>⟨r0,r1,r2,r3,id,b,d⟩
 | c=>⟨c,c,c,c,0,c,c⟩
noncomputable def endB (tb:Tab) (c:Ctx) (k:Cut) (fn:Func) (e:RM) (outs:Option (List Out)):Bool:=
 match outs with
 | none=>false
 | some outs=>match outs.map (blockOut k.id) with
  | [(.normal,s)]=>match code c k.d s with
   | none=>false
   | some l=>match mapO (leaveFn tb fn) l with
    | none=>false
    | some rs=>match oneR (T.ofList .e 64 e.sub) rs with
     | some (v,h',nx')=>V.eq v e.v&&Nat.beq nx' (64+e.sub.length+e.made)&&outIn h' e.out
     | none=>false
  | _=>false
noncomputable def preB (c:Ctx) (k:Cut) (fn:Func) (e:RM) (s:S):Bool:=
 Nat.ble e.args.length fn.ntmps&&dstOk fn.ntmps k.body&&match runs c [k.r0,k.r1,k.r2,k.r3] { t:=T.ofList .e 0 e.args,h:=T.ofList .e 64 e.sub,nx:=64+e.sub.length,m:=[] } with
  | some s'=>S.eq s' s
  | none=>false
theorem rm_cut {tb:Tab} {rounds n f:Nat} {e:RM} {fn:Func} {k:Cut} {s:S} (hfn:tb.fn f=some fn) (hb:fn.body=some k.body)
  (hp:preB { tb:=tb,rc:=recN tb rounds n,inRound:=none,rounds:=rounds } k fn e s=true)
  (hl:endB tb { tb:=tb,rc:=recN tb rounds n,inRound:=none,rounds:=rounds } k fn e (iter (code { tb:=tb,rc:=recN tb rounds n,inRound:=none,rounds:=rounds } k.b) s rounds [s] [])=true):rmChk tb rounds (n+1) f e=true:=by
 generalize hc:({ tb:=tb,rc:=recN tb rounds n,inRound:=none,rounds:=rounds }:Ctx)=c at *
 simp only [preB,Bool.and_eq_true] at hp
 obtain⟨⟨p1,p2⟩,p3⟩:=hp
 split at p3
 ·rename_i s' hs
  have:=S.eq_eq p3
  subst this
  simp only [runs] at hs
  split at hs
  ·rename_i s1 h1
   split at hs
   ·rename_i s2 h2
    split at hs
    ·rename_i s3 h3
     split at hs
     ·rename_i s4 h4
      cases hs
      have hrounds:c.rounds=rounds:=by rw [← hc]
      unfold endB at hl
      split at hl
      ·cases hl
      ·rename_i outs ho
       split at hl
       ·rename_i s5 h5
        split at hl
        ·cases hl
        ·rename_i l hd
         have hcode:code c k.body { t:=T.ofList .e 0 e.args,h:=T.ofList .e 64 e.sub,nx:=64+e.sub.length,m:=[] }=some l:=by
          unfold Cut.body
          rw [code_seq1 h1,code_seq1 h2,code_seq1 h3]
          have hblk:code c (.seq k.r3 (.block k.id (.loop k.b))) s3=some [(.normal,s5)]:=by
           rw [code_seq1 h4]
           have:code c (.block k.id (.loop k.b)) s'=(iter (code c k.b) s' c.rounds [s'] []).map fun outs=>outs.map (blockOut k.id):=rfl
           rw [this,hrounds,ho,Option.map_some,h5]
          rw [code_seq1 hblk,hd]
         split at hl
         ·cases hl
         ·rename_i rs hrs
          split at hl
          ·rename_i v h' nx' hone
           have hcall:(recN tb rounds (n+1)).call f e.args (T.ofList .e 64 e.sub) (64+e.sub.length)=some (v,h',nx'):=by
            show callBody tb rounds (recN tb rounds n) f e.args _ _=_
            unfold callBody
            rw [hfn]
            simp only [hb,p1,p2,Bool.and_self,cond_true]
            rw [hc,hcode]
            simp only [hrs]
            exact hone
           unfold rmChk
           rw [hcall]
           exact hl
          ·cases hl
       ·cases hl
     ·cases hs
    ·cases hs
   ·cases hs
  ·cases hs
 ·cases p3
theorem iter_acc {f:S→Option (List Out)} {s0:S}:∀ {n:Nat} {l:List S} {acc:List Out},iter f s0 n l acc=(iter f s0 n l []).map (acc ++ ·)
 | n,[],acc=>by rw [iter_nil,iter_nil]; simp
 | 0,x::l,acc=>rfl
 | n+1,x::l,acc=>by
  simp only [iter]
  cases eachL f (x::l) with
  | none=>rfl
  | some outs=>
   simp only
   rw [iter_acc (acc:=acc++outs.filter Out.gone),iter_acc (acc:=[]++outs.filter Out.gone),Option.map_map]
   congr 1
   funext p
   simp
noncomputable def cutP (f:S→Option (List Out)) (s0:S) (p:Out→Bool) (n:Nat) (l l':List S):Bool:=
 match iterTo f s0 n l [] with
 | some (m,acc)=>statesEq m l'&&acc.all p
 | none=>false
noncomputable def lastP (f:S→Option (List Out)) (s0:S) (p q:Out→Bool) (n:Nat) (l:List S):Bool:=
 match iter f s0 n l [] with
 | some outs=>outs.all p&&outs.any q
 | none=>false
theorem cutP_ok {f:S→Option (List Out)} {s0:S} {p q:Out→Bool} {n k:Nat} {l l':List S} (h:cutP f s0 p n l l'=true) (h':lastP f s0 p q k l'=true):lastP f s0 p q (n+k) l=true:=by
 unfold cutP at h
 split at h
 ·rename_i m acc hm
  simp only [Bool.and_eq_true] at h
  have e:=statesEq_eq h.1
  subst e
  unfold lastP at h' ⊢
  rw [iter_to hm,iter_acc]
  split at h'
  ·rename_i outs ho
   rw [ho]
   simp only [Bool.and_eq_true] at h'
   simp only [Option.map_some,List.all_append,List.any_append,h.2,h'.1,h'.2,Bool.or_true,Bool.and_self]
  ·cases h'
 ·cases h
theorem dedup_sub {α:Type} {f:α→α→Bool}:∀ {l:List α} {y:α},y∈dedup f l→y∈l
 | [],_,h=>h
 | [x],_,h=>h
 | x::z::l,y,h=>by
  simp only [dedup] at h
  have ih:=fun (h:y∈dedup f (z::l))=>List.mem_cons_of_mem x (dedup_sub h)
  cases hb:(dedup f (z::l)).any (f x) with
  | true=>rw [hb,cond_true] at h; exact ih h
  | false=>
   rw [hb,cond_false] at h
   rcases List.mem_cons.1 h with rfl | h
   ·exact List.mem_cons_self ..
   ·exact ih h
theorem dedup_const {α:Type} {f:α→α→Bool} {c:α} (hc:f c c=true):∀ {l:List α},(∀ y∈l,y=c)→l≠[]→dedup f l=[c]
 | [],_,h=>absurd rfl h
 | [x],h,_=>by rw [h x (List.mem_singleton.2 rfl)]; rfl
 | x::z::l,h,_=>by
  have ih:=dedup_const hc (l:=z::l) (fun y hy=>h y (List.mem_cons_of_mem _ hy)) (by simp)
  simp only [dedup]
  rw [ih,h x (List.mem_cons_self ..)]
  simp [hc]
theorem maxNx_top {mx:Nat}:∀ {rs:List R3},(∀ r∈rs,r.2.2≤mx)→maxNx rs≤mx
 | [],_=>Nat.zero_le _
 | r::rs,h=>by
  unfold maxNx
  cases Nat.ble r.2.2 (maxNx rs) with
  | true=>exact maxNx_top fun x hx=>h x (List.mem_cons_of_mem _ hx)
  | false=>exact h r (List.mem_cons_self ..)
noncomputable def goneP (tb:Tab) (fn:Func) (e:RM) (ns:List Nat) (h0:H) (o:Out):Bool:=
 match o.1 with
 | .ret=>match leaveFn tb fn o with
  | some r=>R3.eq (gcR ns (64+e.sub.length+e.made) r) (e.v,h0,64+e.sub.length+e.made)&&Nat.ble r.2.2 (64+e.sub.length+e.made)&&V.eq r.1 e.v&&outIn r.2.1 e.out
  | none=>false
 | _=>false
noncomputable def topP (tb:Tab) (fn:Func) (e:RM) (o:Out):Bool:=
 match leaveFn tb fn o with
 | some r=>Nat.beq r.2.2 (64+e.sub.length+e.made)
 | none=>false
theorem map_ret {id:Nat}:∀ {outs:List Out},(∀ o∈outs,o.1 = .ret)→outs.map (blockOut id)=outs
 | [],_=>rfl
 | o::l,h=>by
  rw [List.map_cons,map_ret fun x hx=>h x (List.mem_cons_of_mem _ hx)]
  have h0:=h o (List.mem_cons_self ..)
  congr 1
  unfold blockOut
  rw [h0]
theorem each_ret {g:S→Option (List Out)}:∀ {outs:List Out},(∀ o∈outs,o.1 = .ret)→eachL (fun o:Out=>match o.1 with | .normal=>g o.2 | _=>some [o]) outs=some outs
 | [],_=>rfl
 | o::l,h=>by
  simp only [eachL]
  rw [each_ret fun x hx=>h x (List.mem_cons_of_mem _ hx),h o (List.mem_cons_self ..)]
  cases l <;> rfl
theorem code_seqR {c:Ctx} {a b:Code} {s:S} {outs:List Out} (h:code c a s=some outs) (hr:∀ o∈outs,o.1 = .ret):code c (.seq a b) s=some outs:=by
 simp only [code,h]
 exact each_ret hr
theorem mapO_all {α β:Type} {f:α→Option β}:∀ {l:List α},(∀ x∈l,∃ y,f x=some y) → ∃ ys,mapO f l=some ys∧(∀ y∈ys,∃ x∈l,f x=some y) ∧ ∀ x∈l,∃ y∈ys,f x=some y
 | [],_=>⟨[],rfl,(fun _ h=>by cases h),(fun _ h=>by cases h)⟩
 | x::l,h=>by
  obtain⟨y,hy⟩:=h x (List.mem_cons_self ..)
  obtain⟨ys,h1,h2,h3⟩:=mapO_all fun z hz=>h z (List.mem_cons_of_mem _ hz)
  refine⟨y::ys,by simp only [mapO,hy,h1],fun z hz => ?_,fun z hz => ?_⟩
  ·rcases List.mem_cons.1 hz with rfl | hz
   ·exact⟨x,List.mem_cons_self ..,hy⟩
   ·obtain⟨u,hu,e⟩:=h2 z hz
    exact⟨u,List.mem_cons_of_mem _ hu,e⟩
  ·rcases List.mem_cons.1 hz with rfl | hz
   ·exact⟨y,List.mem_cons_self ..,hy⟩
   ·obtain⟨u,hu,e⟩:=h3 z hz
    exact⟨u,List.mem_cons_of_mem _ hu,e⟩
theorem rm_cutP {tb:Tab} {rounds n f:Nat} {e:RM} {fn:Func} {k:Cut} {s:S} {ns:List Nat} {h0:H} (hfn:tb.fn f=some fn) (hb:fn.body=some k.body)
  (hp:preB { tb:=tb,rc:=recN tb rounds n,inRound:=none,rounds:=rounds } k fn e s=true) (hns:keysT id (T.ofList .e 64 e.sub:H)=ns) (hfin:(V.eq e.v e.v&&outIn h0 e.out)=true)
  (hl:lastP (code { tb:=tb,rc:=recN tb rounds n,inRound:=none,rounds:=rounds } k.b) s (goneP tb fn e ns h0) (topP tb fn e) rounds [s]=true):rmChk tb rounds (n+1) f e=true:=by
 generalize hc:({ tb:=tb,rc:=recN tb rounds n,inRound:=none,rounds:=rounds }:Ctx)=c at *
 generalize hmx:64+e.sub.length+e.made=mx at *
 simp only [preB,Bool.and_eq_true] at hp
 obtain⟨⟨p1,p2⟩,p3⟩:=hp
 simp only [Bool.and_eq_true] at hfin
 unfold lastP at hl
 split at hl
 ·rename_i outs ho
  simp only [Bool.and_eq_true,List.all_eq_true,List.any_eq_true] at hl
  obtain⟨hall,o1,ho1,htop⟩:=hl
  have hgone:∀ o∈outs,o.1 = .ret ∧ ∃ r,leaveFn tb fn o=some r∧gcR ns mx r=(e.v,h0,mx)∧r.2.2≤mx∧V.eq r.1 e.v=true∧outIn r.2.1 e.out=true∧R3.eq (e.v,h0,mx) (e.v,h0,mx)=true:=fun o hm=>by
   have h:=hall o hm
   unfold goneP at h
   rw [hmx] at h
   split at h
   ·rename_i hr
    split at h
    ·rename_i r hl
     simp only [Bool.and_eq_true] at h
     obtain⟨⟨⟨a1,a2⟩,a3⟩,a4⟩:=h
     have e1:=R3.eq_eq _ _ a1
     refine⟨hr,r,hl,e1,nble_le a2,a3,a4,?_⟩
     rw [e1] at a1
     exact a1
    ·cases h
   ·cases h
  split at p3
  ·rename_i s' hs
   have:=S.eq_eq p3
   subst this
   simp only [runs] at hs
   split at hs
   ·rename_i s1 h1
    split at hs
    ·rename_i s2 h2
     split at hs
     ·rename_i s3 h3
      split at hs
      ·rename_i s4 h4
       cases hs
       have hrounds:c.rounds=rounds:=by rw [← hc]
       have hret:∀ o∈outs,o.1 = .ret:=fun o hm=>(hgone o hm).1
       have hcode:code c k.body { t:=T.ofList .e 0 e.args,h:=T.ofList .e 64 e.sub,nx:=64+e.sub.length,m:=[] }=some outs:=by
        unfold Cut.body
        rw [code_seq1 h1,code_seq1 h2,code_seq1 h3]
        refine code_seqR ?_ hret
        rw [code_seq1 h4]
        have:code c (.block k.id (.loop k.b)) s'=(iter (code c k.b) s' c.rounds [s'] []).map fun outs=>outs.map (blockOut k.id):=rfl
        rw [this,hrounds,ho,Option.map_some,map_ret hret]
       obtain⟨rs,hrs,q1,q2⟩:=mapO_all (f:=leaveFn tb fn) (l:=outs) fun o hm=>by obtain⟨_,r,hr,_⟩:=hgone o hm; exact⟨r,hr⟩
       have hR:∀ r∈rs,gcR ns mx r=(e.v,h0,mx)∧r.2.2≤mx∧V.eq r.1 e.v=true∧outIn r.2.1 e.out=true∧R3.eq (e.v,h0,mx) (e.v,h0,mx)=true:=fun r hr=>by
        obtain⟨o,hm,e1⟩:=q1 r hr
        obtain⟨_,r',e2,h⟩:=hgone o hm
        rw [e1] at e2; cases e2
        exact h
       obtain⟨rt,hrt,ert⟩:=q2 o1 ho1
       have htop:rt.2.2=mx:=by
        unfold topP at htop
        rw [ert,hmx] at htop
        exact nbeq_true htop
       have hmax:maxNx rs=mx:=Nat.le_antisymm (maxNx_top fun r hr=>(hR r hr).2.1) (by rw [← htop]; exact maxNx_le hrt)
       have hone:∃ r,oneR (T.ofList .e 64 e.sub) rs=some r∧V.eq r.1 e.v=true∧r.2.2=mx∧outIn r.2.1 e.out=true:=by
        unfold oneR
        split
        ·rename_i r hd
         have hr:r∈rs:=dedup_sub (f:=R3.eq) (by rw [hd]; exact List.mem_singleton.2 rfl)
         have:=dedup_mem R3.eq_eq rs rt hrt
         rw [hd,List.mem_singleton] at this
         exact⟨r,rfl,(hR r hr).2.2.1,by rw [← this]; exact htop,(hR r hr).2.2.2.1⟩
        ·rename_i hd
         have:=dedup_mem R3.eq_eq rs rt hrt
         rw [hd] at this
         cases this
        ·have hd:dedup R3.eq (rs.map (gcR (keysT id (T.ofList .e 64 e.sub:H)) (maxNx rs)))=[(e.v,h0,mx)]:=by
          rw [hns,hmax]
          refine dedup_const (hR rt hrt).2.2.2.2 (fun y hy => ?_) (fun h => ?_)
          ·obtain⟨r,hr,rfl⟩:=List.mem_map.1 hy
           exact (hR r hr).1
          ·rw [List.map_eq_nil_iff.1 h] at hrt
           cases hrt
         rw [hd]
         exact⟨_,rfl,hfin.1,rfl,hfin.2⟩
       obtain⟨r,h5,h6,h7,h8⟩:=hone
       have hcall:(recN tb rounds (n+1)).call f e.args (T.ofList .e 64 e.sub) (64+e.sub.length)=some r:=by
        show callBody tb rounds (recN tb rounds n) f e.args _ _=_
        unfold callBody
        rw [hfn]
        simp only [hb,p1,p2,Bool.and_self,cond_true]
        rw [hc,hcode]
        simp only [hrs]
        exact h5
       unfold rmChk
       rw [hcall]
       simp only [Bool.and_eq_true]
       exact⟨⟨h6,by rw [hmx,h7]; exact Nat.beq_refl _⟩,h8⟩
      ·cases hs
     ·cases hs
    ·cases hs
   ·cases hs
  ·cases p3
 ·cases hl
theorem nbeq_self (n:Nat):Nat.beq n n=true:=Nat.beq_refl n
theorem bytesEq_self:∀ l:List UInt8,bytesEq l l=true
 | []=>rfl
 | a::l=>by
  show cond (Nat.beq a.toNat a.toNat) (bytesEq l l) false=true
  rw [nbeq_self,cond_true]
  exact bytesEq_self l
mutual
theorem V.eq_refl:∀ a:V,V.eq a a=true
 | .bool a=>by show (a == a)=true; cases a <;> rfl
 | .int j a=>by
  show (kindEq j j&&intEq a a)=true
  rw [kindEq_iff.2 rfl,intEq_iff.2 rfl]; rfl
 | .str a=>bytesEq_self a
 | .ptr a c=>by show (Nat.beq a a&&Nat.beq c c)=true; rw [nbeq_self,nbeq_self]; rfl
 | .nilp=>rfl
 | .slice a c d e=>by show (Nat.beq a a&&Nat.beq c c&&Nat.beq d d&&Nat.beq e e)=true; rw [nbeq_self,nbeq_self,nbeq_self,nbeq_self]; rfl
 | .nils=>rfl
 | .map a=>nbeq_self a
 | .nilm=>rfl
 | .fn f x y=>by show (Nat.beq f f&&V.eqL x x&&V.eqL y y)=true; rw [nbeq_self,V.eqL_refl x,V.eqL_refl y]; rfl
 | .yld a=>nbeq_self a
 | .nilf=>rfl
 | .iface t v=>by show (Nat.beq t t&&V.eq v v)=true; rw [nbeq_self,V.eq_refl v]; rfl
 | .nili=>rfl
 | .agg x=>V.eqL_refl x
 | .tup x=>V.eqL_refl x
 | .sym a=>nbeq_self a
theorem V.eqL_refl:∀ a:List V,V.eqL a a=true
 | []=>rfl
 | a::x=>by
  show cond (V.eq a a) (V.eqL x x) false=true
  rw [V.eq_refl a,cond_true]
  exact V.eqL_refl x
end
end Ev
