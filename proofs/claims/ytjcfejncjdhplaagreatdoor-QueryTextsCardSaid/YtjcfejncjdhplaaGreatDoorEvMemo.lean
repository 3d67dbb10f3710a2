/-
  The abstract evaluator: results that were reckoned once are kept (contracts by the evaluator's own run).
-/
import Derived.Test.YtjcfejncjdhplaaGreatDoorEvDrawJ
import Derived.LoopNIn
set_option linter.unusedSectionVars false
set_option linter.unusedVariables false
set_option linter.unusedSimpArgs false
namespace Ev
open Go
def XE : X → Exit
  | .normal => .normal
  | .exit id => .exit id
  | .ret => .ret
def RC (E : Env) : Option Nat → Option Nat → Prop
  | none, r => r = none
  | some l, r => ∃ i, E.at_ l = some i ∧ r = some i.blk
theorem RC.mono {E E' : Env} (h : E.Le E') {l r : Option Nat} (hr : RC E l r) : RC E' l r := by
  cases l with
  | none => exact hr
  | some l => obtain ⟨i, hi, e⟩ := hr; exact ⟨i, h.2 _ _ hi, e⟩
def Came (E : Env) (g : G) (nx : Nat) (w : World) (N : Nat) (outs : List Out) : Exit → Act → World → Prop :=
  fun e a w' => ∃ o ∈ outs, e = XE o.1 ∧ ∃ E', At E g nx w N E' o.2 a w'
theorem Came.trans {E E1 : Env} {g : G} {nx N : Nat} {w w1 : World} {s1 : S} {a1 : Act} {outs outs' : List Out} (h : At E g nx w N E1 s1 a1 w1) (hs : ∀ o ∈ outs, o ∈ outs') {e : Exit} {a : Act} {w' : World} (hc : Came E1 s1.h.get s1.nx w1 N outs e a w') :
    Came E g nx w N outs' e a w' := by
  obtain ⟨o, ho, he, E', hat⟩ := hc
  exact ⟨o, hs o ho, he, E', h.step.trans hat.step, hat.tr, hat.marks, hat.size⟩
theorem T.keep_get {α β : Type} : ∀ (a : T α) (b : T β) (n : Nat) (x : β), (T.keep a b).get n = some x → b.get n = some x := by
  intro a
  induction a with
  | e => intro b n x h; simp [T.keep_e, T.get_e] at h
  | n l v r ihl ihr =>
    intro b n x h
    cases b with
    | e => simp [T.keep_ne, T.get_e] at h
    | n c w d =>
      rw [T.keep_n] at h
      rw [T.get_eq] at h ⊢
      by_cases h0 : n = 0
      · simp only [h0, if_true, T.val] at h ⊢; cases v <;> simp at h; exact h
      · by_cases h1 : n % 2 = 1
        · simp only [h0, if_false, h1, if_true, T.left] at h ⊢; exact ihl c _ x h
        · simp only [h0, if_false, h1, T.right] at h ⊢; exact ihr d _ x h
def Weaker (o o' : O) : Prop := o' = o ∨ ∃ m left last, o = .iter m left last ∧ o' = .iter m left none
theorem Step.weak {E : Env} {g g' : G} {nx : Nat} {w : World} (hr : Rel E g w) (hf : Fresh E nx) (hs : ∀ n o', g' n = some o' → ∃ o, g n = some o ∧ Weaker o o') : Step E g nx w E g' nx w := by
  refine ⟨Env.Le.refl E, fun _ _ => rfl, Nat.le_refl _, hf, ⟨fun n o' hn => ?_, fun n m o p i j hn hm => ?_⟩, Grew.refl w, fun _ _ _ => rfl, ?_⟩
  · obtain ⟨o, ho, hw⟩ := hs n o' hn
    obtain ⟨i, hi, hob⟩ := hr.obj n o ho
    refine ⟨i, hi, ?_⟩
    rcases hw with rfl | ⟨m, left, last, rfl, rfl⟩
    · exact hob
    · obtain ⟨j, seen, h1, h2, h3, h4, h5, h6⟩ := hob
      exact ⟨j, seen, h1, h2, h3, h4, h5, fun p hp => by cases hp⟩
  · obtain ⟨o1, ho1, _⟩ := hs n o hn
    obtain ⟨p1, hp1, _⟩ := hs m p hm
    exact hr.inj n m o1 p1 i j ho1 hp1
  · rintro b hb ⟨n, o', i, hn, hi, he⟩
    obtain ⟨o, ho, _⟩ := hs n o' hn
    exact ⟨n, o, i, ho, hi, he⟩
theorem dropIters_get : ∀ (ns : List Nat) (h : H) (n : Nat) (o' : O), (dropIters h ns).get n = some o' → ∃ o, h.get n = some o ∧ Weaker o o'
  | [], h, n, o', hn => ⟨o', hn, .inl rfl⟩
  | k :: ns, h, n, o', hn => by
    simp only [dropIters] at hn
    obtain ⟨o, ho, hw⟩ := dropIters_get ns _ n o' hn
    split at ho
    · rename_i m left last hk
      rw [T.get_set] at ho
      by_cases he : n = k
      · subst he
        simp only [if_true, Option.some.injEq] at ho
        subst ho
        refine ⟨_, hk, .inr ⟨m, left, last, rfl, ?_⟩⟩
        rcases hw with rfl | ⟨m', left', last', e1, rfl⟩
        · rfl
        · cases e1; rfl
      · simp only [if_neg he] at ho
        exact ⟨o, ho, hw⟩
    · exact ⟨o, ho, hw⟩
theorem At.forget {E : Env} {g : G} {nx N : Nat} {w w' : World} {E' : Env} {s : S} {a : Act} (s0 : S) (its : List Nat) (h : At E g nx w N E' s a w') : At E g nx w N E' (Ev.forget s0 s its) a w' := by
  refine ⟨h.step.trans (Step.weak h.step.rel h.step.fresh fun n o' hn => ?_), fun k v hk => h.tr k v (T.keep_get _ _ _ _ hk), h.marks, h.size⟩
  obtain ⟨o, ho, hw⟩ := dropIters_get its _ n o' hn
  exact ⟨o, reach_sub s.h _ _ .e (fun n o hn => by rw [T.get_e] at hn; cases hn) n o ho, hw⟩
theorem mergeS_mem {E : Env} {g : G} {nx N : Nat} {w w' : World} {E' : Env} {s s0 : S} {a : Act} {l : List S} (hs : s ∈ l) (h : At E g nx w N E' s a w') : ∃ s' ∈ mergeS s0 l, At E g nx w N E' s' a w' := by
  cases l with
  | nil => cases hs
  | cons x xs =>
    cases xs with
    | nil => exact ⟨s, hs, h⟩
    | cons y ys =>
      refine ⟨_, List.mem_map.2 ⟨_, dedup_mem (fun a b h => ?_) _ _ (List.mem_map.2 ⟨s, hs, rfl⟩), rfl⟩, h.forget s0 _⟩
      simp only [Bool.and_eq_true] at h
      exact Prod.ext (nbeq_true h.1) (S.eq_eq h.2)
theorem Step.killed {E : Env} {g : G} {nx n : Nat} {w w' : World} {i : Info} {o0 : O} (hr : Rel E g w) (hf : Fresh E nx) (hn : g n = some o0) (hi : E.at_ n = some i) (hgr : Grew w w') (hw : ∀ b, b ≠ i.blk → w'.heap[b]? = w.heap[b]?) :
    Step E g nx w E (rem g n) nx w' := by
  have key : ∀ m p, rem g n m = some p → g m = some p ∧ m ≠ n := by
    intro m p h
    by_cases h' : m = n
    · simp [rem, h'] at h
    · simp only [rem, if_neg h'] at h; exact ⟨h, h'⟩
  refine ⟨Env.Le.refl E, fun _ _ => rfl, Nat.le_refl _, hf, ⟨fun m p hm => ?_, fun m k p q a b hm hk ha hb he => hr.inj m k p q a b (key m p hm).1 (key k q hk).1 ha hb he⟩, hgr, fun b hb hnf => ?_, ?_⟩
  · obtain ⟨h1, h2⟩ := key m p hm
    obtain ⟨j, hj, hoj⟩ := hr.obj m p h1
    exact ⟨j, hj, hoj.mono (Env.Le.refl E) (hw _ fun e => h2 (hr.inj m n p o0 j i h1 hn hj hi e))⟩
  · exact hw b fun e => hnf ⟨n, o0, i, hn, hi, e.symm⟩
  · rintro b hb ⟨m, p, j, hm, hj, he⟩
    exact ⟨m, p, j, (key m p hm).1, hj, he⟩
section
variable {tb : Tab} {P : Program} {w0 : Base} (hT : TabOk tb P) (hF : FnOk tb P w0) {rc : Rec} (hR : RecOk P w0 rc)
include hT hF hR
omit hT in
theorem range_ok {cx : Ctx} {r : Option Nat} (hc1 : cx.tb = tb) (hc2 : cx.rc = rc) {g : Operand} {ps : Array Tmp} {assign body : Code} {s : S} {outs : List Out} {a : Act} {w : World} {E : Env} {N : Nat} (hrc : RC E cx.inRound r)
    (h : code cx (.rangeFunc g ps assign body) s = some outs) (ho : Ok w0 E s.h.get s.nx w) (ht : TR E s.t a.tmps) (hm : MR E s.m a.defers) (hN : a.tmps.size = N) (hd : dstOk N (.rangeFunc g ps assign body) = true) :
    (Code.rangeFunc g ps assign body).wpIn (FR r) 0 P (Came E s.h.get s.nx w N outs) a w := by
  simp only [dstOk, Bool.and_eq_true] at hd
  simp only [code, hc1, hc2] at h
  split at h
  case h_2 => cases h
  rename_i f first cap hg
  split at h
  · cases h
  · rename_i d s1 hpre
    split at h
    · cases h
    · rename_i v2 h2 nx2 hcall
      split at h
      case h_2 => cases h
      rename_i st pend t' ps' as' bd' d' hloop
      have hst : st ≠ .busy := by rintro rfl; simp at h
      have hj : ∃ j, jumpOf pend = some j ∧ outs = [(j, { s1 with h := h2.del s1.nx, nx := nx2 })] := by
        cases st <;> simp at hst <;> (
          simp only at h
          split at h
          · cases h
          · rename_i j hj; simp at h; exact ⟨j, hj, h.symm⟩)
      clear h
      obtain ⟨j, hj, rfl⟩ := hj
      cases hb : hasBody tb f with
      | false => rw [hb] at hcall; cases hcall
      | true =>
        rw [hb, cond_true] at hcall
        obtain ⟨fnn, b, hfn, hbody⟩ : ∃ fnn b, tb.fn f = some fnn ∧ fnn.body = some b := by
          unfold hasBody at hb
          split at hb
          · rename_i fnn hfn
            obtain ⟨b, hb'⟩ := Option.isSome_iff_exists.1 hb
            exact ⟨fnn, b, hfn, hb'⟩
          · cases hb
        obtain ⟨fs, cs, hfs, hcs, heg⟩ := ev_ok ht ho.glob hg
        refine wpIn_rangeFunc fun fn _ => ?_
        obtain ⟨E1, w1, mark, dd, hat1, hd1, hent, htm⟩ : ∃ E1 w1 mark dd, At E s.h.get s.nx w N E1 s1 { a with defers := mark ++ a.defers } w1 ∧ E1.at_ d = some dd ∧
            (∀ (obj : Nat → Obj), True) ∧ (Instr.enterLoop fn a.tmps ps assign body (FR r).round).run P w =
              .ok (w1.heap.size, mark) (w1.alloc (.loop { state := .ready, pending := none, fn := fn, tmps := a.tmps, params := ps, assign := assign, body := body, defers := dd.blk })) := by
          cases hin : cx.inRound with
          | none =>
            rw [hin] at hpre hrc
            simp only [Option.some.injEq, Prod.mk.injEq] at hpre
            obtain ⟨rfl, rfl⟩ := hpre
            rw [show r = none from hrc]
            let i : Info := ⟨w.heap.size, 0, 0, (#[], 0)⟩
            have hν := ho.fresh s.nx (Nat.le_refl _)
            have hstep : Step E s.h.get s.nx w (E.add s.nx i) (s.h.set s.nx (.defer true)).get (s.nx + 1) (w.alloc (.deferred (some []))) := by
              rw [get_set_upd]
              exact Step.alloc ho.rel ho.fresh rfl rfl ⟨rfl, rfl, rfl⟩ ⟨rfl, heap_alloc_new w _⟩
            refine ⟨E.add s.nx i, w.alloc (.deferred (some [])), [{ target := .collected w.heap.size, args := #[] }], i, ⟨hstep, ht.mono hstep.le, ⟨i, _, E.add_at _ i, rfl, hm.mono hstep.le⟩, hN⟩, E.add_at _ i, fun _ => trivial, ?_⟩
            simp [Instr.enterLoop, FR, Fence.wide, i]
          | some l =>
            rw [hin] at hpre hrc
            obtain ⟨il, hil, rfl⟩ := hrc
            simp only at hpre
            split at hpre
            · rename_i st0 pend0 t0 ps0 a0 b0 d0 hl0
              simp only [Option.some.injEq, Prod.mk.injEq] at hpre
              obtain ⟨rfl, rfl⟩ := hpre
              obtain ⟨il', hil', dd, fn0, tm0, hdd, hob, _⟩ := ho.rel.obj l _ hl0
              rw [hil] at hil'; cases hil'
              refine ⟨E, w, [], dd, ⟨Step.refl ho.rel ho.fresh, ht, hm, hN⟩, hdd, fun _ => trivial, ?_⟩
              have hgl : (Instr.getLoop il.blk).run P w = .ok { state := st0, pending := pend0, fn := fn0, tmps := tm0, params := ps0.toArray, assign := a0, body := b0, defers := dd.blk } w := by
                simp only [Instr.getLoop, Sem.run_bind, getObj, Sem.run, hob, Result.andThen_ok, Sem.run_pure]
              simp only [Instr.enterLoop, FR, Sem.run_bind, hgl, Result.andThen_ok, Sem.run_pure, run_newObj, World.alloc_eq]
            · cases hpre
        have ho1 := ho.step hat1.step
        let li : Info := ⟨w1.heap.size, 0, 0, (#[], 0)⟩
        let w2 : World := w1.alloc (.loop { state := .ready, pending := none, fn := fn, tmps := a.tmps, params := ps, assign := assign, body := body, defers := dd.blk })
        have hν1 := ho1.fresh s1.nx (Nat.le_refl _)
        have hle1 := Env.le_add (i := li) hν1
        have hpsd : ps.toList.all (Nat.blt · a.tmps.size) = true := by rw [hN]; exact hd.1.1
        have hst1 : s1.t = s.t := by
          cases hin : cx.inRound with
          | none => rw [hin] at hpre; simp only [Option.some.injEq, Prod.mk.injEq] at hpre; obtain ⟨_, rfl⟩ := hpre; rfl
          | some l =>
            rw [hin] at hpre; simp only at hpre; split at hpre
            · simp only [Option.some.injEq, Prod.mk.injEq] at hpre; obtain ⟨_, rfl⟩ := hpre; rfl
            · cases hpre
        have hstep2 : Step E1 s1.h.get s1.nx w1 (E1.add s1.nx li) (s1.h.set s1.nx (.loop .ready none s1.t ps.toList assign body d)).get (s1.nx + 1) w2 := by
          rw [get_set_upd]
          refine Step.alloc ho1.rel ho1.fresh rfl rfl ⟨rfl, rfl, rfl⟩ ⟨dd, fn, a.tmps, hle1.2 _ _ hd1, ?_, (hat1.tr).mono hle1, ?_, ?_, hpsd⟩
          · have := heap_alloc_new w1 (.loop { state := .ready, pending := none, fn := fn, tmps := a.tmps, params := ps, assign := assign, body := body, defers := dd.blk })
            exact this
          · rw [hN]; exact hd.1.2
          · rw [hN]; exact hd.2
        have ho2 := ho1.step hstep2
        have hargs : VRL (E1.add s1.nx li) (first ++ [.yld s1.nx] ++ cap) (fs ++ [Value.func (.yield w1.heap.size) #[] #[]] ++ cs) := by
          have hle := hat1.step.le.trans hle1
          exact ((VRL.mono hle _ _ hfs).append (VRL.cons (show VR (E1.add s1.nx li) (.yld s1.nx) (.func (.yield w1.heap.size) #[] #[]) from ⟨li, Env.add_at _ _ _, rfl⟩) VRL.nil)).append (VRL.mono hle _ _ hcs)
        obtain ⟨henter, hcalls⟩ := callFn_calls hF hR hfn hbody hcall ho2 hargs
        refine ⟨w1.heap.size, mark, w2, { target := .fn (.func f) cs.toArray, args := fs.toArray ++ #[Value.func (.yield w1.heap.size) #[] #[]] }, w2, f, (fs ++ [Value.func (.yield w1.heap.size) #[] #[]] ++ cs).toArray, w2, htm, ?_, fun _ _ => trivial, ?_, (by intro hh; cases hh), ?_⟩
        · have hmapc : Array.map a.eval #[Operand.const (Value.func (Fn.yield w1.heap.size) #[] #[])] = #[Value.func (.yield w1.heap.size) #[] #[]] := by simp [Act.eval]
          simp only [resolve, heg, Deferred.ofValue, Sem.run_pure, hmapc]
        · simp only [invoke]
          have e : fs.toArray ++ #[Value.func (.yield w1.heap.size) #[] #[]] ++ cs.toArray = (fs ++ [Value.func (.yield w1.heap.size) #[] #[]] ++ cs).toArray := by apply Array.ext'; simp
          rw [e]; exact henter
        · refine CallsIn.mono (F := FR r) (n := 0) ((callsIn_wide (n := 0)).2 hcalls) ?_
          rintro e w3 ⟨x, rfl, E3, _, hs3⟩
          obtain ⟨i3, hi3, dd3, fn3, tm3, _, hob3, _⟩ := hs3.rel.obj s1.nx _ hloop
          have : i3 = li := by have := hs3.le.2 s1.nx li (Env.add_at _ _ _); rw [hi3] at this; exact Option.some.inj this
          subst this
          let w4 : World := { w3 with heap := w3.heap.setIfInBounds li.blk (.loop { state := .exhausted, pending := pend, fn := fn3, tmps := tm3, params := ps'.toArray, assign := as', body := bd', defers := dd3.blk }) }
          have hgl : (Instr.getLoop li.blk).run P w3 = .ok { state := st, pending := pend, fn := fn3, tmps := tm3, params := ps'.toArray, assign := as', body := bd', defers := dd3.blk } w3 := by
            simp only [Instr.getLoop, Sem.run_bind, getObj, Sem.run, hob3, Result.andThen_ok, Sem.run_pure]
          have hnb : (st == LoopState.busy) = false := by cases st <;> first | rfl | exact absurd rfl hst
          have hend : (Instr.endLoop w1.heap.size).run P w3 = .ok pend w4 := by
            have hset : (setObj li.blk (.loop { state := .exhausted, pending := pend, fn := fn3, tmps := tm3, params := ps'.toArray, assign := as', body := bd', defers := dd3.blk })).run P w3 = .ok () w4 := by
              simp only [setObj, Sem.run, hob3]
              rfl
            show (Instr.endLoop li.blk).run P w3 = _
            simp only [Instr.endLoop, Sem.run_bind, hgl, Result.andThen_ok, hnb, Bool.false_eq_true, if_false, hset, Sem.run_pure]
          have hk := Step.killed (nx := nx2) hs3.rel hs3.fresh hloop hi3 (w' := w4) ⟨rfl, rfl, rfl, by simp [w4]⟩ (fun b hb => by simp [w4, Array.getElem?_setIfInBounds_ne (Ne.symm hb)])
          have hall : Step E s.h.get s.nx w E3 (h2.del s1.nx).get nx2 w4 := by
            rw [get_del_rem]
            exact (hat1.step.trans hstep2).trans (hs3.trans hk)
          have hle3 : E1.Le E3 := hle1.trans hs3.le
          have hat4 : At E s.h.get s.nx w N E3 { s1 with h := h2.del s1.nx, nx := nx2 } { a with defers := mark ++ a.defers } w4 := ⟨hall, hat1.tr.mono hle3, hat1.marks.mono hle3, hN⟩
          refine ⟨pend, w4, hend, ?_⟩
          cases pend with
          | none => simp [jumpOf] at hj; subst hj; exact ⟨_, List.mem_singleton.2 rfl, rfl, E3, hat4⟩
          | some cd =>
            cases cd <;> simp [jumpOf] at hj
            · subst hj; exact wpIn_exit ⟨_, List.mem_singleton.2 rfl, rfl, E3, hat4⟩
            · subst hj; exact wpIn_ret ⟨_, List.mem_singleton.2 rfl, rfl, E3, hat4⟩
theorem code_ok {cx : Ctx} {r : Option Nat} (hc1 : cx.tb = tb) (hc2 : cx.rc = rc) {N : Nat} : ∀ (c : Code) {s : S} {outs : List Out} {a : Act} {w : World} {E : Env}, RC E cx.inRound r → code cx c s = some outs → Ok w0 E s.h.get s.nx w → TR E s.t a.tmps → MR E s.m a.defers →
    a.tmps.size = N → dstOk N c = true → c.wpIn (FR r) 0 P (Came E s.h.get s.nx w N outs) a w := by
  intro c
  induction c with
  | skip =>
    intro s outs a w E _ h ho ht hm hN _
    simp [code] at h; subst h
    exact wpIn_skip ⟨_, List.mem_singleton.2 rfl, rfl, E, Step.refl ho.rel ho.fresh, ht, hm, hN⟩
  | label l =>
    intro s outs a w E _ h ho ht hm hN _
    simp [code] at h; subst h
    exact wpIn_label ⟨_, List.mem_singleton.2 rfl, rfl, E, Step.refl ho.rel ho.fresh, ht, hm, hN⟩
  | exit id =>
    intro s outs a w E _ h ho ht hm hN _
    simp [code] at h; subst h
    exact wpIn_exit ⟨_, List.mem_singleton.2 rfl, rfl, E, Step.refl ho.rel ho.fresh, ht, hm, hN⟩
  | ret =>
    intro s outs a w E _ h ho ht hm hN _
    simp [code] at h; subst h
    exact wpIn_ret ⟨_, List.mem_singleton.2 rfl, rfl, E, Step.refl ho.rel ho.fresh, ht, hm, hN⟩
  | region id ops draw =>
    intro s outs a w E _ h ho ht hm hN hd
    have hdst : ∀ o ∈ ops.toList, ∀ k, o.dst = some k → k < N := by
      intro o hmem k hk
      simp only [dstOk, List.all_eq_true] at hd
      have := hd o hmem
      simp only [hk] at this
      exact nblt_lt this
    simp only [code, hc1, hc2] at h
    cases draw with
    | false =>
      simp only [cond_false] at h
      cases h1 : runOps tb rc ops ops.toList s with
      | none => simp [h1] at h
      | some l =>
        simp [h1] at h
        subst h
        refine wpIn_region ?_
        have := runOps_ok (r := r) hT hF hR ops.toList 0 (by simp) h1 ho ht hm hN hdst (Came E s.h.get s.nx w N (l.map fun s => (X.normal, s))) (fun s' hs' E' a' w' hat => ⟨(.normal, s'), List.mem_map.2 ⟨s', hs', rfl⟩, rfl, E', hat⟩)
        rw [List.range_eq_range']
        simpa using this
    | true =>
      simp only [cond_true] at h
      cases h1 : drawn tb rc ops s with
      | none => simp [h1] at h
      | some s' =>
        simp [h1] at h
        subst h
        exact wpIn_region_draw fun t => drawn_ok hT hF hR h1 ho ht hm hN hdst _ (fun E' a' w' hat => ⟨_, List.mem_singleton.2 rfl, rfl, E', hat⟩) t
  | seq x y ihx ihy =>
    intro s outs a w E hrc h ho ht hm hN hd
    simp only [dstOk, Bool.and_eq_true] at hd
    simp only [code] at h
    cases h1 : code cx x s with
    | none => simp [h1] at h
    | some o1 =>
      simp only [h1] at h
      refine wpIn_seq (wpIn_mono (ihx hrc h1 ho ht hm hN hd.1) ?_)
      rintro e a1 w1 ⟨o, hmem, rfl, E1, hat⟩
      obtain ⟨ys, hy, hsub⟩ := eachL_mem h o hmem
      obtain ⟨xo, so⟩ := o
      cases xo with
      | normal =>
        simp only at hy
        show y.wpIn _ _ _ _ _ _
        exact wpIn_mono (ihy (hrc.mono hat.step.le) hy (ho.step hat.step) hat.tr hat.marks hat.size hd.2) fun e a w hc => Came.trans hat hsub hc
      | exit id => simp only [Option.some.injEq] at hy; subst hy; exact ⟨_, hsub _ (List.mem_singleton.2 rfl), rfl, E1, hat⟩
      | ret => simp only [Option.some.injEq] at hy; subst hy; exact ⟨_, hsub _ (List.mem_singleton.2 rfl), rfl, E1, hat⟩
  | cond c x y ihx ihy =>
    intro s outs a w E hrc h ho ht hm hN hd
    simp only [dstOk, Bool.and_eq_true] at hd
    simp only [code] at h
    split at h
    · rename_i hc
      exact wpIn_cond_true (show a.eval c = _ from ev_ok ht ho.glob hc) (ihx hrc h ho ht hm hN hd.1)
    · rename_i hc
      exact wpIn_cond_false (show a.eval c = _ from ev_ok ht ho.glob hc) (ihy hrc h ho ht hm hN hd.2)
    · cases h
  | block id x ih =>
    intro s outs a w E hrc h ho ht hm hN hd
    simp only [code] at h
    cases h1 : code cx x s with
    | none => simp [h1] at h
    | some o1 =>
      simp only [h1, Option.map_some, Option.some.injEq] at h
      subst h
      refine wpIn_block (wpIn_mono (ih hrc h1 ho ht hm hN hd) ?_)
      rintro e a1 w1 ⟨o, hmem, rfl, E1, hat⟩
      obtain ⟨xo, so⟩ := o
      cases xo with
      | normal => exact ⟨(.normal, so), List.mem_map.2 ⟨_, hmem, rfl⟩, rfl, E1, hat⟩
      | ret => exact ⟨(.ret, so), List.mem_map.2 ⟨_, hmem, rfl⟩, rfl, E1, hat⟩
      | exit j =>
        show if j = id then _ else _
        by_cases hj : j = id
        · rw [if_pos hj]
          refine ⟨(.normal, so), List.mem_map.2 ⟨_, hmem, ?_⟩, rfl, E1, hat⟩
          simp [hj, Nat.beq_refl]
        · rw [if_neg hj]
          refine ⟨(.exit j, so), List.mem_map.2 ⟨_, hmem, ?_⟩, rfl, E1, hat⟩
          simp only [nbeq_false hj, cond_false]
  | loop x ih =>
    intro s outs a w E hrc h ho ht hm hN hd
    simp only [code] at h
    refine wpIn_loop_rounds cx.rounds ?_
    have key : ∀ (n : Nat) (l : List S) (acc : List Out), iter (code cx x) s n l acc = some outs → (∀ o ∈ acc, o ∈ outs) ∧ ∀ s1 ∈ l, ∀ E1 a1 w1, At E s.h.get s.nx w N E1 s1 a1 w1 →
        Code.roundsIn (FR r) 0 P x (Came E s.h.get s.nx w N outs) n a1 w1 := by
      intro n
      induction n with
      | zero =>
        intro l acc hi
        cases l with
        | nil => simp [iter] at hi; subst hi; exact ⟨fun o ho => ho, fun s1 hs1 => by cases hs1⟩
        | cons y ys => simp [iter] at hi
      | succ n ihn =>
        intro l acc hi
        cases l with
        | nil => simp [iter] at hi; subst hi; exact ⟨fun o ho => ho, fun s1 hs1 => by cases hs1⟩
        | cons y ys =>
          simp only [iter] at hi
          cases h1 : eachL (code cx x) (y :: ys) with
          | none => simp [h1] at hi
          | some os =>
            simp only [h1] at hi
            obtain ⟨hacc, hnext⟩ := ihn _ _ hi
            refine ⟨fun o hmem => hacc o (List.mem_append.2 (.inl hmem)), fun s1 hs1 E1 a1 w1 hat => ?_⟩
            obtain ⟨o1, ho1, hsub⟩ := eachL_mem h1 s1 hs1
            rw [roundsIn_succ]
            refine wpIn_mono (ih (hrc.mono hat.step.le) ho1 (ho.step hat.step) hat.tr hat.marks hat.size hd) ?_
            rintro e a2 w2 ⟨o, hmem, rfl, E2, hat2⟩
            have hat3 : At E s.h.get s.nx w N E2 o.2 a2 w2 := ⟨hat.step.trans hat2.step, hat2.tr, hat2.marks, hat2.size⟩
            obtain ⟨xo, so⟩ := o
            cases xo with
            | normal =>
              show Code.roundsIn _ _ _ _ _ n a2 w2
              obtain ⟨s', hs', hat4⟩ := mergeS_mem (s0 := s) (l := os.filterMap Out.next) (List.mem_filterMap.2 ⟨_, hsub _ hmem, rfl⟩) hat3
              exact hnext s' hs' E2 a2 w2 hat4
            | exit id => exact ⟨_, hacc _ (List.mem_append.2 (.inr (List.mem_filter.2 ⟨hsub _ hmem, rfl⟩))), rfl, E2, hat3⟩
            | ret => exact ⟨_, hacc _ (List.mem_append.2 (.inr (List.mem_filter.2 ⟨hsub _ hmem, rfl⟩))), rfl, E2, hat3⟩
    exact (key cx.rounds [s] [] h).2 s (List.mem_singleton.2 rfl) E a w ⟨Step.refl ho.rel ho.fresh, ht, hm, hN⟩
  | rangeFunc g ps assign body _ _ =>
    intro s outs a w E hrc h ho ht hm hN hd
    exact range_ok hF hR hc1 hc2 hrc h ho ht hm hN hd
  | scope x _ => intro s outs a w E _ h; simp [code] at h
  | goto l => intro s outs a w E _ h; simp [code] at h
  | refuse why => intro s outs a w E _ h; simp [code] at h
end
end Ev
namespace Ev
open Go
def packV : List V → V
  | [v] => v
  | vs => .tup vs
def resSem (tmps : Array Value) : ResultVar → Sem Value
  | .tmp t => pure (tmps.getD t undef)
  | .cell a t => do loadVar t (← asAddr (tmps.getD a undef))
theorem results_eq (fn : Func) (tmps : Array Value) : results fn tmps = (do
    let vs ← fn.results.mapM (resSem tmps)
    pure (if h : vs.size = 1 then vs[0] else .tuple vs)) := by
  unfold results
  congr 1
section
variable {tb : Tab} {P : Program} (hT : TabOk tb P) {E : Env} {w : World}
include hT
theorem resOf_ok {t : T V} {g : H} {tmps : Array Value} {f : ResultVar → Sem Value} (hf1 : ∀ t, f (.tmp t) = pure (tmps.getD t undef)) (hf2 : ∀ a t, f (.cell a t) = do loadVar t (← asAddr (tmps.getD a undef))) (ht : TR E t tmps)
    (hr : Rel E g.get w) : ∀ {rs : List ResultVar} {vs : List V}, resOf tb t g rs = some vs → ∃ xs, (rs.mapM f).run P w = .ok xs w ∧ VRL E vs xs
  | [], vs, h => by simp [resOf] at h; subst h; exact ⟨[], by simp, rfl⟩
  | .tmp i :: rs, vs, h => by
    simp only [resOf] at h
    cases h1 : t.get i with
    | none => simp [h1] at h
    | some v =>
      simp only [h1] at h
      cases h2 : resOf tb t g rs with
      | none => simp [h2] at h
      | some us =>
        simp [h2] at h
        subst h
        obtain ⟨x, hx, hv⟩ := ht i v h1
        obtain ⟨xs, hrun, hxs⟩ := resOf_ok hf1 hf2 ht hr h2
        refine ⟨x :: xs, ?_, x, xs, rfl, hv, hxs⟩
        have : tmps.getD i undef = x := by simp [Array.getD_eq_getD_getElem?, hx]
        simp only [List.mapM_cons, Sem.run_bind, hf1, this, Sem.run_pure, Result.andThen_ok, hrun]
  | .cell ad ty :: rs, vs, h => by
    simp only [resOf] at h
    split at h
    · rename_i n off h1
      cases h3 : load tb g ty n off with
      | none => simp [h3] at h
      | some v =>
        simp only [h3] at h
        cases h2 : resOf tb t g rs with
        | none => simp [h2] at h
        | some us =>
          simp [h2] at h
          subst h
          obtain ⟨x, hx, i, hi, rfl⟩ := ht ad _ h1
          obtain ⟨y, hy, hv⟩ := load_ok hT h3 hr hi
          obtain ⟨xs, hrun, hxs⟩ := resOf_ok hf1 hf2 ht hr h2
          refine ⟨y :: xs, ?_, y, xs, rfl, hv, hxs⟩
          have hA : (asAddr (tmps.getD ad undef)).run P w = .ok ⟨i.blk, off, none⟩ w := by
            have : tmps.getD ad undef = .pointer (some ⟨i.blk, off, none⟩) := by simp [Array.getD_eq_getD_getElem?, hx]
            rw [this]; rfl
          simp only [List.mapM_cons, Sem.run_bind, hf2, hA, Sem.run_pure, Result.andThen_ok, hy, hrun]
    · cases h
theorem results_ok {t : T V} {g : H} {tmps : Array Value} {fn : Func} {vs : List V} (ht : TR E t tmps) (hr : Rel E g.get w) (h : resOf tb t g fn.results.toList = some vs) :
    ∃ x, (results fn tmps).run P w = .ok x w ∧ VR E (packV vs) x := by
  obtain ⟨xs, hrun0, hv⟩ := resOf_ok (P := P) (f := resSem tmps) hT (fun _ => rfl) (fun _ _ => rfl) ht hr h
  have hrun : (fn.results.mapM (resSem tmps)).run P w = .ok xs.toArray w := by
    rw [Array.mapM_eq_mapM_toList]
    simp only [Sem.run_map, hrun0, Result.andThen_ok]
  refine ⟨if h : xs.toArray.size = 1 then xs.toArray[0] else .tuple xs.toArray, ?_, ?_⟩
  · rw [results_eq]; simp only [Sem.run_bind, hrun, Result.andThen_ok, Sem.run_pure]
  · have hl := hv.length
    match vs, hv, hl with
    | [], hv, hl => rw [show xs = [] from hv]; exact ⟨[], rfl, rfl⟩
    | [v], ⟨y, ys, e, hy, hn⟩, hl => rw [e, show ys = [] from hn]; exact hy
    | u :: v :: us, hv, hl =>
      rw [dif_neg (by simp [hl])]
      exact ⟨xs, hv, rfl⟩
end
section
variable {tb : Tab} {P : Program} {w0 : Base} (hT : TabOk tb P) (hF : FnOk tb P w0) {rc : Rec} (hR : RecOk P w0 rc)
include hT hF hR
omit hF hR in
theorem marks_ok {E E1 : Env} {g : G} {nx : Nat} {w : World} {fn : Func} {tmps : Array Value} {t : T V} {v : V} {g' : H} {nx' : Nat} {vs : List V} {R : Ending → World → Prop} (hRR : ∀ e w', Post E g nx w v g'.get nx' e w' → R e w') (ht : TR E1 t tmps) : ∀ (m : List Nat) (ds : List Deferred) (h : H) (w1 : World), MR E1 m ds → takeMarks m h = some g' →
    Step E g nx w E1 h.get nx' w1 → resOf tb t g' fn.results.toList = some vs → v = packV vs → LeavesInM (FR none) 0 P fn tmps R ds .returning w1 := by
  intro m
  induction m with
  | nil =>
    intro ds h w1 hm htake hs hres hv
    rw [show ds = [] from hm]
    simp [takeMarks] at htake
    subst htake
    obtain ⟨x, hx, hxv⟩ := results_ok (P := P) hT ht hs.rel hres
    rw [← hv] at hxv
    exact ⟨x, hx, hRR _ _ ⟨x, rfl, E1, hxv, hs⟩⟩
  | cons d m ih =>
    intro ds h w1 hm htake hs hres hv
    obtain ⟨i, rest, hi, rfl, hmr⟩ := hm
    simp only [takeMarks] at htake
    split at htake
    · rename_i hg
      obtain ⟨i', hi', _, hob⟩ := hs.rel.obj d _ hg
      rw [hi] at hi'; cases hi'
      let w2 : World := { w1 with heap := w1.heap.setIfInBounds i.blk (.deferred none) }
      have hrun : (Instr.takeDeferred i.blk).run P w1 = .ok [] w2 := by
        simp [Instr.takeDeferred, getObj, setObj, Sem.run, hob, w2]
      have hk := Step.killed (nx := nx') hs.rel hs.fresh hg hi (w' := w2) ⟨rfl, rfl, rfl, by simp [w2]⟩ (fun b hb => by simp [w2, Array.getElem?_setIfInBounds_ne (Ne.symm hb)])
      refine ⟨by simp, .inl ⟨i.blk, w2, rfl, hrun, ih rest (h.del d) w2 hmr htake ?_ hres hv⟩⟩
      rw [get_del_rem]
      exact hs.trans hk
    · cases htake
omit hF hR in
theorem leave_ok {E E1 : Env} {g : G} {nx N : Nat} {w w1 : World} {fn : Func} {o : Out} {a : Act} {v : V} {g' : H} {nx' : Nat} {R : Ending → World → Prop} (hRR : ∀ e w', Post E g nx w v g'.get nx' e w' → R e w') (hat : At E g nx w N E1 o.2 a w1) (h : leaveFn tb fn o = some (v, g', nx')) :
    (o.1 = .normal ∨ o.1 = .ret) ∧ LeavesInM (FR none) 0 P fn a.tmps R a.defers .returning w1 := by
  obtain ⟨x, s⟩ := o
  unfold leaveFn at h
  simp only at h hat ⊢
  have hx : x = .normal ∨ x = .ret := by
    cases x with
    | normal => exact .inl rfl
    | ret => exact .inr rfl
    | exit id => simp at h
  refine ⟨hx, ?_⟩
  have h' : (match takeMarks s.m s.h with
    | none => none
    | some h => match resOf tb s.t h fn.results.toList with
      | some [v] => some (v, h, s.nx)
      | some vs => some (V.tup vs, h, s.nx)
      | none => none : Option R3) = some (v, g', nx') := by rcases hx with rfl | rfl <;> exact h
  clear h
  cases hm : takeMarks s.m s.h with
  | none => simp [hm] at h'
  | some h1 =>
    simp only [hm] at h'
    cases hres : resOf tb s.t h1 fn.results.toList with
    | none => simp [hres] at h'
    | some vs =>
      have key : v = packV vs ∧ h1 = g' ∧ s.nx = nx' := by
        rw [hres] at h'
        match vs, h' with
        | [], h' => simp at h'; exact ⟨h'.1.symm, h'.2⟩
        | [u], h' => simp at h'; exact ⟨h'.1.symm, h'.2⟩
        | u :: u' :: us, h' => simp at h'; exact ⟨h'.1.symm, h'.2⟩
      obtain ⟨hv, rfl, rfl⟩ := key
      exact marks_ok hT hRR hat.tr s.m a.defers s.h w1 hat.marks hm hat.step hres hv
omit hT hF hR in
theorem mapO_mem {α β : Type} {f : α → Option β} : ∀ {l : List α} {r : List β}, mapO f l = some r → ∀ x ∈ l, ∃ y, f x = some y ∧ y ∈ r := by
  intro l
  induction l with
  | nil => intro r _ x hx; cases hx
  | cons y l ih =>
    intro r h x hx
    simp only [mapO] at h
    cases h1 : f y with
    | none => simp [h1] at h
    | some z =>
      simp only [h1] at h
      cases h2 : mapO f l with
      | none => simp [h2] at h
      | some zs =>
        simp [h2] at h
        subst h
        rcases List.mem_cons.1 hx with rfl | hx
        · exact ⟨z, h1, List.mem_cons_self ..⟩
        · obtain ⟨u, hu, hm⟩ := ih h2 x hx
          exact ⟨u, hu, List.mem_cons_of_mem _ hm⟩
omit hT hF hR in
theorem R3.eq_eq (a b : R3) (h : R3.eq a b = true) : a = b := by
  obtain ⟨a1, a2, a3⟩ := a
  obtain ⟨b1, b2, b3⟩ := b
  simp only [R3.eq, Bool.and_eq_true] at h
  rw [V.eq_eq _ _ h.1.1, nbeq_true h.1.2, T.eqBy_eq O.eq_eq _ _ h.2]
omit hT hF hR in
theorem oneR_mem {h : H} {rs : List R3} {r : R3} (hd : oneR h rs = some r) {y : R3} (hy : y ∈ rs) : y = r ∨ gcR (keysT id h) (maxNx rs) y = r := by
  unfold oneR at hd
  split at hd
  · rename_i r1 h1
    cases hd
    have := dedup_mem R3.eq_eq rs y hy
    rw [h1, List.mem_singleton] at this
    exact .inl this
  · cases hd
  · split at hd
    · rename_i r1 h1
      cases hd
      have := dedup_mem R3.eq_eq (rs.map (gcR (keysT id h) (maxNx rs))) _ (List.mem_map.2 ⟨y, hy, rfl⟩)
      rw [h1, List.mem_singleton] at this
      exact .inr this
    · cases hd
omit hT hF hR in
theorem maxNx_le : ∀ {rs : List R3} {y : R3}, y ∈ rs → y.2.2 ≤ maxNx rs
  | r :: rs, y, h => by
    unfold maxNx
    cases hb : Nat.ble r.2.2 (maxNx rs) with
    | true =>
      rw [cond_true]
      rcases List.mem_cons.1 h with rfl | h
      · exact nble_le hb
      · exact maxNx_le h
    | false =>
      rw [cond_false]
      have hlt : ¬ r.2.2 ≤ maxNx rs := fun hh => by rw [Nat.ble_eq_true_of_le hh] at hb; cases hb
      rcases List.mem_cons.1 h with rfl | h
      · exact Nat.le_refl _
      · have := maxNx_le h
        omega
omit hT hF hR in
theorem gc_post {E : Env} {g : G} {nx : Nat} {w : World} {ns : List Nat} {mx : Nat} {y r : R3} (h : gcR ns mx y = r) (hm : y.2.2 ≤ mx) {e : Ending} {w' : World} (hp : Post E g nx w y.1 y.2.1.get y.2.2 e w') : Post E g nx w r.1 r.2.1.get r.2.2 e w' := by
  subst h
  obtain ⟨x, rfl, E', hv, hs⟩ := hp
  have hs' := hs.trans (Step.same hs.rel hs.fresh (reach_sub y.2.1 100000 (namesV y.1 ++ ns) .e (fun n o hn => by rw [T.get_e] at hn; cases hn)) rfl ⟨rfl, rfl, rfl⟩)
  exact ⟨x, rfl, E', hv, { hs' with mono := Nat.le_trans hs'.mono hm, fresh := fun n hn => hs'.fresh n (Nat.le_trans hm hn) }⟩
theorem callBody_ok {rounds f : Nat} {args : List V} {h h' : H} {nx nx' : Nat} {v : V} (hc : callBody tb rounds rc f args h nx = some (v, h', nx')) {E : Env} {w : World} {xs : List Value} (ho : Ok w0 E h.get nx w) (hx : VRL E args xs) :
    Calls P f xs.toArray w (Post E h.get nx w v h'.get nx') := by
  unfold callBody at hc
  split at hc
  · cases hc
  · rename_i fn hfn
    split at hc
    · cases hc
    · rename_i b hb
      cases hcond : (Nat.ble args.length fn.ntmps && dstOk fn.ntmps b) with
      | false => rw [hcond] at hc; cases hc
      | true =>
        rw [hcond, cond_true] at hc
        rw [Bool.and_eq_true] at hcond
        have hle := nble_le hcond.1
        split at hc
        · cases hc
        · rename_i outs hcode
          split at hc
          · cases hc
          · rename_i rs hmap
            · have hsz : (xs.toArray ++ Array.replicate (fn.ntmps - xs.toArray.size) undef).size = fn.ntmps := by
                have := hx.length
                simp
                omega
              have htr : TR E (T.ofList .e 0 args) (xs.toArray ++ Array.replicate (fn.ntmps - xs.toArray.size) undef) := by
                intro k u hk
                rw [T.get_ofList] at hk
                split at hk
                · rename_i hlt
                  simp only [Nat.sub_zero] at hk
                  obtain ⟨y, hy, hv⟩ := hx.get hk
                  refine ⟨y, ?_, hv⟩
                  rw [Array.getElem?_append_left (by have := hx.length; simp; omega)]
                  simpa using hy
                · simp [T.get_e] at hk
              have hwp := code_ok (cx := { tb := tb, rc := rc, inRound := none, rounds := rounds }) (r := none) hT hF hR rfl rfl b (N := fn.ntmps) (a := { tmps := xs.toArray ++ Array.replicate (fn.ntmps - xs.toArray.size) undef, defers := [] })
                (E := E) (w := w) rfl hcode ho htr rfl hsz hcond.2
              refine callsIn_wide.1 (callsIn_of_wp_marks (F := FR none) (n := 0) (hT.fn f fn hfn) hb trivial ?_)
              refine wpIn_mono hwp ?_
              rintro e a1 w1 ⟨o, hmem, rfl, E1, hat⟩
              obtain ⟨y, hy, hym⟩ := mapO_mem hmap o hmem
              obtain ⟨yv, yh, yn⟩ := y
              obtain ⟨hox, hl⟩ := leave_ok (P := P) (R := Post E h.get nx w v h'.get nx') hT (fun e w' hp => by
                rcases oneR_mem hc hym with he | he
                · cases he; exact hp
                · exact gc_post he (maxNx_le hym) hp) hat hy
              rcases hox with hox | hox <;> rw [hox] <;> exact hl
end
end Ev
namespace Ev
open Go
theorem setParams_ok {E : Env} : ∀ (ps : List Nat) (args : List V) (xs : List Value) {t : T V} {tmps : Array Value}, ps.length = args.length → VRL E args xs → TR E t tmps → ps.all (Nat.blt · tmps.size) = true →
    TR E (setParams ps args t) ((ps.zip xs).foldl (fun tm p => tm.setIfInBounds p.1 p.2) tmps) ∧ ((ps.zip xs).foldl (fun tm p => tm.setIfInBounds p.1 p.2) tmps).size = tmps.size
  | [], args, xs, t, tmps, _, _, ht, _ => by
    cases args <;> exact ⟨ht, rfl⟩
  | p :: ps, [], xs, t, tmps, hl, _, _, _ => by simp at hl
  | p :: ps, v :: args, xs, t, tmps, hl, ⟨x, xs', hx, hv, hvs⟩, ht, ha => by
    subst hx
    rw [List.all_cons, Bool.and_eq_true] at ha
    have hp := nblt_lt ha.1
    have ht' : TR E (t.set p v) (tmps.setIfInBounds p x) := by
      intro k u hk
      rw [T.get_set] at hk
      by_cases h : k = p
      · subst h
        simp at hk
        subst hk
        exact ⟨x, by simp [hp], hv⟩
      · simp only [if_neg h] at hk
        obtain ⟨y, hy, hu⟩ := ht k u hk
        exact ⟨y, by rw [Array.getElem?_setIfInBounds_ne (fun e => h e.symm)]; exact hy, hu⟩
    have := setParams_ok ps args xs' (t := t.set p v) (tmps := tmps.setIfInBounds p x) (by simpa using hl) hvs ht' (by simpa using ha.2)
    simpa [setParams] using this
section
variable {tb : Tab} {P : Program} {w0 : Base} (hT : TabOk tb P) (hF : FnOk tb P w0) {rc : Rec} (hR : RecOk P w0 rc)
include hT hF hR
omit hT hF hR in
theorem loop_write {E : Env} {g : H} {nx l : Nat} {w : World} {i : Info} {st st' : LoopState} {pend pend' : Option Code} {t : T V} {ps : List Nat} {as bd : Code} {d : Nat} (hr : Rel E g.get w) (hf : Fresh E nx) (hg : g.get l = some (.loop st pend t ps as bd d))
    (hi : E.at_ l = some i) : ∃ (r : Loop) (w' : World), (Instr.getLoop i.blk).run P w = .ok r w ∧ r.state = st ∧ (setObj i.blk (.loop { r with state := st', pending := pend' })).run P w = .ok () w' ∧ Step E g.get nx w E (g.set l (.loop st' pend' t ps as bd d)).get nx w' := by
  obtain ⟨i', hi', dd, fn, tmps, hd, hob, h1, h2⟩ := hr.obj l _ hg
  rw [hi] at hi'; cases hi'
  have hlt := (Array.getElem?_eq_some_iff.1 hob).1
  refine ⟨{ state := st, pending := pend, fn := fn, tmps := tmps, params := ps.toArray, assign := as, body := bd, defers := dd.blk },
    { w with heap := w.heap.setIfInBounds i.blk (.loop { state := st', pending := pend', fn := fn, tmps := tmps, params := ps.toArray, assign := as, body := bd, defers := dd.blk }) }, ?_, rfl, ?_, ?_⟩
  · simp only [Instr.getLoop, Sem.run_bind, getObj, Sem.run, hob, Result.andThen_ok, Sem.run_pure]
  · simp only [setObj, Sem.run, hob]
  · rw [get_set_upd]
    refine Step.write hr hf hg hi ⟨rfl, rfl, rfl, by simp⟩ (fun b hb => by simp [Array.getElem?_setIfInBounds_ne (Ne.symm hb)]) ⟨dd, fn, tmps, hd, ?_, h1, h2⟩
    simp [hlt]
theorem roundBody_ok {rounds l : Nat} {args : List V} {h h' : H} {nx nx' : Nat} {v : V} (hc : roundBody tb rounds rc l args h nx = some (v, h', nx')) {E : Env} {w : World} {xs : List Value} {i : Info} (ho : Ok w0 E h.get nx w) (hi : E.at_ l = some i) (hx : VRL E args xs) :
    ∃ fn tmps assign body, (Instr.yield i.blk xs.toArray).run P w = .ok (.round i.blk fn tmps assign body) w ∧ ∀ r, RoundIn (FR r) 0 P i.blk fn tmps assign body w (Post E h.get nx w v h'.get nx') := by
  unfold roundBody at hc
  split at hc
  case h_2 => cases hc
  rename_i pend t ps assign body d hg
  cases hlen : Nat.beq args.length ps.length with
  | false => rw [hlen] at hc; cases hc
  | true =>
    rw [hlen, cond_true] at hc
    have hl := nbeq_true hlen
    simp only at hc
    obtain ⟨i', hi', dd, fn, tmps, hd, hob, htr, hda, hdb, hps⟩ := ho.rel.obj l _ hg
    rw [hi] at hi'; cases hi'
    have hgl : (Instr.getLoop i.blk).run P w = .ok { state := .ready, pending := pend, fn := fn, tmps := tmps, params := ps.toArray, assign := assign, body := body, defers := dd.blk } w := by
      simp only [Instr.getLoop, Sem.run_bind, getObj, Sem.run, hob, Result.andThen_ok, Sem.run_pure]
    obtain ⟨htr1, hsz1⟩ := setParams_ok ps args xs hl.symm hx htr hps
    refine ⟨fn, (ps.zip xs).foldl (fun tm p => tm.setIfInBounds p.1 p.2) tmps, assign, body, ?_, fun r => ?_⟩
    · have hsz : ¬ (xs.toArray.size ≠ ps.toArray.size) := by simp [hx.length, hl]
      have hz : (ps.toArray.zip xs.toArray).foldl (fun tmps p => tmps.setIfInBounds p.1 p.2) tmps = (ps.zip xs).foldl (fun tm p => tm.setIfInBounds p.1 p.2) tmps := by
        rw [← Array.foldl_toList]; simp
      simp only [Instr.yield, Sem.run_bind, hgl, Result.andThen_ok, if_neg hsz, Sem.run_pure]
      rw [← hz]
    · split at hc
      case h_2 => cases hc
      rename_i s1 hassign
      split at hc
      case h_2 => cases hc
      rename_i p1 t1 ps1 a1 b1 d1 hl1
      split at hc
      · cases hc
      · rename_i outs hbody
        split at hc
        case h_2 => cases hc
        rename_i rr hmap
        cases hc
        refine roundIn_of_wpIn (F := FR r) (n := 0) trivial ?_
        have hwa := code_ok (cx := { tb := tb, rc := rc, inRound := some l, rounds := rounds }) (r := some i.blk) hT hF hR rfl rfl assign (N := tmps.size)
          (a := { tmps := (ps.zip xs).foldl (fun tm p => tm.setIfInBounds p.1 p.2) tmps, defers := [] }) (E := E) (w := w) ⟨i, hi, rfl⟩ hassign ho htr1 rfl hsz1 hda
        refine wpIn_mono (F := FR (some i.blk)) hwa ?_
        rintro e a1' w1 ⟨o, hmem, rfl, E1, hat⟩
        rw [List.mem_singleton] at hmem
        subst hmem
        have hi1 := hat.step.le.2 _ _ hi
        have ho1 := ho.step hat.step
        obtain ⟨rl, w2, hgl1, hst, hset, hstep⟩ := loop_write (P := P) (st' := .busy) (pend' := p1) ho1.rel ho1.fresh hl1 hi1
        have hpend : rl = { rl with pending := p1 } := by
          obtain ⟨i'', hi'', dd'', fn'', tm'', _, hob'', _⟩ := ho1.rel.obj l _ hl1
          rw [hi1] at hi''; cases hi''
          have : (Instr.getLoop i.blk).run P w1 = .ok { state := .ready, pending := p1, fn := fn'', tmps := tm'', params := ps1.toArray, assign := a1, body := b1, defers := dd''.blk } w1 := by
            simp only [Instr.getLoop, Sem.run_bind, getObj, Sem.run, hob'', Result.andThen_ok, Sem.run_pure]
          rw [this] at hgl1
          cases hgl1
          rfl
        refine ⟨w2, ?_, ?_⟩
        · have hset' : (setObj i.blk (.loop { rl with state := .busy })).run P w1 = .ok () w2 := by rw [hpend]; exact hset
          simp only [Instr.beginRound, Sem.run_bind, hgl1, Result.andThen_ok, hset', hst, Sem.run_pure]
        · have hat2 : At E h.get nx w tmps.size E1 { s1 with h := s1.h.set l (.loop .busy p1 t1 ps1 a1 b1 d1) } a1' w2 := ⟨hat.step.trans hstep, hat.tr, hat.marks, hat.size⟩
          have ho2 := ho.step hat2.step
          have hwb := code_ok (cx := { tb := tb, rc := rc, inRound := some l, rounds := rounds }) (r := some i.blk) hT hF hR rfl rfl body (N := tmps.size) (a := a1') (E := E1) (w := w2) ⟨i, hi1, rfl⟩ hbody ho2 hat2.tr hat2.marks hat2.size hdb
          refine wpIn_mono (F := FR (some i.blk)) hwb ?_
          rintro e a3 w3 ⟨o, hmem, rfl, E3, hat3⟩
          obtain ⟨y, hy, hym⟩ := mapO_mem hmap o hmem
          rw [List.mem_singleton] at hym
          subst hym
          have hi3 := hat3.step.le.2 _ _ hi1
          have hs3 := hat2.step.trans hat3.step
          obtain ⟨xo, so⟩ := o
          unfold endRound at hy
          simp only at hy
          split at hy
          · cases hy
          · split at hy
            · rename_i st3 pd3 t3 ps3 a3' b3 d3 hl3
              have key : ∀ (jump : Option Code) (st' : LoopState), st' = (if jump.isNone then .ready else .done) → (V.bool jump.isNone, so.h.set l (.loop st' jump t3 ps3 a3' b3 d3), so.nx) = (v, h', nx') →
                  ∃ v' w', (Instr.endRound i.blk jump).run P w3 = .ok v' w' ∧ Post E h.get nx w v h'.get nx' (.returned v') w' := by
                rintro jump st' hst' he
                cases he
                obtain ⟨rl3, w4, hgl3, _, hset3, hstep3⟩ := loop_write (P := P) (st' := st') (pend' := jump) hs3.rel hs3.fresh hl3 hi3
                refine ⟨.bool jump.isNone, w4, ?_, .bool jump.isNone, rfl, E3, rfl, hs3.trans hstep3⟩
                rw [hst'] at hset3
                simp only [Instr.endRound, Sem.run_bind, hgl3, Result.andThen_ok, hset3, Sem.run_pure]
              cases xo with
              | normal => exact key none .ready rfl (by simpa using hy)
              | ret => exact key (some .ret) .done rfl (by simpa using hy)
              | exit id => exact key (some (.exit id)) .done rfl (by simpa using hy)
            · cases hy
end
theorem recN_ok {tb : Tab} {P : Program} {w0 : Base} (hT : TabOk tb P) (hF : FnOk tb P w0) (rounds : Nat) : ∀ n, RecOk P w0 (recN tb rounds n)
  | 0 => ⟨fun f args h nx v h' nx' hc => by simp [recN] at hc, fun l args h nx v h' nx' hc => by simp [recN] at hc⟩
  | n + 1 => ⟨fun f args h nx v h' nx' hc E w xs ho hx => callBody_ok hT hF (recN_ok hT hF rounds n) hc ho hx, fun l args h nx v h' nx' hc E w xs i ho hi hx => roundBody_ok hT hF (recN_ok hT hF rounds n) hc ho hi hx⟩
end Ev
namespace Ev
open Go
mutual
def plainV : V → Bool
  | .bool _ | .int _ _ | .str _ | .nilp | .nils | .nilm | .nilf | .nili | .sym _ => true
  | .iface _ v => plainV v
  | .agg cs => plainL cs
  | .tup cs => plainL cs
  | .fn _ a b => plainL a && plainL b
  | .ptr n _ => Nat.ble 32 n && Nat.blt n 64
  | .slice n _ _ _ => Nat.ble 32 n && Nat.blt n 64
  | _ => false
def plainL : List V → Bool
  | [] => true
  | v :: vs => plainV v && plainL vs
end
mutual
theorem VR.plain {w0 : Base} {E E' : Env} (hE : StatOk w0 E) (hE' : StatOk w0 E') : ∀ (v : V) (x : Value), plainV v = true → VR E v x → VR E' v x
  | .bool _, _, _, h | .int _ _, _, _, h | .str _, _, _, h | .nilp, _, _, h | .nils, _, _, h | .nilm, _, _, h | .nilf, _, _, h | .nili, _, _, h => h
  | .sym i, x, _, h => by show x = E'.sym i; rw [hE'.sym, ← hE.sym]; exact h
  | .iface _ v, _, hp, ⟨y, hy, e⟩ => ⟨y, VR.plain hE hE' v y hp hy, e⟩
  | .agg cs, _, hp, ⟨xs, hx, e⟩ => ⟨xs, VRL.plain hE hE' cs xs hp hx, e⟩
  | .tup cs, _, hp, ⟨xs, hx, e⟩ => ⟨xs, VRL.plain hE hE' cs xs hp hx, e⟩
  | .fn _ a b, _, hp, ⟨xs, ys, hx, hy, e⟩ => by
    simp only [plainV, Bool.and_eq_true] at hp
    exact ⟨xs, ys, VRL.plain hE hE' a xs hp.1 hx, VRL.plain hE hE' b ys hp.2 hy, e⟩
  | .ptr n _, _, hp, ⟨i, hi, e⟩ => by
    simp only [plainV, Bool.and_eq_true] at hp
    rw [hE.stat n (nble_le hp.1) (nblt_lt hp.2)] at hi
    exact ⟨i, by rw [hE'.stat n (nble_le hp.1) (nblt_lt hp.2)]; exact hi, e⟩
  | .slice n _ _ _, _, hp, ⟨i, hi, e⟩ => by
    simp only [plainV, Bool.and_eq_true] at hp
    rw [hE.stat n (nble_le hp.1) (nblt_lt hp.2)] at hi
    exact ⟨i, by rw [hE'.stat n (nble_le hp.1) (nblt_lt hp.2)]; exact hi, e⟩
  | .map _, _, hp, _ => by simp [plainV] at hp
  | .yld _, _, hp, _ => by simp [plainV] at hp
theorem VRL.plain {w0 : Base} {E E' : Env} (hE : StatOk w0 E) (hE' : StatOk w0 E') : ∀ (vs : List V) (xs : List Value), plainL vs = true → VRL E vs xs → VRL E' vs xs
  | [], _, _, h => h
  | v :: vs, _, hp, ⟨y, ys, e, hy, hr⟩ => by
    simp only [plainL, Bool.and_eq_true] at hp
    exact ⟨y, ys, e, VR.plain hE hE' v y hp.1 hy, VRL.plain hE hE' vs ys hp.2 hr⟩
end
def Contract (P : Program) (w0 : Base) (f : Nat) (args : List V) (v : V) : Prop :=
  ∀ (E : Env) (w : World) (xs : List Value), StatOk w0 E → VRL E args xs → w0.heap.size ≤ w.heap.size → (∀ b, b < w0.heap.size → w0.frz b → w.heap[b]? = w0.heap[b]?) →
    Calls P f xs.toArray w fun e w' => ∃ x, e = .returned x ∧ VR E v x ∧ Grew w w' ∧ ∀ b, b < w.heap.size → w'.heap[b]? = w.heap[b]?
def baseE (w0 : Base) (h : ∀ i, oneV (w0.sym i)) : Env := { at_ := fun n => if n < 32 then some { blk := n, size := 0, unit := 0 } else if n < 64 then some (w0.stat n) else none, sym := w0.sym, one := h }
theorem base_stat {w0 : Base} {h : ∀ i, oneV (w0.sym i)} : StatOk w0 (baseE w0 h) := ⟨rfl, fun g h1 h2 => by
  have : ¬ g < 32 := by omega
  simp [baseE, this, h2]⟩
theorem base_ok {w0 : Base} {w : World} {h : ∀ i, oneV (w0.sym i)} (h1 : w0.heap.size ≤ w.heap.size) (h2 : ∀ b, b < w0.heap.size → w0.frz b → w.heap[b]? = w0.heap[b]?) : Ok w0 (baseE w0 h) (T.e : H).get 64 w := by
  refine ⟨⟨fun n o hn => ?_, fun n m o p i j hn => ?_⟩, fun n hn => ?_, fun g hg => ⟨{ blk := g, size := 0, unit := 0 }, by simp [baseE, hg], rfl⟩, ⟨h1, h2, fun b _ _ ⟨n, o, i, hn, _⟩ => ?_⟩, base_stat⟩
  · rw [T.get_e] at hn; cases hn
  · rw [T.get_e] at hn; cases hn
  · have h1 : ¬ n < 32 := by omega
    have h2 : ¬ n < 64 := by omega
    simp [baseE, h1, h2]
  · rw [T.get_e] at hn; cases hn
noncomputable def memoOk (tb : Tab) (rounds n : Nat) (f : Nat) (args : List V) (v : V) : Bool :=
  plainV v && plainL args && match (recN tb rounds n).call f args .e 64 with
    | some (u, _, _) => V.eq u v
    | none => false
section
variable {tb : Tab} {P : Program} {w0 : Base} (hT : TabOk tb P) (hF : FnOk tb P w0)
include hT hF
theorem memo_ok {rounds n f : Nat} {args : List V} {v : V} (h : memoOk tb rounds n f args v = true) : Contract P w0 f args v := by
  intro E w xs h0 hx h1 h2
  simp only [memoOk, Bool.and_eq_true] at h
  obtain ⟨⟨hv, ha⟩, h⟩ := h
  split at h
  · rename_i u h' nx' hc
    have := V.eq_eq _ _ h
    subst this
    have h1v : ∀ i, oneV (w0.sym i) := fun i => by rw [← h0.sym]; exact E.one i
    refine Calls.mono ((recN_ok hT hF (rounds := rounds) n).call f args .e 64 u h' nx' hc (baseE w0 h1v) w xs (base_ok h1 h2) (VRL.plain h0 base_stat args xs ha hx)) ?_
    rintro e w' ⟨x, rfl, E', hvx, hs⟩
    refine ⟨x, rfl, VR.plain (base_stat.mono hs.le) h0 u x hv hvx, hs.grew, fun b hb => hs.frame b hb ?_⟩
    · rintro ⟨n, o, i, hn, _⟩
      rw [T.get_e] at hn; cases hn
  · cases h
end
abbrev Memo := List (Nat × List (List V × V))
noncomputable def look : List (List V × V) → List V → Option V
  | [], _ => none
  | p :: r, args => cond (V.eqL p.1 args) (some p.2) (look r args)
theorem look_mem : ∀ {l : List (List V × V)} {args : List V} {v : V}, look l args = some v → (args, v) ∈ l
  | [], _, _, h => by cases h
  | p :: r, args, v, h => by
    simp only [look] at h
    cases h1 : V.eqL p.1 args with
    | true =>
      rw [h1] at h
      cases h
      rw [← V.eqL_eq _ _ h1]
      exact List.mem_cons_self ..
    | false =>
      rw [h1] at h
      exact List.mem_cons_of_mem _ (look_mem h)
noncomputable def mkMemo : Memo → T (List (List V × V))
  | [] => .e
  | e :: r => (mkMemo r).set e.1 e.2
theorem mkMemo_mem : ∀ {l : Memo} {f : Nat} {r : List (List V × V)}, (mkMemo l).get f = some r → (f, r) ∈ l
  | [], f, r, h => by rw [mkMemo, T.get_e] at h; cases h
  | e :: l, f, r, h => by
    rw [mkMemo, T.get_set] at h
    by_cases hf : f = e.1
    · subst hf
      simp at h
      subst h
      exact List.mem_cons_self ..
    · rw [if_neg hf] at h
      exact List.mem_cons_of_mem _ (mkMemo_mem h)
noncomputable def primOf (t : T (List (List V × V))) (f : Nat) (args : List V) : Option V :=
  match t.get f with
  | some l => look l args
  | none => none
def Memos (P : Program) (w0 : Base) (l : Memo) : Prop := ∀ e ∈ l, ∀ p ∈ e.2, Contract P w0 e.1 p.1 p.2
theorem Memos.append {P : Program} {w0 : Base} {l m : Memo} (h : Memos P w0 l) (h' : Memos P w0 m) : Memos P w0 (l ++ m) := fun e he => (List.mem_append.1 he).elim (h e) (h' e)
noncomputable def chk (tb : Tab) (rounds n : Nat) (l : Memo) : Bool := l.all fun e => e.2.all fun p => memoOk tb rounds n e.1 p.1 p.2
theorem chk_ok {tb : Tab} {P : Program} {w0 : Base} (hT : TabOk tb P) (hF : FnOk tb P w0) {rounds n : Nat} {l : Memo} (h : chk tb rounds n l = true) : Memos P w0 l := by
  intro e he p hp
  simp only [chk, List.all_eq_true] at h
  exact memo_ok hT hF (h e he p hp)
def AllC (P : Program) (w0 : Base) (f : Nat) (l : List (List V × V)) : Prop := ∀ p ∈ l, Contract P w0 f p.1 p.2
theorem AllC.append {P : Program} {w0 : Base} {f : Nat} {l m : List (List V × V)} (h : AllC P w0 f l) (h' : AllC P w0 f m) : AllC P w0 f (l ++ m) := fun e he => (List.mem_append.1 he).elim (h e) (h' e)
theorem Memos.nil {P : Program} {w0 : Base} : Memos P w0 [] := fun _ he => (List.not_mem_nil he).elim
theorem Memos.cons {P : Program} {w0 : Base} {f : Nat} {r : List (List V × V)} {l : Memo} (h : AllC P w0 f r) (h' : Memos P w0 l) : Memos P w0 ((f, r) :: l) := fun e he =>
  (List.mem_cons.1 he).elim (fun e1 => by subst e1; exact h) (h' e)
noncomputable def outIn (h : H) : List (Nat × O) → Bool
  | [] => true
  | p :: r => (match h.get p.1 with | some x => O.eq x p.2 | none => false) && outIn h r
theorem outIn_mem {h : H} : ∀ {l : List (Nat × O)}, outIn h l = true → ∀ p ∈ l, h.get p.1 = some p.2
  | [], _, p, hp => (List.not_mem_nil hp).elim
  | q :: r, hl, p, hp => by
    simp only [outIn, Bool.and_eq_true] at hl
    rcases List.mem_cons.1 hp with rfl | hp
    · have h1 := hl.1
      split at h1
      · rename_i x hx
        rw [hx, O.eq_eq _ _ h1]
      · cases h1
    · exact outIn_mem hl.2 p hp
noncomputable def rmChk (tb : Tab) (rounds n f : Nat) (e : RM) : Bool :=
  match (recN tb rounds n).call f e.args (T.ofList .e 64 e.sub) (64 + e.sub.length) with
  | some (v, h', nx') => V.eq v e.v && Nat.beq nx' (64 + e.sub.length + e.made) && outIn h' e.out
  | none => false
theorem rm_ok {tb : Tab} {P : Program} {w0 : Base} (hT : TabOk tb P) (hF : FnOk tb P w0) {rounds n f : Nat} {e : RM} (h : rmChk tb rounds n f e = true) : RmOk P w0 f e := by
  intro E w xs ho hx
  unfold rmChk at h
  split at h
  · rename_i v h' nx' hc
    simp only [Bool.and_eq_true] at h
    have e1 := V.eq_eq _ _ h.1.1
    have e2 := nbeq_true h.1.2
    refine Calls.mono ((recN_ok hT hF (rounds := rounds) n).call f e.args _ _ v h' nx' hc E w xs ho hx) ?_
    rintro en w' ⟨x, rfl, E', hvx, hs⟩
    rw [e2] at hs
    exact ⟨x, rfl, E', h'.get, by rw [← e1]; exact hvx, hs, outIn_mem h.2⟩
  · cases h
def AllR (P : Program) (w0 : Base) (f : Nat) (l : List RM) : Prop := ∀ e ∈ l, RmOk P w0 f e
theorem AllR.append {P : Program} {w0 : Base} {f : Nat} {l m : List RM} (h : AllR P w0 f l) (h' : AllR P w0 f m) : AllR P w0 f (l ++ m) := fun e he => (List.mem_append.1 he).elim (h e) (h' e)
noncomputable def chkR (tb : Tab) (rounds n f : Nat) (l : List RM) : Bool := l.all fun e => rmChk tb rounds n f e
theorem chkR_ok {tb : Tab} {P : Program} {w0 : Base} (hT : TabOk tb P) (hF : FnOk tb P w0) {rounds n f : Nat} {l : List RM} (h : chkR tb rounds n f l = true) : AllR P w0 f l := by
  intro e he
  simp only [chkR, List.all_eq_true] at h
  exact rm_ok hT hF (h e he)
abbrev Kept := List (Nat × List RM)
def Kepts (P : Program) (w0 : Base) (l : Kept) : Prop := ∀ e ∈ l, AllR P w0 e.1 e.2
theorem Kepts.nil {P : Program} {w0 : Base} : Kepts P w0 [] := fun _ he => (List.not_mem_nil he).elim
theorem Kepts.cons {P : Program} {w0 : Base} {f : Nat} {r : List RM} {l : Kept} (h : AllR P w0 f r) (h' : Kepts P w0 l) : Kepts P w0 ((f, r) :: l) := fun e he =>
  (List.mem_cons.1 he).elim (fun e1 => by subst e1; exact h) (h' e)
noncomputable def mkKept : Kept → T (List RM)
  | [] => .e
  | e :: r => (mkKept r).set e.1 e.2
theorem mkKept_mem : ∀ {l : Kept} {f : Nat} {r : List RM}, (mkKept l).get f = some r → (f, r) ∈ l
  | [], f, r, h => by rw [mkKept, T.get_e] at h; cases h
  | e :: l, f, r, h => by
    rw [mkKept, T.get_set] at h
    by_cases hf : f = e.1
    · subst hf
      simp at h
      subst h
      exact List.mem_cons_self ..
    · rw [if_neg hf] at h
      exact List.mem_cons_of_mem _ (mkKept_mem h)
noncomputable def Tab.both (tb : Tab) (t : T (List (List V × V))) (k : T (List RM)) : Tab := { tb with prim := primOf t, rm := k.get }
end Ev
