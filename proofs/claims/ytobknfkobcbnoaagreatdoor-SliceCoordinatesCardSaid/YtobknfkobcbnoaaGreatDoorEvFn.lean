/-
  The abstract evaluator: what it knows of the seat's functions is so.
-/
import Derived.Test.YtobknfkobcbnoaaGreatDoorEvTab
import Derived.Laws.StandIn
set_option linter.unusedSectionVars false
set_option linter.unusedVariables false
set_option linter.unusedSimpArgs false
namespace Go.Proofs.YtobknfkobcbnoaaGreatDoor
open Go Ev

def Pow (w0 : Base) : Prop := 1 < w0.heap.size ∧ ∃ rc e fr, w0.heap[1]? = some (.cells rc e fr) ∧ ∀ E, CellsR E pow10 rc

theorem mixed_ok : Tryz.prog.follows .mixedOrders = true := by kernel_rfl
theorem fn_mem {k : Nat} {fn : Func} (h : tb0.fn k = some fn) : fl[k]? = some fn := by
  have h : fnT.get k = some fn := h
  rw [fnT_eq, T.get_ofList] at h
  split at h
  · simpa using h
  · rw [T.get_e] at h; cases h
theorem enter_ok {k : Nat} {fn : Func} {b : Code} (h : tb0.fn k = some fn) (hb : fn.body = some b) (args : Array Value) (w : World) : (callFunc k args).run Tryz.prog w = .ok (.enter k args) w := by
  have hf := tabOk.fn k fn h
  have hn := List.all_eq_true.1 named_all fn (List.mem_of_getElem? (fn_mem h))
  have h1 : fn.name ≠ "runtime.NumGoroutine" := by simpa [named, hb] using hn
  simp [callFunc, hf, h1, hb]
theorem ext_named {fn : Func} {x : Ext} (h : extOf fn = some x) : (fn.name == "runtime.NumGoroutine") = false := by
  unfold extOf at h
  split at h
  · rename_i e; rw [e]; decide
  · split at h
    · rename_i e; rw [e]; decide
    · split at h
      · rename_i e; rw [e]; decide
      · cases h
theorem ext_ok {k : Nat} {fn : Func} {x : Ext} (h : tb0.fn k = some fn) (hb : fn.body = none) (hx : extOf fn = some x) (args : Array Value) (w : World) :
    (callFunc k args).run Tryz.prog w = ((extSem x args).run Tryz.prog w).andThen fun v w' => .ok (.value v) w' := by
  have hf := tabOk.fn k fn h
  have hr := extRows_get ext_all (fn_mem h)
  rw [Nat.zero_add] at hr
  have hk : k = 228 ∨ k = 240 ∨ k = 306 := by
    simp only [extRow, hb, hx, Option.isSome_none, Option.isNone_some, Bool.or_eq_true, Bool.false_eq_true, false_or] at hr
    rcases hr with (h1 | h1) | h1
    · exact .inl (nbeq_true h1)
    · exact .inr (.inl (nbeq_true h1))
    · exact .inr (.inr (nbeq_true h1))
  have hbn : fn.body.isNone = true := by rw [hb]; rfl
  rcases hk with rfl | rfl | rfl
  · obtain rfl : fn = Tryz.f228 := Option.some.inj (hf.symm.trans Tryz.func228)
    have he := ext228
    rw [hx] at he
    cases x <;> simp at he
    exact run_callFunc_standIn hf (ext_named hx) hbn (Option.isNone_iff_eq_none.1 next228) find228 args w
  · obtain rfl : fn = Tryz.f240 := Option.some.inj (hf.symm.trans Tryz.func240)
    have he := ext240
    rw [hx] at he
    cases x <;> simp at he
    exact run_callFunc_standIn hf (ext_named hx) hbn (Option.isNone_iff_eq_none.1 next240) find240 args w
  · obtain rfl : fn = Tryz.f306 := Option.some.inj (hf.symm.trans Tryz.func306)
    have he := ext306
    rw [hx] at he
    cases x <;> simp at he
    exact run_callFunc_standIn hf (ext_named hx) hbn (Option.isNone_iff_eq_none.1 next306) find306 args w
theorem fnOk {w0 : Base} (hg : Pow w0) : FnOk tb0 Tryz.prog w0 := by
  refine ⟨mixed_ok, fun E _ => ⟨(fun _ _ _ h => by cases h), (fun _ _ _ h => by cases h), (fun _ _ _ _ h => by cases h), (fun _ _ _ _ h => by cases h)⟩, fun n c h => ?_, fun k fn b h hb => enter_ok h hb, fun k fn x h hb hx => ext_ok h hb hx,
    fun f args v h => (by cases h), fun f es h => (by cases h)⟩
  have h : globs n = some c := h
  unfold globs at h
  cases hn : Nat.beq n 1 with
  | false => rw [hn] at h; cases h
  | true =>
    rw [hn] at h
    cases h
    obtain rfl := nbeq_true hn
    exact ⟨by omega, hg.1, hg.2⟩
end Go.Proofs.YtobknfkobcbnoaaGreatDoor
