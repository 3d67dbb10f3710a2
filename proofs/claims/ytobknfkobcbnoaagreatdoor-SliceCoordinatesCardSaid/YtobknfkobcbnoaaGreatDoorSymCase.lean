/-
  The abstract evaluator on symbols: klippe/vector.zero, klippe/slice.zero, klippe/rational.Of, and klippelaw32.Make as another case left it.
-/
import Derived.Test.YtobknfkobcbnoaaGreatDoorSymOf
set_option linter.unusedSectionVars false
set_option linter.unusedVariables false
set_option linter.unusedSimpArgs false
namespace Go.Proofs.YtobknfkobcbnoaaGreatDoor
open Go.RowKit Go Ev Klp

set_option maxHeartbeats 400000 in
theorem vzero_walk (a b c : List UInt8) (p q r : Bool) (w : World) (ha : (a == [48]) = p) (hb : (b == [48]) = q) (hc : (c == [48]) = r) :
    Calls Tryz.prog 48 #[.agg #[.string ⟨a.toArray⟩, .string ⟨b.toArray⟩, .string ⟨c.toArray⟩]] w fun e w' => e = .returned (.bool (p && q && r)) ∧ Kp w w' := by
  cases p <;> cases q <;> cases r
  all_goals
    go_enter Tryz.func48, Tryz.ntmps48
    go_wp2_with fail
    go_ret
    first
      | exact ⟨rfl, Kp.refl _⟩
      | exact ⟨rfl, Below.alloc (Below.refl _ _) (Nat.le_refl _) _⟩
set_option maxHeartbeats 400000 in
theorem szero_walk (a b c : List UInt8) (p q r : Bool) (w : World) (ha : (a == [48]) = p) (hb : (b == [48]) = q) (hc : (c == [48]) = r) :
    Calls Tryz.prog 52 #[.agg #[.string ⟨a.toArray⟩, .string ⟨b.toArray⟩, .string ⟨c.toArray⟩]] w fun e w' => e = .returned (.bool (p && q && r)) ∧ Kp w w' := by
  cases p <;> cases q <;> cases r
  all_goals
    go_enter Tryz.func52, Tryz.ntmps52
    go_wp2_with fail
    go_ret
    first
      | exact ⟨rfl, Kp.refl _⟩
      | exact ⟨rfl, Below.alloc (Below.refl _ _) (Nat.le_refl _) _⟩

def zeroOk (tab : T Ent) (qp : Poly) (a b c : V) : Bool :=
  match entV tab a, entV tab b, entV tab c with
  | some ea, some eb, some ec => squareOk qp ea eb ec
  | _, _, _ => false
section
variable {w0 : Base} {n x : Nat → Int} {D : Int} {tab : T Ent} {dp : Poly} {b : Nat → Nat} {rel : List Nat} (hC : CaseOk w0 n x D tab dp b rel)
include hC
theorem zero_row {f : Nat} (hf : f = 48 ∨ f = 52) {qp : Poly} {a c d : V} {v : Bool} (h : zeroOk tab qp a c d = true) (hv : Poly.ev x qp = 0 ↔ v = true) : Contract Tryz.prog w0 f [.agg [a, c, d]] (.bool v) := by
  unfold zeroOk at h
  split at h
  · rename_i ea ec ed ha hc hd
    have hs := (square_val (D := D) h).trans hv
    refine Contract.of hC.tabs fun E w xs hE hx ht => ?_
    obtain ⟨r, rs, rfl, ⟨ys, hys, rfl⟩, hn⟩ := hx
    obtain ⟨r1, rs1, rfl, h1, r2, rs2, rfl, h2, r3, rs3, rfl, h3, hn3⟩ := hys
    rw [show rs = [] from hn, show rs3 = [] from hn3, entV_ok (hE.trans hC.sym) ha h1, entV_ok (hE.trans hC.sym) hc h2, entV_ok (hE.trans hC.sym) hd h3]
    have e : (decide (ea.val x D = 0) && decide (ec.val x D = 0) && decide (ed.val x D = 0)) = v := by
      cases v with
      | true => obtain ⟨g1, g2, g3⟩ := hs.2 rfl; simp [g1, g2, g3]
      | false =>
        rw [← Bool.not_eq_true]
        intro hh
        simp only [Bool.and_eq_true, decide_eq_true_eq] at hh
        exact absurd (hs.1 ⟨hh.1.1, hh.1.2, hh.2⟩) (by simp)
    rcases hf with rfl | rfl
    · refine (vzero_walk _ _ _ _ _ _ w (canon_is_zero _) (canon_is_zero _) (canon_is_zero _)).mono fun e' w' ⟨h1, h2⟩ => ⟨_, h1, ?_, h2⟩
      rw [e]; rfl
    · refine (szero_walk _ _ _ _ _ _ w (canon_is_zero _) (canon_is_zero _) (canon_is_zero _)).mono fun e' w' ⟨h1, h2⟩ => ⟨_, h1, ?_, h2⟩
      rw [e]; rfl
  · cases h
theorem of_row (hOf : OfOk w0) {i : Nat} (h1 : 32 ≤ i) (h2 : i < 64) (h3 : -128 ≤ n (i - 32)) (h4 : n (i - 32) < 128) (h5 : x (i - 32) = n (i - 32)) {u : V} (hu : entV tab u = some ⟨[([i - 32], 1)], false⟩) :
    Contract Tryz.prog w0 6 [.sym i, .int .i64 2] (.tup [u, .int .i64 0]) := by
  intro E w xs hE hx g1 g2
  obtain ⟨r, rs, rfl, hr, hx2⟩ := hx
  have hr : r = E.sym i := hr
  have hs : E.sym i = .int .i64 (n (i - 32)) := by
    rw [hE, hC.sym]
    unfold symOf
    rw [if_neg (by omega), if_pos h2]
  refine (hOf _ h3 h4 E w (r :: rs) hE ⟨r, rs, rfl, hr.trans hs, hx2⟩ g1 g2).mono ?_
  rintro e w' ⟨y, rfl, ⟨ys, ⟨y1, ys1, rfl, hy1, hy2⟩, rfl⟩, h6, h7⟩
  refine ⟨_, rfl, ⟨_, ⟨_, _, rfl, ?_, hy2⟩, rfl⟩, h6, h7⟩
  have hy1 : y1 = .string ⟨(halfK (n (i - 32))).toArray⟩ := hy1
  have hval : Ent.val x D ⟨[([i - 32], 1)], false⟩ = (n (i - 32) : Rat) / ((2 : Int) : Rat) := by
    rw [Ent.val_f rfl]
    simp only [Poly.ev, Poly.evM, Int.mul_one, Int.one_mul, Int.add_zero, h5]
  have := hC.ret hE hu
  rw [hval, ← halfK_eq _ (by omega)] at this
  rw [hy1]
  exact this
end

/-! ### what another case left -/
/-- the values of both lists are the same numbers -/
def Match (tab tab' : T Ent) (x x' : Nat → Int) (D D' : Int) : List V → List V → Prop
  | [], [] => True
  | a :: l, c :: m => (∃ e e', entV tab a = some e ∧ entV tab' c = some e' ∧ e.val x D = e'.val x' D') ∧ Match tab tab' x x' D D' l m
  | _, _ => False
theorem Match.to {w0 w0' : Base} {n n' x x' : Nat → Int} {D D' : Int} {tab tab' : T Ent} {dp dp' : Poly} {b b' : Nat → Nat} {rel rel' : List Nat} (hC : CaseOk w0 n x D tab dp b rel) (hC' : CaseOk w0' n' x' D' tab' dp' b' rel') {E E' : Env} (hE : E.sym = w0.sym) (hE' : E'.sym = w0'.sym) :
    ∀ {l m : List V} {xs : List Value}, Match tab tab' x x' D D' l m → VRL E' m xs → VRL E l xs
  | [], [], _, _, h => h
  | a :: l, c :: m, _, ⟨⟨e, e', h1, h2, h3⟩, hm⟩, ⟨y, ys, rfl, hy, hys⟩ => by
    refine ⟨y, ys, rfl, ?_, Match.to hC hC' hE hE' hm hys⟩
    rw [entV_ok (hE'.trans hC'.sym) h2 hy, ← h3]
    exact hC.ret hE h1
  | [], _ :: _, _, h, _ => h.elim
  | _ :: _, [], _, h, _ => h.elim
/-- a call with ints of eight bits, as another case left it -/
theorem other_case {w0 w0' : Base} {n x x' : Nat → Int} {D D' : Int} {tab tab' : T Ent} {dp dp' : Poly} {b b' : Nat → Nat} {rel rel' : List Nat} (hC : CaseOk w0 n x D tab dp b rel) (hC' : CaseOk w0' n x' D' tab' dp' b' rel') (hh : w0'.heap = w0.heap)
    {f : Nat} {is : List Nat} (hi : ∀ i ∈ is, i < 32) {l m : List V} (hm : Match tab tab' x x' D D' l m) (hc : Contract Tryz.prog w0' f [.agg (is.map .sym)] (.agg m)) : Contract Tryz.prog w0 f [.agg (is.map .sym)] (.agg l) := by
  intro E w xs hE hx g1 g2
  have hE' : ({ at_ := E.at_, sym := w0'.sym, one := fun i => by rw [hC'.sym]; exact symOf_one _ _ _ _ _ } : Env).sym = w0'.sym := rfl
  obtain ⟨r, rs, rfl, ⟨ys, hys, rfl⟩, hn⟩ := hx
  have key : ∀ (is : List Nat) (ys : List Value), (∀ i ∈ is, i < 32) → VRL E (is.map .sym) ys → VRL ({ at_ := E.at_, sym := w0'.sym, one := fun i => by rw [hC'.sym]; exact symOf_one _ _ _ _ _ } : Env) (is.map .sym) ys := by
    intro is
    induction is with
    | nil => exact fun ys _ h => h
    | cons i is ih =>
      intro ys hi ⟨y, zs, h1, h2, h3⟩
      refine ⟨y, zs, h1, ?_, ih zs (fun j hj => hi j (List.mem_cons_of_mem _ hj)) h3⟩
      have h2 : y = E.sym i := h2
      show y = w0'.sym i
      have := hi i (List.mem_cons_self ..)
      rw [h2, hE, hC.sym, hC'.sym]
      unfold symOf
      rw [if_pos this, if_pos this]
  refine (hc _ w _ hE' ⟨_, _, rfl, ⟨ys, key is ys hi hys, rfl⟩, hn⟩ (by rw [hh]; exact g1) (by rw [hh]; exact g2)).mono ?_
  rintro e w' ⟨y, rfl, ⟨zs, hzs, rfl⟩, h6, h7⟩
  exact ⟨_, rfl, ⟨zs, hm.to hC hC' hE hE' hzs, rfl⟩, h6, h7⟩

/-- the evaluator's table of a case is right -/
theorem fnOk_syms {w0 : Base} {n x : Nat → Int} {D : Int} {tab : T Ent} {dp : Poly} {b : Nat → Nat} {rel : List Nat} (hC : CaseOk w0 n x D tab dp b rel) {facts : List (V × V × Bool)} (hf : FactsOk x D tab facts) (hF : FnOk tb0 Tryz.prog w0) : FnOk (Tab.syms tb0 facts) Tryz.prog w0 :=
  ⟨hF.mixed, fun _ hE => syms_ok hC hf tabOk (fun _ _ => rfl) hE, hF.glob, hF.enter, hF.ext, hF.prim, hF.rm⟩
/-- a call on symbols -/
theorem case_call {w0 : Base} {n x : Nat → Int} {D : Int} {tab : T Ent} {dp : Poly} {b : Nat → Nat} {rel : List Nat} (hC : CaseOk w0 n x D tab dp b rel) {facts : List (V × V × Bool)} (hf : FactsOk x D tab facts) (hF : FnOk tb0 Tryz.prog w0)
    {l : Memo} {t : T (List (List V × V))} (ht : t = mkMemo l) (hl : Memos Tryz.prog w0 l) {f : Nat} {args : List V} {v : V} (h : memoOk ((Tab.syms tb0 facts).memo t) 10000 60 f args v = true) : Contract Tryz.prog w0 f args v :=
  memo_ok ((tabOk_syms tabOk facts).memo t) ((fnOk_syms hC hf hF).memo ht hl) h
end Go.Proofs.YtobknfkobcbnoaaGreatDoor
