/-
  The abstract evaluator on symbols: the texts of numbers, and what is known of the functions of klippe/rational at them.
-/
import Derived.Test.YtobknfkobcbnoaaGreatDoorSymPoly
import Derived.Test.YtobknfkobcbnoaaGreatDoorWkNum
import Derived.Test.YtobknfkobcbnoaaGreatDoorEvFn
set_option linter.unusedSectionVars false
set_option linter.unusedVariables false
set_option linter.unusedSimpArgs false
namespace Go.Proofs.YtobknfkobcbnoaaGreatDoor
open Go Ev Klp

/-- the symbols: from 0 on ints of eight bits, from 32 on the same as ints, from 64 on what is left of them modulo 5, from 128 on texts of numbers -/
def symOf (n x : Nat → Int) (D : Int) (tab : T Ent) (i : Nat) : Value :=
  if i < 32 then .int .i8 (n i) else if i < 64 then .int .i64 (n (i - 32)) else if i < 128 then .int .i64 ((n (i - 64)).tmod 5)
  else match tab.get (i - 128) with
    | some e => strV (canon (e.val x D))
    | none => .nilFunc
theorem symOf_one (n x : Nat → Int) (D : Int) (tab : T Ent) (i : Nat) : oneV (symOf n x D tab i) := by
  unfold symOf
  split
  · trivial
  · split
    · trivial
    · split
      · trivial
      · split <;> trivial
def entV (tab : T Ent) : V → Option Ent
  | .sym i => cond (Nat.blt i 128) none (tab.get (i - 128))
  | .str l => cond (bytesEq l [48]) (some ⟨[], false⟩) (cond (bytesEq l [49]) (some ⟨[([], 2)], false⟩) (cond (bytesEq l [45, 49]) (some ⟨[([], -2)], false⟩) none))
  | _ => none
theorem canon_minus : canon (-1) = [45, 49] := by
  show rs (-1) 1 = _
  rw [rs_one, itoa_neg' (by omega)]
  show 45 :: Lib.decDigits 1 = _
  rw [dec_small (by omega)]; rfl
section
variable {n x : Nat → Int} {D : Int} {tab : T Ent}
theorem entV_ok {E : Env} (hE : E.sym = symOf n x D tab) : ∀ {v : V} {e : Ent} {r : Value}, entV tab v = some e → VR E v r → r = strV (canon (e.val x D)) := by
  intro v e r h hv
  unfold entV at h
  split at h
  · rename_i i
    cases hb : Nat.blt i 128 with
    | true => rw [hb] at h; cases h
    | false =>
      rw [hb] at h
      have h128 : ¬ i < 128 := fun hh => by
        have : Nat.blt i 128 = true := Nat.ble_eq_true_of_le hh
        rw [hb] at this; cases this
      have h : tab.get (i - 128) = some e := h
      have hr : r = E.sym i := hv
      rw [hr, hE]
      unfold symOf
      rw [if_neg (by omega), if_neg (by omega), if_neg h128, h]
  · rename_i l
    have hr : r = .string ⟨l.toArray⟩ := hv
    rw [hr]
    cases h1 : bytesEq l [48] with
    | true =>
      rw [h1] at h
      cases h
      rw [bytesEq_iff] at h1
      have hl : l = [48] := by simpa using h1
      have : (Ent.val x D ⟨[], false⟩) = 0 := by
        rw [Ent.val_f rfl]; simp [Poly.ev, Rat.div_def]
      rw [this, canon_zero, hl]
    | false =>
      rw [h1] at h
      cases h2 : bytesEq l [49] with
      | true =>
        rw [h2] at h
        cases h
        rw [bytesEq_iff] at h2
        have hl : l = [49] := by simpa using h2
        have : (Ent.val x D ⟨[([], 2)], false⟩) = 1 := by
          rw [Ent.val_f rfl]; simp only [Poly.ev, Poly.evM]; decide +kernel
        rw [this, canon_one, hl]
      | false =>
        rw [h2] at h
        cases h3 : bytesEq l [45, 49] with
        | true =>
          rw [h3] at h
          cases h
          rw [bytesEq_iff] at h3
          have hl : l = [45, 49] := by simpa using h3
          have : (Ent.val x D ⟨[([], -2)], false⟩) = -1 := by
            rw [Ent.val_f rfl]; simp only [Poly.ev, Poly.evM]; decide +kernel
          rw [this, canon_minus, hl]
        | false => rw [h3] at h; cases h
  · cases h
end

/-! ### rows -/
/-- what stands in the table of calls is right: f, arguments, value -/
def rowOkS (tab : T Ent) (dp : Poly) (b : Nat → Nat) (rel : List Nat) (f : Nat) (args : List V) (v : V) : Bool :=
  match args with
  | [a, c] => match entV tab a, entV tab c with
    | some ea, some ec => entOk b ea && entOk b ec && (
        match v with
        | .tup [u, .int .i64 (.ofNat 0)] => match entV tab u with
          | some eu => Nat.beq f 27 && divOk dp ea ec eu
          | none => false
        | v => match entV tab v with
          | some eu => (Nat.beq f 42 && addOk dp ea ec eu) || (Nat.beq f 55 && subOk dp ea ec eu) || (Nat.beq f 31 && mulOk ea ec eu)
          | none => false)
    | _, _ => false
  | [a] => match a with
    | .sym i => cond (Nat.blt i 128) (
        cond (Nat.beq f 45 && Nat.ble 64 i && natMem (i - 64) rel) (match entV tab v with
          | some eu => !eu.q && Poly.same eu.p [([i - 64], 2)] && Nat.ble (b (i - 64)) 100
          | none => false) false)
      (match entV tab (.sym i) with
      | some ea => entOk b ea && (match v with
        | .int .i64 (.ofNat 0) => Nat.beq f 44
        | .bool false => Nat.beq f 62
        | _ => false)
      | none => false)
    | a => match entV tab a with
      | some ea => entOk b ea && (match v with
        | .int .i64 (.ofNat 0) => Nat.beq f 44
        | .bool false => Nat.beq f 62
        | _ => false)
      | none => false
  | _ => false

theorem Contract.of {w0 : Base} (hp : ∀ w : World, w0.heap.size ≤ w.heap.size → (∀ b, b < w0.heap.size → w.heap[b]? = w0.heap[b]?) → PTab w) {f : Nat} {args : List V} {v : V}
    (h : ∀ (E : Env) (w : World) (xs : List Value), E.sym = w0.sym → VRL E args xs → PTab w → Calls Tryz.prog f xs.toArray w fun e w' => ∃ x, e = .returned x ∧ VR E v x ∧ Kp w w') : Contract Tryz.prog w0 f args v := by
  intro E w xs hs hx h1 h2
  refine (h E w xs hs hx (hp w h1 h2)).mono ?_
  rintro e w' ⟨r, rfl, hv, hk⟩
  exact ⟨r, rfl, hv, ⟨hk.tape, hk.os, hk.output, hk.size⟩, fun b hb => hk.block b hb⟩

/-- what a case is about: the ints n, the numbers x, the divisor D -/
structure CaseOk (w0 : Base) (n x : Nat → Int) (D : Int) (tab : T Ent) (dp : Poly) (b : Nat → Nat) (rel : List Nat) : Prop where
  sym : w0.sym = symOf n x D tab
  tabs : ∀ w : World, w0.heap.size ≤ w.heap.size → (∀ b, b < w0.heap.size → w.heap[b]? = w0.heap[b]?) → PTab w
  bd : ∀ v, (x v).natAbs ≤ b v
  pos : 0 < D
  top : D < 400000000
  div : Poly.ev x dp = D
  rel : ∀ i, i ∈ rel → (n i).tmod 5 = x i
  nb : ∀ i, -128 ≤ n i ∧ n i < 128

section
variable {w0 : Base} {n x : Nat → Int} {D : Int} {tab : T Ent} {dp : Poly} {b : Nat → Nat} {rel : List Nat} (hC : CaseOk w0 n x D tab dp b rel)
include hC
theorem CaseOk.sm {e : Ent} (h : entOk b e = true) : Sm (e.val x D) := by
  obtain ⟨h1, h2, h3⟩ := ent_bd (D := D) hC.bd hC.pos hC.top h
  exact ⟨h1, h2, h3⟩
theorem CaseOk.ret {E : Env} (hE : E.sym = w0.sym) {v : V} {e : Ent} (h : entV tab v = some e) : VR E v (strV (canon (e.val x D))) := by
  have hs := hE.trans hC.sym
  cases v with
  | sym i =>
    show _ = E.sym i
    exact (entV_ok hs h (show VR E (.sym i) (E.sym i) from rfl)).symm
  | str l => exact (entV_ok hs h (show VR E (.str l) _ from rfl)).symm
  | _ => cases h
theorem natMem_mem : ∀ {l : List Nat} {k : Nat}, natMem k l = true → k ∈ l
  | [], _, h => by cases h
  | m :: l, k, h => by
    simp only [natMem] at h
    cases hb : Nat.beq k m with
    | true => rw [nbeq_true hb]; exact List.mem_cons_self ..
    | false => rw [hb] at h; exact List.mem_cons_of_mem _ (natMem_mem h)
theorem one_ok {f : Nat} {a v : V} {ea : Ent} (ha : entV tab a = some ea) (h : (entOk b ea && (match v with
        | .int .i64 (.ofNat 0) => Nat.beq f 44
        | .bool false => Nat.beq f 62
        | _ => false)) = true) : Contract Tryz.prog w0 f [a] v := by
  simp only [Bool.and_eq_true] at h
  have hsm := hC.sm h.1
  refine Contract.of hC.tabs fun E w xs hE hx ht => ?_
  obtain ⟨r, rs, rfl, hr, hn⟩ := hx
  rw [show rs = [] from hn, entV_ok (hE.trans hC.sym) ha hr]
  have h2 := h.2
  split at h2
  · rw [nbeq_true h2]
    exact (check_rat _ w hsm ht).mono fun e w' ⟨h1, h2⟩ => ⟨_, h1, rfl, h2⟩
  · rw [nbeq_true h2]
    exact (long_rat _ w hsm).mono fun e w' ⟨h1, h2⟩ => ⟨_, h1, rfl, h2⟩
  · cases h2
theorem rowS_ok {f : Nat} {args : List V} {v : V} (h : rowOkS tab dp b rel f args v = true) : Contract Tryz.prog w0 f args v := by
  have hD0 : D ≠ 0 := by have := hC.pos; omega
  unfold rowOkS at h
  split at h
  · rename_i a c
    split at h
    · rename_i ea ec ha hc
      simp only [Bool.and_eq_true] at h
      obtain ⟨⟨h1, h2⟩, h3⟩ := h
      have s1 := hC.sm h1
      have s2 := hC.sm h2
      refine Contract.of hC.tabs fun E w xs hE hx ht => ?_
      obtain ⟨r, rs, rfl, hr, r2, rs2, rfl, hr2, hn⟩ := hx
      rw [show rs2 = [] from hn, entV_ok (hE.trans hC.sym) ha hr, entV_ok (hE.trans hC.sym) hc hr2]
      split at h3
      · rename_i u
        split at h3
        · rename_i eu hu
          simp only [Bool.and_eq_true] at h3
          rw [nbeq_true h3.1]
          obtain ⟨e1, e2⟩ := div_val hD0 hC.div h3.2
          have hpos : 0 < (ec.val x D).num := by rw [e2]; exact hC.pos
          refine (div_rat _ _ w s1 s2 hpos ht).mono fun e w' ⟨h1, h2⟩ => ⟨_, h1, ?_, h2⟩
          rw [e1]
          exact ⟨_, ⟨_, _, rfl, hC.ret hE hu, _, _, rfl, rfl, rfl⟩, rfl⟩
        · cases h3
      · split at h3
        · rename_i eu hu
          simp only [Bool.or_eq_true, Bool.and_eq_true] at h3
          rcases h3 with (h3 | h3) | h3
          · rw [nbeq_true h3.1]
            refine (add_rat _ _ w s1 s2 ht).mono fun e w' ⟨h1, h2⟩ => ⟨_, h1, ?_, h2⟩
            rw [add_val hD0 hC.div h3.2]
            exact hC.ret hE hu
          · rw [nbeq_true h3.1]
            refine (sub_rat _ _ w s1 s2 ht).mono fun e w' ⟨h1, h2⟩ => ⟨_, h1, ?_, h2⟩
            rw [sub_val hD0 hC.div h3.2]
            exact hC.ret hE hu
          · rw [nbeq_true h3.1]
            refine (mul_rat _ _ w s1 s2 ht).mono fun e w' ⟨h1, h2⟩ => ⟨_, h1, ?_, h2⟩
            rw [mul_val hD0 h3.2]
            exact hC.ret hE hu
        · cases h3
    · cases h
  · rename_i a
    split at h
    · rename_i i
      cases hb : Nat.blt i 128 with
      | true =>
        rw [hb, cond_true] at h
        cases hf : (Nat.beq f 45 && Nat.ble 64 i && natMem (i - 64) rel) with
        | false => rw [hf] at h; cases h
        | true =>
          rw [hf, cond_true] at h
          simp only [Bool.and_eq_true] at hf
          obtain ⟨⟨f1, f2⟩, f3⟩ := hf
          have f2 := nble_le f2
          have f3 := natMem_mem hC f3
          have hi := nblt_lt hb
          split at h
          · rename_i eu hu
            simp only [Bool.and_eq_true, Bool.not_eq_true'] at h
            obtain ⟨⟨g1, g2⟩, g3⟩ := h
            have g2 := Poly.ev_same x g2
            have g3 := nble_le g3
            have hbd := hC.bd (i - 64)
            rw [nbeq_true f1]
            refine Contract.of hC.tabs fun E w xs hE hx ht => ?_
            obtain ⟨r, rs, rfl, hr, hn⟩ := hx
            have hr : r = E.sym i := hr
            have hs : E.sym i = .int .i64 (x (i - 64)) := by
              rw [hE, hC.sym]
              unfold symOf
              rw [if_neg (by omega), if_neg (by omega), if_pos hi, hC.rel _ f3]
            rw [show rs = [] from hn, hr, hs]
            refine (whole_any _ w (by omega) (by omega) ht).mono fun e w' ⟨h1, h2⟩ => ⟨_, h1, ?_, h2⟩
            have hval : eu.val x D = (x (i - 64) : Rat) := by
              rw [Ent.val_f g1, g2]
              simp only [Poly.ev, Poly.evM, Int.mul_one, Int.add_zero]
              rw [Rat.intCast_mul]
              have := half_ne
              generalize ((2 : Int) : Rat) = t at *
              grind
            have hcan : canon (x (i - 64) : Rat) = Lib.itoa (x (i - 64)) := by
              show Klp.rs (x (i - 64)) 1 = _
              rw [rs_one]
            have := hC.ret hE hu
            rw [hval, hcan] at this
            exact this
          · cases h
      | false =>
        rw [hb, cond_false] at h
        split at h
        · rename_i ea ha
          exact one_ok hC ha h
        · cases h
    · split at h
      · rename_i ea ha
        exact one_ok hC ha h
      · cases h
  · cases h

def rowsOkS (tab : T Ent) (dp : Poly) (b : Nat → Nat) (rel : List Nat) (l : Memo) : Bool := l.all fun e => e.2.all fun p => rowOkS tab dp b rel e.1 p.1 p.2
theorem rowsS_ok {l : Memo} (h : rowsOkS tab dp b rel l = true) : Memos Tryz.prog w0 l := by
  intro e he p hp
  simp only [rowsOkS, List.all_eq_true] at h
  exact rowS_ok hC (h e he p hp)
end

/-! ### what is known of symbols -/
def eqsS (facts : List (V × V × Bool)) (x y : V) : Option Bool :=
  match facts with
  | [] => none
  | p :: r => cond (V.eq p.1 x && V.eq p.2.1 y) (some p.2.2) (eqsS r x y)
theorem eqsS_mem : ∀ {facts : List (V × V × Bool)} {x y : V} {c : Bool}, eqsS facts x y = some c → (x, y, c) ∈ facts
  | [], _, _, _, h => by cases h
  | p :: r, x, y, c, h => by
    simp only [eqsS] at h
    cases hb : (V.eq p.1 x && V.eq p.2.1 y) with
    | true =>
      rw [hb] at h
      cases h
      simp only [Bool.and_eq_true] at hb
      rw [← V.eq_eq _ _ hb.1, ← V.eq_eq _ _ hb.2]
      exact List.mem_cons_self ..
    | false =>
      rw [hb] at h
      exact List.mem_cons_of_mem _ (eqsS_mem h)
def binS (facts : List (V × V × Bool)) (op : BinOp) (x y : V) : Option V :=
  match op with
  | .eql => (eqsS facts x y).map .bool
  | .neq => (eqsS facts x y).map fun c => .bool (!c)
  | .rem => match x, y with
    | .sym i, .int .i64 (.ofNat 5) => cond (Nat.ble 32 i && Nat.blt i 64) (some (.sym (i + 32))) none
    | _, _ => none
  | _ => none
def convS (tb : Tab) (src dst : Nat) (a : V) : Option V :=
  match a with
  | .sym i => cond (Nat.blt i 32) (match tb.und src, tb.und dst with
    | some (.int .i8), some (.int .i64) => some (.sym (i + 32))
    | _, _ => none) none
  | _ => none
/-- the comparisons of texts that a case tells -/
def FactsOk (x : Nat → Int) (D : Int) (tab : T Ent) (facts : List (V × V × Bool)) : Prop :=
  ∀ p ∈ facts, ∃ ea ec, entV tab p.1 = some ea ∧ entV tab p.2.1 = some ec ∧ (ea.val x D = ec.val x D ↔ p.2.2 = true)
noncomputable def Tab.syms (tb : Tab) (facts : List (V × V × Bool)) : Tab := { tb with eqs := eqsS facts, bin := binS facts, conv := convS tb }
theorem tabOk_syms {tb : Tab} {P : Program} (h : TabOk tb P) (facts : List (V × V × Bool)) : TabOk (Tab.syms tb facts) P := ⟨h.fn, h.und, h.inf, h.guard, h.held⟩

section
variable {w0 : Base} {n x : Nat → Int} {D : Int} {tab : T Ent} {dp : Poly} {b : Nat → Nat} {rel : List Nat} (hC : CaseOk w0 n x D tab dp b rel) {facts : List (V × V × Bool)} (hf : FactsOk x D tab facts)
include hC hf
theorem eqs_str {E : Env} (hE : E.sym = w0.sym) {u v : V} {c : Bool} (h : eqsS facts u v = some c) {ru rv : Value} (hu : VR E u ru) (hv : VR E v rv) : ∃ s t : ByteArray, ru = .string s ∧ rv = .string t ∧ c = (s.toList == t.toList) := by
  obtain ⟨ea, ec, h1, h2, h3⟩ := hf _ (eqsS_mem h)
  have e1 := entV_ok (hE.trans hC.sym) h1 hu
  have e2 := entV_ok (hE.trans hC.sym) h2 hv
  refine ⟨_, _, e1, e2, ?_⟩
  rw [toList_mk, toList_mk]
  simp only at h3
  by_cases he : ea.val x D = ec.val x D
  · rw [h3.1 he, he, beq_self_eq_true]
  · have : c = false := by
      rw [← Bool.not_eq_true]; exact fun hc => he (h3.2 hc)
    rw [this]
    symm
    rw [beq_eq_false_iff_ne]
    exact fun e => he (canon_inj e)
theorem syms_ok {tb : Tab} (hT : TabOk tb Tryz.prog) (hi : ∀ x y, tb.eqi x y = none) {E : Env} (hE : E.sym = w0.sym) : SR (Tab.syms tb facts) Tryz.prog E where
  eqs u v c h ru rv hu hv := eqs_str hC hf hE h hu hv
  eqi u v c h := by
    have : tb.eqi u v = some c := h
    rw [hi] at this; cases this
  bin op u v r h ru rv hu hv t a c w := by
    replace h : binS facts op u v = some r := h
    unfold binS at h
    split at h
    · obtain ⟨c, hc, rfl⟩ := Option.map_eq_some_iff.1 h
      obtain ⟨s, q, rfl, rfl, rfl⟩ := eqs_str hC hf hE hc hu hv
      have hstr : (eqGuard .eql t a ‹Operand› (.string s) (.string q)).run Tryz.prog w = .ok () w := by unfold eqGuard; split <;> rfl
      refine ⟨.bool (s.toList == q.toList), ?_, rfl⟩
      simp only [Sem.run_bind, hstr, Result.andThen_ok]
      rfl
    · obtain ⟨c, hc, rfl⟩ := Option.map_eq_some_iff.1 h
      obtain ⟨s, q, rfl, rfl, rfl⟩ := eqs_str hC hf hE hc hu hv
      have hstr : (eqGuard .neq t a ‹Operand› (.string s) (.string q)).run Tryz.prog w = .ok () w := by unfold eqGuard; split <;> rfl
      refine ⟨.bool (!(s.toList == q.toList)), ?_, rfl⟩
      simp only [Sem.run_bind, hstr, Result.andThen_ok]
      rfl
    · split at h
      · rename_i i
        cases hb : (Nat.ble 32 i && Nat.blt i 64) with
        | false => rw [hb] at h; cases h
        | true =>
          rw [hb] at h
          cases h
          simp only [Bool.and_eq_true] at hb
          have b1 := nble_le hb.1
          have b2 := nblt_lt hb.2
          have e1 : ru = .int .i64 (n (i - 32)) := by
            rw [show ru = E.sym i from hu, hE, hC.sym]
            unfold symOf
            rw [if_neg (by omega), if_pos b2]
          have e2 : rv = .int .i64 5 := hv
          refine ⟨.int .i64 ((n (i - 32)).tmod 5), ?_, ?_⟩
          · rw [e1, e2]
            have hint : (eqGuard .rem t a ‹Operand› (.int .i64 (n (i - 32))) (.int .i64 5)).run Tryz.prog w = .ok () w := guard_other (by decide) (by decide) w
            simp only [Sem.run_bind, hint, Result.andThen_ok]
            simp [Go.binOp, Op.intDiv]
          · show _ = E.sym (i + 32)
            rw [hE, hC.sym]
            unfold symOf
            rw [if_neg (by omega), if_neg (by omega), if_pos (by omega), show i + 32 - 64 = i - 32 from by omega]
      · cases h
    · cases h
  conv src dst u r h ru hu w := by
    replace h : convS tb src dst u = some r := h
    unfold convS at h
    split at h
    · rename_i i
      cases hb : Nat.blt i 32 with
      | false => rw [hb] at h; cases h
      | true =>
        rw [hb, cond_true] at h
        have b1 := nblt_lt hb
        split at h
        · rename_i h1 h2
          cases h
          have e1 : ru = .int .i8 (n i) := by
            rw [show ru = E.sym i from hu, hE, hC.sym]
            unfold symOf
            rw [if_pos b1]
          refine ⟨.int .i64 (n i), ?_, ?_⟩
          · have hw : IntKind.i64.wrap (n i) = n i := by have := hC.nb i; rw [IntKind.wrap_i64]; omega
            have hus := hT.und _ _ h1
            have hud := hT.und _ _ h2
            rw [e1]
            simp only [Go.convert, Sem.run_bind, run_underlying hus, run_underlying hud, Result.andThen_ok]
            show Result.ok (Value.int .i64 (IntKind.i64.wrap (n i))) w = _
            rw [hw]
          · show _ = E.sym (i + 32)
            rw [hE, hC.sym]
            unfold symOf
            rw [if_neg (by omega), if_pos (by omega), show i + 32 - 32 = i from by omega]
        · cases h
    · cases h
end
def factsChk (tab : T Ent) (dp tp : Poly) (on : Bool) : List (V × V × Bool) → List Poly → Bool
  | [], _ => true
  | p :: r, m :: ms => (match entV tab p.1, entV tab p.2.1 with
    | some a, some c => factOk dp tp on a c p.2.2 m
    | _, _ => false) && factsChk tab dp tp on r ms
  | _ :: _, [] => false
theorem facts_of {x : Nat → Int} {D : Int} {tab : T Ent} {dp tp : Poly} {on : Bool} (hD : D ≠ 0) (hd : Poly.ev x dp = D) (ho : Poly.ev x tp = 0 ↔ on = true) : ∀ {facts : List (V × V × Bool)} {ms : List Poly}, factsChk tab dp tp on facts ms = true → FactsOk x D tab facts
  | [], _, _, p, hp => (List.not_mem_nil hp).elim
  | q :: r, m :: ms, h, p, hp => by
    simp only [factsChk, Bool.and_eq_true] at h
    rcases List.mem_cons.1 hp with rfl | hp
    · have h1 := h.1
      split at h1
      · rename_i a c ha hc
        exact ⟨a, c, ha, hc, fact_val hD hd ho h1⟩
      · cases h1
    · exact facts_of hD hd ho h.2 p hp
  | _ :: _, [], h, _, _ => by cases h
end Go.Proofs.YtobknfkobcbnoaaGreatDoor
