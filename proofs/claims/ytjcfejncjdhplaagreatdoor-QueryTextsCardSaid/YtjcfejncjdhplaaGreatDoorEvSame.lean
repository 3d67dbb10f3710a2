/-
  The abstract evaluator: equal states are equal.
-/
import Derived.Test.YtjcfejncjdhplaaGreatDoorEvMapB
import Derived.RangeFuncCalls
import Derived.Lib.Bytealg
set_option linter.unusedSectionVars false
set_option linter.unusedVariables false
set_option linter.unusedSimpArgs false
namespace Ev
open Go
def FR (r : Option Nat) : Fence := { Fence.wide with round := r }
structure Mem where
  heap : Array Obj
  frz : Nat → Prop := fun _ => True
structure Mem.Le (M M' : Mem) : Prop where
  size : M.heap.size ≤ M'.heap.size
  same : ∀ b, b < M.heap.size → M.frz b → M'.frz b ∧ M'.heap[b]? = M.heap[b]?
theorem Mem.Le.refl (M : Mem) : M.Le M := ⟨Nat.le_refl _, fun _ _ h => ⟨h, rfl⟩⟩
theorem Mem.Le.trans {M M' M'' : Mem} (h : M.Le M') (h' : M'.Le M'') : M.Le M'' :=
  ⟨Nat.le_trans h.size h'.size, fun b hb hz => let ⟨z, e⟩ := h.same b hb hz; let ⟨z', e'⟩ := h'.same b (Nat.lt_of_lt_of_le hb h.size) z; ⟨z', e'.trans e⟩⟩
theorem Mem.Le.on {M M' : Mem} (h : M.Le M') {w : World} (h2 : ∀ b, b < M'.heap.size → M'.frz b → w.heap[b]? = M'.heap[b]?) : ∀ b, b < M.heap.size → M.frz b → w.heap[b]? = M.heap[b]? :=
  fun b hb hz => let ⟨z, e⟩ := h.same b hb hz; (h2 b (Nat.lt_of_lt_of_le hb h.size) z).trans e
structure Base extends Mem where
  sym : Nat → Value
  stat : Nat → Info := fun g => { blk := g, size := 0, unit := 0 }
structure StatOk (w0 : Base) (E : Env) : Prop where
  sym : E.sym = w0.sym
  stat : ∀ g, 32 ≤ g → g < 64 → E.at_ g = some (w0.stat g)
theorem StatOk.mono {w0 : Base} {E E' : Env} (h : StatOk w0 E) (hle : E.Le E') : StatOk w0 E' := ⟨hle.1.1.trans h.sym, fun g h1 h2 => hle.2 _ _ (h.stat g h1 h2)⟩
def blkOf (w0 : Base) (n : Nat) : Nat := if n < 32 then n else (w0.stat n).blk
structure Inv (w0 : Base) (E : Env) (g : G) (w : World) : Prop where
  size : w0.heap.size ≤ w.heap.size
  same : ∀ b, b < w0.heap.size → w0.frz b → w.heap[b]? = w0.heap[b]?
  foot : ∀ b, b < w0.heap.size → w0.frz b → ¬ Foot E g b
theorem Inv.step {w0 : Base} {E E' : Env} {g g' : G} {nx nx' : Nat} {w w' : World} (h : Inv w0 E g w) (s : Step E g nx w E' g' nx' w') : Inv w0 E' g' w' where
  size := Nat.le_trans h.size s.grew.size
  same b hb hz := (s.frame b (Nat.lt_of_lt_of_le hb h.size) (h.foot b hb hz)).trans (h.same b hb hz)
  foot b hb hz hf := h.foot b hb hz (s.foot b (Nat.lt_of_lt_of_le hb h.size) hf)
theorem GlobOk.mono {E E' : Env} (h : GlobOk E) (hle : E.Le E') : GlobOk E' := fun g hg => let ⟨i, hi, hb⟩ := h g hg; ⟨i, hle.2 g i hi, hb⟩
structure Ok (w0 : Base) (E : Env) (g : G) (nx : Nat) (w : World) : Prop where
  rel : Rel E g w
  fresh : Fresh E nx
  glob : GlobOk E
  inv : Inv w0 E g w
  sym : StatOk w0 E
theorem Ok.step {w0 : Base} {E E' : Env} {g g' : G} {nx nx' : Nat} {w w' : World} (h : Ok w0 E g nx w) (s : Step E g nx w E' g' nx' w') : Ok w0 E' g' nx' w' :=
  ⟨s.rel, s.fresh, h.glob.mono s.le, h.inv.step s, h.sym.mono s.le⟩
theorem Ok.sub {w0 : Base} {E : Env} {g g' : G} {nx : Nat} {w : World} (h : Ok w0 E g nx w) (hs : ∀ n o, g' n = some o → g n = some o) : Ok w0 E g' nx w :=
  ⟨h.rel.sub hs, h.fresh, h.glob, ⟨h.inv.size, h.inv.same, fun b hb hz ⟨n, o, i, hn, hi, he⟩ => h.inv.foot b hb hz ⟨n, o, i, hs n o hn, hi, he⟩⟩, h.sym⟩
def Post (E : Env) (g : G) (nx : Nat) (w : World) (v : V) (g' : G) (nx' : Nat) : Ending → World → Prop :=
  fun e w' => ∃ x, e = .returned x ∧ Left E g nx w v g' nx' x w'
structure RecOk (P : Program) (w0 : Base) (rc : Rec) : Prop where
  call : ∀ f args h nx v h' nx', rc.call f args h nx = some (v, h', nx') → ∀ E w xs, Ok w0 E h.get nx w → VRL E args xs → Calls P f xs.toArray w (Post E h.get nx w v h'.get nx')
  round : ∀ l args h nx v h' nx', rc.round l args h nx = some (v, h', nx') → ∀ E w xs i, Ok w0 E h.get nx w → E.at_ l = some i → VRL E args xs →
    ∃ fn tmps assign body, (Instr.yield i.blk xs.toArray).run P w = .ok (.round i.blk fn tmps assign body) w ∧ ∀ r, RoundIn (FR r) 0 P i.blk fn tmps assign body w (Post E h.get nx w v h'.get nx')
def extSem : Ext → Array Value → Sem Value
  | .noEscape => Extern.AbiNoEscape.same
  | .indexByte => Extern.BytealgIndexByte.indexByte
  | .cmp => Extern.BytealgCompare.compare
  | .count => Extern.BytealgCount.count
def RmOk (P : Program) (w0 : Base) (f : Nat) (e : RM) : Prop :=
  ∀ (E : Env) (w : World) (xs : List Value), Ok w0 E (T.ofList .e 64 e.sub).get (64 + e.sub.length) w → VRL E e.args xs →
    Calls P f xs.toArray w fun en w' => ∃ x, en = .returned x ∧ ∃ (E2 : Env) (g2 : G), VR E2 e.v x ∧
      Step E (T.ofList .e 64 e.sub).get (64 + e.sub.length) w E2 g2 (64 + e.sub.length + e.made) w' ∧ ∀ p ∈ e.out, g2 p.1 = some p.2
structure FnOk (tb : Tab) (P : Program) (w0 : Base) : Prop where
  mixed : P.follows .mixedOrders = true
  syms : ∀ E : Env, StatOk w0 E → SR tb P E
  glob : ∀ n c, tb.glob n = some c → n < 64 ∧ (blkOf w0 n < w0.heap.size ∧ w0.frz (blkOf w0 n)) ∧ ∃ rc e fr, w0.heap[blkOf w0 n]? = some (.cells rc e fr) ∧ ∀ E, StatOk w0 E → CellsR E c rc
  ld : ∀ ty i v, tb.ldS ty i = some v → ∃ ad cs xs, w0.sym i = .pointer (some ad) ∧ ((tb.isAgg ty = some true ∧ tb.size ty = some cs.length ∧ v = .agg cs) ∨ (tb.isAgg ty = some false ∧ cs = [v])) ∧ (∀ E, StatOk w0 E → VRL E cs xs) ∧ (ad.block < w0.heap.size ∧ w0.frz ad.block) ∧
    ∀ w : World, w.heap[ad.block]? = w0.heap[ad.block]? → ∀ j y, xs[j]? = some y → w.cell? (ad.add j) = some y
  enter : ∀ k fn b, tb.fn k = some fn → fn.body = some b → ∀ args w, (callFunc k args).run P w = .ok (.enter k args) w
  ext : ∀ k fn x, tb.fn k = some fn → fn.body = none → extOf fn = some x → ∀ args w, (callFunc k args).run P w = ((extSem x args).run P w).andThen fun v w' => .ok (.value v) w'
  prim : ∀ f args v, tb.prim f args = some v → ∀ (E : Env) (w : World) (xs : List Value), StatOk w0 E → VRL E args xs → w0.heap.size ≤ w.heap.size → (∀ b, b < w0.heap.size → w0.frz b → w.heap[b]? = w0.heap[b]?) →
    Calls P f xs.toArray w fun e w' => ∃ x, e = .returned x ∧ VR E v x ∧ Grew w w' ∧ ∀ b, b < w.heap.size → w'.heap[b]? = w.heap[b]?
  rm : ∀ f es, tb.rm f = some es → ∀ e ∈ es, RmOk P w0 f e
theorem FnOk.syms_of {tb : Tab} {P : Program} {w0 : Base} {E : Env} {g : G} {nx : Nat} {w : World} (hF : FnOk tb P w0) (ho : Ok w0 E g nx w) : SR tb P E := hF.syms E ho.sym
theorem FnOk.globs {tb : Tab} {P : Program} {w0 : Base} {w : World} {E : Env} {g : G} {nx : Nat} (hF : FnOk tb P w0) (ho : Ok w0 E g nx w) : GR tb E w := ⟨fun n c h => by
  obtain ⟨h1, h2, rc, e, fr, h3, h4⟩ := hF.glob n c h
  have key : ∃ i, E.at_ n = some i ∧ i.blk = blkOf w0 n := by
    unfold blkOf
    by_cases hn : n < 32
    · rw [if_pos hn]; exact ho.glob n hn
    · rw [if_neg hn]; exact ⟨_, ho.sym.stat n (by omega) h1, rfl⟩
  obtain ⟨i, hi, hb⟩ := key
  exact ⟨i, rc, e, fr, hi, by rw [hb]; exact (ho.inv.same _ h2.1 h2.2).trans h3, h4 E ho.sym⟩, fun ty i v h => by
  obtain ⟨ad, cs, xs, h1, h2, h5, h6, h7⟩ := hF.ld ty i v h
  exact ⟨ad, cs, xs, by rw [ho.sym.sym]; exact h1, h2, h5 E ho.sym, h7 w (ho.inv.same _ h6.1 h6.2)⟩⟩
theorem Step.quiet {E : Env} {g : G} {nx : Nat} {w w' : World} (hr : Rel E g w) (hf : Fresh E nx) (hgr : Grew w w') (hh : ∀ b, b < w.heap.size → w'.heap[b]? = w.heap[b]?) : Step E g nx w E g nx w' := by
  refine ⟨Env.Le.refl E, fun _ _ => rfl, Nat.le_refl _, hf, ⟨fun n o hn => ?_, hr.inj⟩, hgr, fun b hb _ => hh b hb, fun _ _ h => h⟩
  obtain ⟨i, hi, ho⟩ := hr.obj n o hn
  exact ⟨i, hi, ho.mono (Env.Le.refl E) (hh _ ho.lt)⟩
theorem find_idx (c : UInt8) : ∀ (s : List UInt8) (i : Nat) (f : Nat → Bool), (∀ j, j < s.length → f (i + j) = ((s[j]?).map (· == c)).getD false) →
    (match (List.range' i s.length).find? f with | some i => goInt i | none => goInt (-1)) = .int .i64 (idxB c.toNat s i)
  | [], i, f, _ => by simp [idxB, goInt]
  | x :: s, i, f, hf => by
    have h0 := hf 0 (by simp)
    simp only [Nat.add_zero, List.getElem?_cons_zero, Option.map_some, Option.getD_some] at h0
    simp only [List.length_cons, List.range'_succ, List.find?_cons, h0, idxB]
    by_cases hx : x = c
    · subst hx
      simp [Nat.beq_refl, goInt]
    · have h1 : (x == c) = false := by simpa using hx
      have h2 : Nat.beq x.toNat c.toNat = false := nbeq_false fun e => hx (UInt8.toNat_inj.1 e)
      rw [h1, h2, cond_false]
      refine find_idx c s (i + 1) f fun j hj => ?_
      have := hf (j + 1) (by simp; omega)
      rw [show i + 1 + j = i + (j + 1) from by omega, this]
      simp
theorem bget (s : List UInt8) (j : Nat) (h : j < s.length) : (⟨s.toArray⟩ : ByteArray)[j]! = s[j] := by
  have hs : j < (⟨s.toArray⟩ : ByteArray).size := by simpa [ByteArray.size] using h
  rw [getElem!_pos (⟨s.toArray⟩ : ByteArray) j hs]
  rfl
theorem cmp_find : ∀ (a b : List UInt8) (i : Nat) (f g : Nat → Bool), (∀ j, j < min a.length b.length → f (i + j) = (a[j]! != b[j]!)) → (∀ j, j < min a.length b.length → g (i + j) = decide (a[j]! < b[j]!)) →
    (match (List.range' i (min a.length b.length)).find? f with
      | some i => if g i = true then (-1 : Int) else 1
      | none => if a.length < b.length then -1 else if a.length > b.length then 1 else 0) = cmpB a b
  | [], [], i, f, g, _, _ => by simp [cmpB]
  | [], _ :: _, i, f, g, _, _ => by simp [cmpB]
  | _ :: _, [], i, f, g, _, _ => by simp [cmpB]
  | x :: a, y :: b, i, f, g, hf, hg => by
    have hm : min (x :: a).length (y :: b).length = min a.length b.length + 1 := by simp
    have f0 := hf 0 (by simp)
    have g0 := hg 0 (by simp)
    simp only [Nat.add_zero, List.getElem!_cons_zero] at f0 g0
    rw [hm, List.range'_succ, List.find?_cons, f0]
    simp only [cmpB]
    by_cases hxy : x = y
    · subst hxy
      have e1 : (x != x) = false := by simp
      rw [e1, Nat.beq_refl, cond_true]
      have := cmp_find a b (i + 1) f g (fun j hj => by
        have := hf (j + 1) (by simp; omega)
        rw [show i + 1 + j = i + (j + 1) from by omega, this]; simp) (fun j hj => by
        have := hg (j + 1) (by simp; omega)
        rw [show i + 1 + j = i + (j + 1) from by omega, this]; simp)
      simpa using this
    · have e1 : (x != y) = true := by simpa using hxy
      have e2 : Nat.beq x.toNat y.toNat = false := nbeq_false fun e => hxy (UInt8.toNat_inj.1 e)
      rw [e1, e2, cond_false]
      simp only [g0]
      by_cases hlt : x < y
      · have e3 : Nat.blt x.toNat y.toNat = true := Nat.ble_eq_true_of_le (UInt8.lt_iff_toNat_lt.1 hlt)
        simp [hlt, e3]
      · have e3 : Nat.blt x.toNat y.toNat = false := by
          rw [← Bool.not_eq_true]; intro hh; exact hlt (UInt8.lt_iff_toNat_lt.2 (nblt_lt hh))
        simp [hlt, e3]
theorem bget' (s : List UInt8) (j : Nat) (h : j < s.length) : (⟨s.toArray⟩ : ByteArray)[j]! = s[j]! := by
  rw [bget s j h, getElem!_pos s j h]
theorem cmp_eq (a b : List UInt8) : Extern.BytealgCompare.cmp ⟨a.toArray⟩ ⟨b.toArray⟩ = cmpB a b := by
  have ha : (⟨a.toArray⟩ : ByteArray).size = a.length := by simp [ByteArray.size]
  have hb : (⟨b.toArray⟩ : ByteArray).size = b.length := by simp [ByteArray.size]
  rw [← cmp_find a b 0 (fun i => (⟨a.toArray⟩ : ByteArray)[i]! != (⟨b.toArray⟩ : ByteArray)[i]!) (fun i => decide ((⟨a.toArray⟩ : ByteArray)[i]! < (⟨b.toArray⟩ : ByteArray)[i]!))
    (fun j hj => by simp only [Nat.zero_add]; rw [bget' a j (by omega), bget' b j (by omega)]) (fun j hj => by simp only [Nat.zero_add]; rw [bget' a j (by omega), bget' b j (by omega)])]
  unfold Extern.BytealgCompare.cmp
  rw [ha, hb, List.range_eq_range']
  simp only [decide_eq_true_eq]
  cases List.find? (fun i => (⟨a.toArray⟩ : ByteArray)[i]! != (⟨b.toArray⟩ : ByteArray)[i]!) (List.range' 0 (min a.length b.length)) <;> rfl
theorem cntB_eq (c : UInt8) : ∀ l : List UInt8, cntB c.toNat l = Lib.countByte l c
  | [] => rfl
  | x :: l => by
    unfold Lib.countByte
    rw [List.count_cons]
    have ih := cntB_eq c l
    unfold Lib.countByte at ih
    by_cases h : x = c
    · subst h
      simp only [cntB, Nat.beq_refl, cond_true, ih, beq_self_eq_true, if_true]
    · have e : Nat.beq x.toNat c.toNat = false := nbeq_false fun e => h (UInt8.toNat_inj.1 e)
      have e2 : (x == c) = false := by simpa using h
      simp only [cntB, e, cond_false, ih, e2, if_false, Nat.add_zero, Bool.false_eq_true]
theorem runExt_ok {P : Program} {E : Env} {x : Ext} {args : List V} {v : V} {xs : List Value} (h : runExt x args = some v) (hx : VRL E args xs) (w : World) : ∃ r, (extSem x xs.toArray).run P w = .ok r w ∧ VR E v r := by
  unfold runExt at h
  split at h
  · rename_i y
    cases h
    obtain ⟨r, rs, rfl, hr, hn⟩ := hx
    rw [show rs = [] from hn]
    exact ⟨r, rfl, hr⟩
  · rename_i s c
    cases hb : Nat.blt c 256 with
    | false => rw [hb] at h; cases h
    | true =>
      rw [hb] at h
      cases h
      obtain ⟨r, rs, rfl, hr, r2, rs2, rfl, hr2, hn⟩ := hx
      rw [show rs2 = [] from hn, show r = _ from hr, show r2 = _ from hr2]
      refine ⟨_, ?_, rfl⟩
      have hc := nblt_lt hb
      have hsz : (⟨s.toArray⟩ : ByteArray).size = s.length := by simp [ByteArray.size]
      have hcc : (Nat.toUInt8 (Int.ofNat c).toNat).toNat = c := by simp [Nat.toUInt8]; omega
      have key := find_idx (Nat.toUInt8 (Int.ofNat c).toNat) s 0 (fun i => (⟨s.toArray⟩ : ByteArray)[i]! == Nat.toUInt8 (Int.ofNat c).toNat) (fun j hj => by
        simp only [Nat.zero_add]
        rw [bget s j hj, List.getElem?_eq_getElem hj]; rfl)
      rw [hcc] at key
      show (match (List.range (⟨s.toArray⟩ : ByteArray).size).find? fun i => (⟨s.toArray⟩ : ByteArray)[i]! == Nat.toUInt8 (Int.ofNat c).toNat with
        | some i => pure (goInt i)
        | none => pure (goInt (-1)) : Sem Value).run P w = _
      rw [hsz, List.range_eq_range', ← key]
      cases (List.range' 0 s.length).find? fun i => (⟨s.toArray⟩ : ByteArray)[i]! == Nat.toUInt8 (Int.ofNat c).toNat <;> rfl
  · rename_i a b
    cases h
    obtain ⟨r, rs, rfl, hr, r2, rs2, rfl, hr2, hn⟩ := hx
    rw [show rs2 = [] from hn, show r = _ from hr, show r2 = _ from hr2]
    refine ⟨_, ?_, rfl⟩
    show Result.ok (goInt (Extern.BytealgCompare.cmp ⟨a.toArray⟩ ⟨b.toArray⟩)) w = _
    rw [cmp_eq]; rfl
  · rename_i s c
    cases hb : Nat.blt c 256 with
    | false => rw [hb] at h; cases h
    | true =>
      rw [hb] at h
      cases h
      obtain ⟨r, rs, rfl, hr, r2, rs2, rfl, hr2, hn⟩ := hx
      rw [show rs2 = [] from hn, show r = _ from hr, show r2 = _ from hr2]
      have hc := nblt_lt hb
      have hcc : (Nat.toUInt8 (Int.ofNat c).toNat).toNat = c := by simp [Nat.toUInt8]; omega
      refine ⟨_, Lib.run_countString ⟨s.toArray⟩ (Int.ofNat c) w, ?_⟩
      show Value.int .i64 ((Lib.countByte (⟨s.toArray⟩ : ByteArray).data.toList (Nat.toUInt8 (Int.ofNat c).toNat) : Nat) : Int) = .int .i64 (Int.ofNat (cntB c s))
      have := cntB_eq (Nat.toUInt8 (Int.ofNat c).toNat) s
      rw [hcc] at this
      rw [this]; rfl
  · cases h
end Ev
namespace Ev
open Go
theorem T.eqBy_eq {α : Type} {f : α → α → Bool} (hf : ∀ a b, f a b = true → a = b) : ∀ (a b : T α), T.eqBy f a b = true → a = b
  | .e, .e, _ => rfl
  | .e, .n _ _ _, h => by cases h
  | .n _ _ _, .e, h => by cases h
  | .n a v b, .n c w d, h => by
    rw [T.eqBy_n] at h
    simp only [Bool.and_eq_true] at h
    rw [T.eqBy_eq hf _ _ h.1.2, T.eqBy_eq hf _ _ h.2]
    congr 1
    cases v <;> cases w <;> simp [optEq] at h
    · rfl
    · rw [hf _ _ h.1.1]
theorem pairs_eq {a b : List (V × V)} (h1 : V.eqL (a.map (·.1)) (b.map (·.1)) = true) (h2 : V.eqL (a.map (·.2)) (b.map (·.2)) = true) : a = b := by
  have e1 := V.eqL_eq _ _ h1
  have e2 := V.eqL_eq _ _ h2
  apply List.ext_getElem?
  intro i
  have f1 := congrArg (fun l => l[i]?) e1
  have f2 := congrArg (fun l => l[i]?) e2
  simp only [List.getElem?_map] at f1 f2
  cases ha : a[i]? <;> cases hb : b[i]? <;> simp [ha, hb] at f1 f2
  · rfl
  · rw [Option.some.injEq]; exact Prod.ext f1 f2
theorem Lft.eq_eq {a b : Lft} (h : Lft.eq a b = true) : a = b := by
  obtain ⟨a1, a2, a3⟩ := a
  obtain ⟨b1, b2, b3⟩ := b
  simp only [Lft.eq, Bool.and_eq_true] at h
  rw [pairs_eq h.1.1.1.1 h.1.1.1.2, pairs_eq h.1.1.2 h.1.2, nbeq_true h.2]
theorem O.eq_eq : ∀ (a b : O), O.eq a b = true → a = b := by
  intro a b h
  cases a <;> cases b <;> simp only [O.eq] at h <;> try (cases h; done)
  · simp only [Bool.and_eq_true] at h
    rw [V.eqL_eq _ _ h.1.1.1, nbeq_true h.1.1.2, nbeq_true h.1.2]
    congr 1
    simpa using h.2
  · rename_i a k b l
    simp only [Bool.and_eq_true] at h
    rw [pairs_eq h.1.2 h.2]
    congr 1
    cases k <;> cases l <;> simp at h
    · rfl
    · rw [h.1.1]
  · rename_i m b x n d y
    simp only [Bool.and_eq_true] at h
    rw [Lft.eq_eq h.2, nbeq_true h.1.2]
    congr 1
    cases x <;> cases y <;> simp at h
    · rfl
    · rw [Option.some.injEq]; exact Prod.ext (V.eq_eq _ _ h.1.1.1) (V.eq_eq _ _ h.1.1.2)
  · congr 1; simpa using h
end Ev
namespace Ev
open Go
mutual
theorem ren_to {E E' : Env} {r : Nat → Nat} (hs : E'.sym = E.sym) (h : ∀ n i, E.at_ n = some i → E'.at_ (r n) = some i) : ∀ (v : V) (x : Value), VR E v x → VR E' (renV r v) x
  | .bool _, _, hx | .int _ _, _, hx | .str _, _, hx | .nilp, _, hx | .nils, _, hx | .nilm, _, hx | .nilf, _, hx | .nili, _, hx => hx
  | .ptr _ _, _, ⟨i, hi, hx⟩ => ⟨i, h _ _ hi, hx⟩
  | .slice _ _ _ _, _, ⟨i, hi, hx⟩ => ⟨i, h _ _ hi, hx⟩
  | .map _, _, ⟨i, hi, hx⟩ => ⟨i, h _ _ hi, hx⟩
  | .yld _, _, ⟨i, hi, hx⟩ => ⟨i, h _ _ hi, hx⟩
  | .fn _ a b, _, ⟨xs, ys, ha, hb, hx⟩ => ⟨xs, ys, ren_toL hs h a xs ha, ren_toL hs h b ys hb, hx⟩
  | .iface _ v, _, ⟨y, hy, hx⟩ => ⟨y, ren_to hs h v y hy, hx⟩
  | .agg cs, _, ⟨xs, hc, hx⟩ => ⟨xs, ren_toL hs h cs xs hc, hx⟩
  | .tup cs, _, ⟨xs, hc, hx⟩ => ⟨xs, ren_toL hs h cs xs hc, hx⟩
  | .sym i, x, hx => by show x = E'.sym i; rw [hs]; exact hx
theorem ren_toL {E E' : Env} {r : Nat → Nat} (hs : E'.sym = E.sym) (h : ∀ n i, E.at_ n = some i → E'.at_ (r n) = some i) : ∀ (vs : List V) (xs : List Value), VRL E vs xs → VRL E' (renL r vs) xs
  | [], _, hx => hx
  | v :: vs, _, ⟨y, ys, e, hy, hr⟩ => ⟨y, ys, e, ren_to hs h v y hy, ren_toL hs h vs ys hr⟩
end
mutual
theorem ren_from {E E' : Env} {r : Nat → Nat} (hs : E'.sym = E.sym) (h : ∀ n i, E.at_ (r n) = some i → E'.at_ n = some i) : ∀ (v : V) (x : Value), VR E (renV r v) x → VR E' v x
  | .bool _, _, hx | .int _ _, _, hx | .str _, _, hx | .nilp, _, hx | .nils, _, hx | .nilm, _, hx | .nilf, _, hx | .nili, _, hx => hx
  | .ptr _ _, _, ⟨i, hi, hx⟩ => ⟨i, h _ _ hi, hx⟩
  | .slice _ _ _ _, _, ⟨i, hi, hx⟩ => ⟨i, h _ _ hi, hx⟩
  | .map _, _, ⟨i, hi, hx⟩ => ⟨i, h _ _ hi, hx⟩
  | .yld _, _, ⟨i, hi, hx⟩ => ⟨i, h _ _ hi, hx⟩
  | .fn _ a b, _, ⟨xs, ys, ha, hb, hx⟩ => ⟨xs, ys, ren_fromL hs h a xs ha, ren_fromL hs h b ys hb, hx⟩
  | .iface _ v, _, ⟨y, hy, hx⟩ => ⟨y, ren_from hs h v y hy, hx⟩
  | .agg cs, _, ⟨xs, hc, hx⟩ => ⟨xs, ren_fromL hs h cs xs hc, hx⟩
  | .tup cs, _, ⟨xs, hc, hx⟩ => ⟨xs, ren_fromL hs h cs xs hc, hx⟩
  | .sym i, x, hx => by
    have hx' : x = E.sym i := hx
    show x = E'.sym i; rw [hs]; exact hx'
theorem ren_fromL {E E' : Env} {r : Nat → Nat} (hs : E'.sym = E.sym) (h : ∀ n i, E.at_ (r n) = some i → E'.at_ n = some i) : ∀ (vs : List V) (xs : List Value), VRL E (renL r vs) xs → VRL E' vs xs
  | [], _, hx => hx
  | v :: vs, _, ⟨y, ys, e, hy, hr⟩ => ⟨y, ys, e, ren_from hs h v y hy, ren_fromL hs h vs ys hr⟩
end
theorem ent_to {E E' : Env} {r : Nat → Nat} (hs : E'.sym = E.sym) (h : ∀ n i, E.at_ n = some i → E'.at_ (r n) = some i) : ∀ {es : List (V × V)} {ms : List MapEntry}, EntR E es ms → EntR E' (renE r es) ms
  | [], _, hx => hx
  | _ :: _, _, ⟨m, rest, e, hk, hv, hr⟩ => ⟨m, rest, e, ren_to hs h _ _ hk, ren_to hs h _ _ hv, ent_to hs h hr⟩
theorem ent_from {E E' : Env} {r : Nat → Nat} (hs : E'.sym = E.sym) (h : ∀ n i, E.at_ (r n) = some i → E'.at_ n = some i) : ∀ {es : List (V × V)} {ms : List MapEntry}, EntR E (renE r es) ms → EntR E' es ms
  | [], _, hx => hx
  | _ :: _, _, ⟨m, rest, e, hk, hv, hr⟩ => ⟨m, rest, e, ren_from hs h _ _ hk, ren_from hs h _ _ hv, ent_from hs h hr⟩
theorem obj_to {E E' : Env} {r : Nat → Nat} (hs : E'.sym = E.sym) (h : ∀ n i, E.at_ n = some i → E'.at_ (r n) = some i) {w : World} {i : Info} {o o' : O} (ho : renO r o = some o') (hr : ObjR E w i o) : ObjR E' w i o' := by
  unfold renO at ho
  split at ho
  · cases ho
    obtain ⟨hu, rc, fr, h1, h2, h3, xs, rest, h4, h5⟩ := hr
    exact ⟨hu, rc, fr, h1, h2, h3, xs, rest, ren_toL hs h _ _ h4, h5⟩
  · cases ho
    obtain ⟨res, clock, h1, ⟨ms, h2, h3⟩, h4⟩ := hr
    exact ⟨res, clock, h1, ⟨ms, ent_to hs h h2, h3⟩, h4⟩
  · cases ho
theorem obj_from {E E' : Env} {r : Nat → Nat} (hs : E'.sym = E.sym) (h : ∀ n i, E.at_ (r n) = some i → E'.at_ n = some i) {w : World} {i : Info} {o o' : O} (ho : renO r o = some o') (hr : ObjR E w i o') : ObjR E' w i o := by
  unfold renO at ho
  split at ho
  · cases ho
    obtain ⟨hu, rc, fr, h1, h2, h3, xs, rest, h4, h5⟩ := hr
    exact ⟨hu, rc, fr, h1, h2, h3, xs, rest, ren_fromL hs h _ _ h4, h5⟩
  · cases ho
    obtain ⟨res, clock, h1, ⟨ms, h2, h3⟩, h4⟩ := hr
    exact ⟨res, clock, h1, ⟨ms, ent_from hs h h2, h3⟩, h4⟩
  · cases ho
theorem natMem_iff {n : Nat} : ∀ {l : List Nat}, natMem n l = true ↔ n ∈ l
  | [] => by simp [natMem]
  | m :: l => by
    unfold natMem
    cases hb : Nat.beq n m with
    | true => have := nbeq_true hb; simp [this]
    | false => have := nbeq_ne hb; simp [this, natMem_iff]
theorem nodup_of : ∀ {l : List Nat}, nodupB l = true → l.Nodup
  | [], _ => List.nodup_nil
  | m :: l, h => by
    unfold nodupB at h
    cases hb : natMem m l with
    | true => rw [hb] at h; cases h
    | false =>
      rw [hb, cond_false] at h
      refine List.nodup_cons.2 ⟨fun hm => ?_, nodup_of h⟩
      rw [natMem_iff.2 hm] at hb; cases hb
theorem matchSub_get {r : Nat → Nat} {h : H} : ∀ {os : List O} {ns : List Nat}, matchSub r h os ns = true → os.length = ns.length ∧ ∀ (j : Nat) (o : O), os[j]? = some o → ∃ n x, ns[j]? = some n ∧ h.get n = some x ∧ renO r o = some x
  | [], [], _ => ⟨rfl, fun j o hj => by simp at hj⟩
  | [], _ :: _, hm => by simp [matchSub] at hm
  | _ :: _, [], hm => by simp [matchSub] at hm
  | o :: os, n :: ns, hm => by
    simp only [matchSub, Bool.and_eq_true] at hm
    obtain ⟨h1, h2⟩ := hm
    obtain ⟨hl, hg⟩ := matchSub_get h2
    refine ⟨by simp [hl], fun j p hj => ?_⟩
    cases j with
    | zero =>
      simp at hj; subst hj
      split at h1
      · rename_i o' ho
        split at h1
        · rename_i x hx
          have := O.eq_eq _ _ h1
          subst this
          exact ⟨n, _, rfl, hx, ho⟩
        · cases h1
      · cases h1
    | succ j => simp at hj; obtain ⟨m, x, h3, h4, h5⟩ := hg j p hj; exact ⟨m, x, by simpa using h3, h4, h5⟩
theorem delAll_get : ∀ (l : List Nat) (h : H) (m : Nat), (delAll l h).get m = if m ∈ l then none else h.get m
  | [], h, m => by simp [delAll]
  | n :: l, h, m => by
    rw [delAll, T.get_del, delAll_get l h m]
    by_cases hm : m = n
    · simp [hm]
    · simp [hm]
theorem putOut_get {r : Nat → Nat} : ∀ {l : List (Nat × O)} {h h' : H}, putOut r l h = some h' → ∃ g' : G, (∀ m, h'.get m = match g' m with | some o => some o | none => h.get m) ∧ ∀ m o, g' m = some o → ∃ p ∈ l, r p.1 = m ∧ renO r p.2 = some o
  | [], h, h', hp => by
    cases hp
    exact ⟨fun _ => none, fun m => rfl, fun m o ho => by cases ho⟩
  | p :: l, h, h', hp => by
    simp only [putOut] at hp
    split at hp
    · cases hp
    · rename_i o' ho
      split at hp
      · cases hp
      · rename_i h1 h2
        cases hp
        obtain ⟨g', hg1, hg2⟩ := putOut_get h2
        refine ⟨fun m => if m = r p.1 then some o' else g' m, fun m => ?_, fun m o hm => ?_⟩
        · rw [T.get_set]
          by_cases hm : m = r p.1
          · simp [hm]
          · simp only [hm, if_false]; exact hg1 m
        · by_cases he : m = r p.1
          · simp only [he, if_true, Option.some.injEq] at hm
            subst hm
            exact ⟨p, List.mem_cons_self .., he.symm, ho⟩
          · simp only [he, if_false] at hm
            obtain ⟨q, hq, h3, h4⟩ := hg2 m o hm
            exact ⟨q, List.mem_cons_of_mem _ hq, h3, h4⟩
theorem ofList_get {l : List O} {n : Nat} {o : O} (h : (T.ofList (.e : H) 64 l).get n = some o) : ∃ j, n = 64 + j ∧ l[j]? = some o ∧ j < l.length := by
  rw [T.get_ofList] at h
  split at h
  · rename_i hh
    refine ⟨n - 64, by omega, h, by omega⟩
  · rw [T.get_e] at h; cases h
theorem invN_glob {ord : List Nat} {k nx n : Nat} (h : n < 64) : invN ord k nx n = n := by
  unfold invN
  rw [show Nat.blt n 64 = true from Nat.ble_eq_true_of_le h]; rfl
theorem invN_old {ord : List Nat} {k nx j : Nat} (h : j < k) : invN ord k nx (64 + j) = (ord[j]?).getD 0 := by
  unfold invN
  have h1 : Nat.blt (64 + j) 64 = false := by rw [← Bool.not_eq_true]; intro hh; have := nblt_lt hh; omega
  have h2 : Nat.blt (64 + j) (64 + k) = true := Nat.ble_eq_true_of_le (by omega)
  rw [h1, h2, cond_false, cond_true, show 64 + j - 64 = j from by omega]
theorem invN_new {ord : List Nat} {k nx n : Nat} (h : 64 + k ≤ n) : invN ord k nx n = nx + (n - (64 + k)) := by
  unfold invN
  have h1 : Nat.blt n 64 = false := by rw [← Bool.not_eq_true]; intro hh; have := nblt_lt hh; omega
  have h2 : Nat.blt n (64 + k) = false := by rw [← Bool.not_eq_true]; intro hh; have := nblt_lt hh; omega
  rw [h1, h2]; rfl
theorem useOne_ok {P : Program} {w0 : Base} {f : Nat} {e : RM} (he : RmOk P w0 f e) {ord : List Nat} {args : List V} {h h' : H} {nx : Nat} {E : Env} {w : World} {xs : List Value}
    (hnd : ord.Nodup) (hargs : renL (invN ord ord.length nx) e.args = args) (hsub : matchSub (invN ord ord.length nx) h e.sub ord = true)
    (hput : putOut (invN ord ord.length nx) e.out (delAll ord h) = some h') (ho : Ok w0 E h.get nx w) (hx : VRL E args xs) :
    Calls P f xs.toArray w (Post E h.get nx w (renV (invN ord ord.length nx) e.v) h'.get (nx + e.made)) := by
  obtain ⟨hlen, hget⟩ := matchSub_get hsub
  generalize hk : ord.length = k at *
  generalize hr : invN ord k nx = r at *
  have rg : ∀ n, n < 64 → r n = n := fun n hn => by rw [← hr]; exact invN_glob hn
  have ro : ∀ j, j < k → r (64 + j) = (ord[j]?).getD 0 := fun j hj => by rw [← hr]; exact invN_old hj
  have rn : ∀ n, 64 + k ≤ n → r n = nx + (n - (64 + k)) := fun n hn => by rw [← hr]; exact invN_new hn
  have hlt : ∀ n i, E.at_ n = some i → n < nx := fun n i hi => by
    rcases Nat.lt_or_ge n nx with h | h
    · exact h
    · rw [ho.fresh n h] at hi; cases hi
  let E1 : Env := { E with at_ := fun n => if n < 64 + k then E.at_ (r n) else none }
  have hE1 : ∀ n i, E.at_ (r n) = some i → E1.at_ n = some i := fun n i hi => by
    by_cases hn : n < 64 + k
    · simp [E1, hn, hi]
    · have h1 := rn n (by omega)
      have h2 := hlt _ _ hi
      omega
  have hE1' : ∀ n i, E1.at_ n = some i → n < 64 + k ∧ E.at_ (r n) = some i := fun n i hi => by
    by_cases hn : n < 64 + k
    · simp only [E1, hn, if_true] at hi; exact ⟨hn, hi⟩
    · simp only [E1, hn, if_false] at hi; cases hi
  have hord : ∀ j o, e.sub[j]? = some o → j < k ∧ ∃ x, h.get (r (64 + j)) = some x ∧ renO r o = some x ∧ ord[j]? = some (r (64 + j)) := fun j o hj => by
    obtain ⟨n, x, h1, h2, h3⟩ := hget j o hj
    have hjk : j < k := by have := (List.getElem?_eq_some_iff.1 hj).1; omega
    have : r (64 + j) = n := by rw [ro j hjk, h1]; rfl
    exact ⟨hjk, x, by rw [this]; exact h2, h3, by rw [this]; exact h1⟩
  let g1 : G := fun m => if m ∈ ord then h.get m else none
  have hg1 : ∀ m o, g1 m = some o → h.get m = some o := fun m o hm => by
    by_cases h1 : m ∈ ord
    · simpa [g1, h1] using hm
    · simp [g1, h1] at hm
  have hfoot1 : ∀ b, Foot E1 (T.ofList (.e : H) 64 e.sub).get b → Foot E g1 b := by
    rintro b ⟨n, o, i, hn, hi, hb⟩
    obtain ⟨j, rfl, hj, _⟩ := ofList_get hn
    obtain ⟨_, x, h1, _, h3⟩ := hord j o hj
    have hm : r (64 + j) ∈ ord := List.mem_of_getElem? h3
    exact ⟨r (64 + j), x, i, by simp [g1, hm, h1], (hE1' _ _ hi).2, hb⟩
  have ok1 : Ok w0 E1 (T.ofList (.e : H) 64 e.sub).get (64 + e.sub.length) w := by
    refine ⟨⟨fun n o hn => ?_, fun n m o p i j hn hm hi hj hb => ?_⟩, fun n hn => ?_, fun g hg => ?_, ⟨ho.inv.size, ho.inv.same, fun b hb hz hf => ?_⟩, ⟨ho.sym.sym, fun g g1 g2 => ?_⟩⟩
    · obtain ⟨j, rfl, hj, _⟩ := ofList_get hn
      obtain ⟨_, x, h1, h2, h3⟩ := hord j o hj
      obtain ⟨i, hi, hob⟩ := ho.rel.obj _ _ h1
      exact ⟨i, hE1 _ _ hi, obj_from (E := E) (E' := E1) rfl hE1 h2 hob⟩
    · obtain ⟨a, rfl, ha, _⟩ := ofList_get hn
      obtain ⟨b, rfl, hb', _⟩ := ofList_get hm
      obtain ⟨hak, x, h1, _, h3⟩ := hord a o ha
      obtain ⟨hbk, y, k1, _, k3⟩ := hord b p hb'
      have := ho.rel.inj _ _ _ _ _ _ h1 k1 (hE1' _ _ hi).2 (hE1' _ _ hj).2 hb
      rw [← this] at k3
      have hab : a = b := by
        have e1 := List.getElem?_eq_some_iff.1 h3
        have e2 := List.getElem?_eq_some_iff.1 k3
        exact (List.getElem_inj (h₀ := e1.1) (h₁ := e2.1) hnd).1 (e1.2.trans e2.2.symm)
      rw [hab]
    · have : ¬ n < 64 + k := by omega
      simp [E1, this]
    · obtain ⟨i, hi, hb⟩ := ho.glob g hg
      exact ⟨i, hE1 g i (by rw [rg g (by omega)]; exact hi), hb⟩
    · obtain ⟨n, o, i, hn, hi, hbb⟩ := hfoot1 b hf
      exact ho.inv.foot b hb hz ⟨n, o, i, hg1 n o hn, hi, hbb⟩
    · exact hE1 g _ (by rw [rg g g2]; exact ho.sym.stat g g1 g2)
  have hx1 : VRL E1 e.args xs := ren_fromL (E := E) (E' := E1) rfl hE1 _ _ (by rw [hargs]; exact hx)
  refine (he E1 w xs ok1 hx1).mono ?_
  rintro en w' ⟨x, rfl, E2, g2, hv, hst, hout⟩
  have hkl : e.sub.length = k := by omega
  rw [hkl] at hst
  let E3 : Env := { E with at_ := fun m => if m < nx then E.at_ m else if m < nx + e.made then E2.at_ (64 + k + (m - nx)) else none }
  have hsym : E3.sym = E2.sym := by show E.sym = E2.sym; rw [hst.le.1.1]
  have hE3 : ∀ n i, E2.at_ n = some i → E3.at_ (r n) = some i := fun n i hi => by
    have hlt2 : n < 64 + k + e.made := by
      rcases Nat.lt_or_ge n (64 + k + e.made) with h | h
      · exact h
      · rw [hst.fresh n h] at hi; cases hi
    by_cases hn : n < 64 + k
    · rw [hst.old n hn] at hi
      have h2 := (hE1' _ _ hi).2
      have h3 := hlt _ _ h2
      simp [E3, h3, h2]
    · have h1 := rn n (by omega)
      have h2 : ¬ r n < nx := by omega
      have h3 : r n < nx + e.made := by omega
      have h4 : 64 + k + (r n - nx) = n := by omega
      simp [E3, h2, h3, h4, hi]
  have hE3le : E.Le E3 := ⟨⟨rfl, rfl⟩, fun n i hi => by have := hlt _ _ hi; simp [E3, this, hi]⟩
  obtain ⟨g', hg'1, hg'2⟩ := putOut_get hput
  have hfoot3 : ∀ b, Foot E3 g' b → Foot E2 g2 b := by
    rintro b ⟨m, o, i, hm, hi, hb⟩
    obtain ⟨p, hp, rfl, hro⟩ := hg'2 m o hm
    obtain ⟨i2, hi2, hob⟩ := hst.rel.obj _ _ (hout p hp)
    have : i = i2 := by have := hE3 _ _ hi2; rw [hi] at this; exact Option.some.inj this
    subst this
    exact ⟨p.1, p.2, i, hout p hp, hi2, hb⟩
  have hstep : Step E g1 nx w E3 g' (nx + e.made) w' := by
    refine ⟨hE3le, fun n hn => by simp [E3, hn], by omega, fun n hn => ?_, ⟨fun m o hm => ?_, fun n m o p i j hn hm hi hj hb => ?_⟩, hst.grew, fun b hb hnf => hst.frame b hb fun hf => hnf (hfoot1 b hf), fun b hb hf => hfoot1 b (hst.foot b hb (hfoot3 b hf))⟩
    · have h1 : ¬ n < nx := by omega
      have h2 : ¬ n < nx + e.made := by omega
      simp [E3, h1, h2]
    · obtain ⟨p, hp, rfl, hro⟩ := hg'2 m o hm
      obtain ⟨i, hi, hob⟩ := hst.rel.obj _ _ (hout p hp)
      exact ⟨i, hE3 _ _ hi, obj_to (E := E2) (E' := E3) hsym hE3 hro hob⟩
    · obtain ⟨p1, hp1, rfl, _⟩ := hg'2 n o hn
      obtain ⟨p2, hp2, rfl, _⟩ := hg'2 m p hm
      obtain ⟨i1, hi1, _⟩ := hst.rel.obj _ _ (hout p1 hp1)
      obtain ⟨i2, hi2, _⟩ := hst.rel.obj _ _ (hout p2 hp2)
      have e1 : i = i1 := by have := hE3 _ _ hi1; rw [hi] at this; exact Option.some.inj this
      have e2 : j = i2 := by have := hE3 _ _ hi2; rw [hj] at this; exact Option.some.inj this
      subst e1; subst e2
      rw [hst.rel.inj _ _ _ _ _ _ (hout p1 hp1) (hout p2 hp2) hi1 hi2 hb]
  refine ⟨x, rfl, E3, ren_to (E := E2) (E' := E3) hsym hE3 _ _ hv, ?_⟩
  have := hstep.frames ho.rel hg1 ho.fresh
  have hj : h'.get = join g' g1 h.get := by
    funext m
    rw [hg'1 m, delAll_get]
    unfold join
    cases g' m with
    | some o => rfl
    | none =>
      by_cases hm : m ∈ ord
      · obtain ⟨a, ha⟩ := List.getElem?_of_mem hm
        have hal : a < e.sub.length := by have := (List.getElem?_eq_some_iff.1 ha).1; omega
        obtain ⟨_, y, h1, _, h3⟩ := hord a e.sub[a] (List.getElem?_eq_getElem hal)
        rw [ha] at h3
        cases h3
        simp [g1, hm, h1]
      · simp [g1, hm]
  rw [hj]
  exact this
theorem useRm_ok {P : Program} {w0 : Base} {f : Nat} {ord : List Nat} {args : List V} {h h' : H} {nx nx' : Nat} {v : V} {E : Env} {w : World} {xs : List Value} (hnd : ord.Nodup) (ho : Ok w0 E h.get nx w) (hx : VRL E args xs) :
    ∀ {es : List RM}, (∀ e ∈ es, RmOk P w0 f e) → useRm ord args h nx es = some (v, h', nx') → Calls P f xs.toArray w (Post E h.get nx w v h'.get nx')
  | [], _, hu => by cases hu
  | e :: es, he, hu => by
    simp only [useRm] at hu
    cases hc : (V.eqL (renL (invN ord ord.length nx) e.args) args && matchSub (invN ord ord.length nx) h e.sub ord) with
    | false =>
      rw [hc, cond_false] at hu
      exact useRm_ok hnd ho hx (fun e' h' => he e' (List.mem_cons_of_mem _ h')) hu
    | true =>
      rw [hc, cond_true] at hu
      simp only [Bool.and_eq_true] at hc
      split at hu
      · cases hu
      · rename_i h1 h2
        cases hu
        exact useOne_ok (he e (List.mem_cons_self ..)) hnd (V.eqL_eq _ _ hc.1) hc.2 h2 ho hx
theorem callKept_ok {P : Program} {w0 : Base} {f : Nat} {es : List RM} {args : List V} {h h' : H} {nx nx' : Nat} {v : V} {E : Env} {w : World} {xs : List Value} (he : ∀ e ∈ es, RmOk P w0 f e) (hu : callKept es args h nx = some (v, h', nx'))
    (ho : Ok w0 E h.get nx w) (hx : VRL E args xs) : Calls P f xs.toArray w (Post E h.get nx w v h'.get nx') := by
  unfold callKept at hu
  cases hn : nodupB (orderOf h 1000 (namesL args) []) with
  | false => rw [hn] at hu; cases hu
  | true =>
    rw [hn, cond_true] at hu
    exact useRm_ok (nodup_of hn) ho hx he hu
end Ev
namespace Ev
open Go
def Goes (P : Program) (r : Option Nat) (o : Oper) (a : Act) (w : World) (K : Value → World → Prop) : Prop :=
  ∀ (next : Act → World → Prop) (Q : Exit → Act → World → Prop), (∀ x w', K x w' → next (a.put o.dst x) w') → o.wpIn (FR r) 0 P a w next Q
section
variable {P : Program} {r : Option Nat} {o : Oper} {a : Act} {w : World} {K : Value → World → Prop}
theorem goes_value (hd : ∀ c, o.op ≠ .defer c) {x : Value} {w' : World} (h : (execOp a.eval o).run P w = .ok (.value x) w') (hk : K x w') : Goes P r o a w K := by
  intro next Q hn
  refine ⟨fun _ _ => trivial, ?_⟩
  rw [Oper.semAt_eq _ _ _ hd, h]
  exact hn x w' hk
theorem goes_skip (hd : ∀ c, o.op ≠ .defer c) {w' : World} (h : (execOp a.eval o).run P w = .ok .skip w') (hk : K undef w') : Goes P r o a w K := by
  intro next Q hn
  refine ⟨fun _ _ => trivial, ?_⟩
  rw [Oper.semAt_eq _ _ _ hd, h]
  exact hn undef w' hk
theorem goes_enter (hd : ∀ c, o.op ≠ .defer c) {f : FuncId} {args : Array Value} {w' : World} {R : Ending → World → Prop} (h : (execOp a.eval o).run P w = .ok (.enter f args) w') (hc : Calls P f args w' R)
    (hk : ∀ e w2, R e w2 → ∃ x, e = .returned x ∧ K x w2) : Goes P r o a w K := by
  intro next Q hn
  refine ⟨fun _ _ => trivial, ?_⟩
  rw [Oper.semAt_eq _ _ _ hd, h]
  refine ⟨(by intro hh; cases hh), ?_⟩
  have hc' : CallsIn (FR r) (0 - 1) P f args w' R := (callsIn_wide (n := 0)).2 hc
  refine hc'.mono ?_
  intro e w2 he
  obtain ⟨x, rfl, hx⟩ := hk e w2 he
  exact hn x w2 hx
theorem goes_round (hd : ∀ c, o.op ≠ .defer c) {l fn : Nat} {tmps : Array Value} {assign body : Code} {w' : World} {R : Ending → World → Prop} (h : (execOp a.eval o).run P w = .ok (.round l fn tmps assign body) w')
    (hc : RoundIn (FR r) 0 P l fn tmps assign body w' R) (hk : ∀ e w2, R e w2 → ∃ x, e = .returned x ∧ K x w2) : Goes P r o a w K := by
  intro next Q hn
  refine ⟨fun _ _ => trivial, ?_⟩
  rw [Oper.semAt_eq _ _ _ hd, h]
  refine ⟨(by intro hh; cases hh), ?_⟩
  refine RoundIn.mono (n := 0) hc ?_
  intro e w2 he
  obtain ⟨x, rfl, hx⟩ := hk e w2 he
  exact hn x w2 hx
theorem Goes.mono {K' : Value → World → Prop} (h : Goes P r o a w K) (hk : ∀ x w', K x w' → K' x w') : Goes P r o a w K' :=
  fun next Q hn => h next Q fun x w' hx => hn x w' (hk x w' hx)
end
theorem reach_sub (h : H) : ∀ (k : Nat) (ns : List Nat) (sub : H), (∀ n o, sub.get n = some o → h.get n = some o) → ∀ n o, (reach h k ns sub).get n = some o → h.get n = some o
  | 0, _, sub, hs, n, o, hn => hs n o hn
  | k + 1, [], sub, hs, n, o, hn => hs n o hn
  | k + 1, m :: ns, sub, hs, n, o, hn => by
    simp only [reach] at hn
    split at hn
    · exact reach_sub h k ns sub hs n o hn
    · split at hn
      · exact reach_sub h k ns sub hs n o hn
      · rename_i x hx
        refine reach_sub h k _ _ ?_ n o hn
        intro n' o' hn'
        rw [T.get_set] at hn'
        by_cases he : n' = m
        · subst he; simp at hn'; subst hn'; exact hx
        · simp [he] at hn'; exact hs n' o' hn'
theorem minus_get {α : Type} : ∀ (h sub : T α) (n : Nat), (over.minus h sub).get n = match sub.get n with | some _ => none | none => h.get n := by
  intro h
  induction h with
  | e => intro sub n; cases sub <;> simp [over.minus, T.get_e] <;> split <;> rfl
  | n a v b iha ihb =>
    intro sub n
    cases sub with
    | e => simp [over.minus, T.get_e]
    | n c w d =>
      simp only [over.minus]
      rw [T.get_eq, T.get_eq (T.n c w d), T.get_eq (T.n a v b)]
      by_cases h0 : n = 0
      · simp only [h0, if_true, T.val]; cases w <;> rfl
      · by_cases h1 : n % 2 = 1
        · simp only [h0, if_false, h1, if_true, T.left]; exact iha c _
        · simp only [h0, if_false, h1, T.right]; exact ihb d _
theorem over_get {α : Type} : ∀ (g h sub : T α) (n : Nat), (over h sub g).get n = match g.get n with | some x => some x | none => (match sub.get n with | some _ => none | none => h.get n) := by
  intro g
  induction g with
  | e => intro h sub n; simp only [over, T.get_e]; exact minus_get h sub n
  | n a v b iha ihb =>
    intro h sub n
    simp only [over]
    rw [T.get_eq, T.get_eq (T.n a v b), T.get_eq sub, T.get_eq h]
    by_cases h0 : n = 0
    · simp only [h0, if_true, T.val]; cases v <;> rfl
    · by_cases h1 : n % 2 = 1
      · simp only [h0, if_false, h1, if_true, T.left]; exact iha _ _ _
      · simp only [h0, if_false, h1, T.right]; exact ihb _ _ _
section
variable {tb : Tab} {P : Program} {w0 : Base} (hT : TabOk tb P) (hF : FnOk tb P w0) {rc : Rec} (hR : RecOk P w0 rc) {E : Env} {w : World} {r : Option Nat}
include hT hF hR
omit hT in
theorem callD_calls {f : Nat} {args : List V} {xs : List Value} {g g' : H} {nx nx' : Nat} {v : V} (h : callD tb rc f args g nx = some (v, g', nx')) (ho : Ok w0 E g.get nx w) (hx : VRL E args xs) : Calls P f xs.toArray w (Post E g.get nx w v g'.get nx') := by
  unfold callD at h
  cases hfo : tb.focus f with
  | false =>
    rw [hfo, cond_false] at h
    exact hR.call _ _ _ _ _ _ _ h E w xs ho hx
  | true =>
    rw [hfo, cond_true] at h
    simp only at h
    split at h
    · cases h
    · rename_i u h1 nx1 hc
      cases h
      have hsub := reach_sub g 1000 (namesL args) .e (fun n o hn => by simp [T.get_e] at hn)
      refine (hR.call _ _ _ _ _ _ _ hc E w xs (ho.sub hsub) hx).mono ?_
      rintro e w2 ⟨x, rfl, E', hv, hs⟩
      refine ⟨x, rfl, E', hv, ?_⟩
      have := hs.frames ho.rel hsub ho.fresh
      have hj : (over g (reach g 1000 (namesL args) .e) h1).get = join h1.get (reach g 1000 (namesL args) .e).get g.get := by
        funext n
        rw [over_get]
        unfold join
        cases h1.get n with
        | some y => rfl
        | none => cases (reach g 1000 (namesL args) T.e).get n <;> rfl
      rw [hj]
      exact this
omit hT in
theorem callB_calls {f : Nat} {args : List V} {xs : List Value} {g g' : H} {nx nx' : Nat} {v : V} (h : callB tb rc f args g nx = some (v, g', nx')) (ho : Ok w0 E g.get nx w) (hx : VRL E args xs) : Calls P f xs.toArray w (Post E g.get nx w v g'.get nx') := by
  unfold callB at h
  split at h
  · rename_i u hu
    cases h
    refine (hF.prim f args v hu E w xs ho.sym hx ho.inv.size ho.inv.same).mono ?_
    rintro e w2 ⟨x, rfl, hv, hgr, hh⟩
    exact ⟨x, rfl, E, hv, Step.quiet ho.rel ho.fresh hgr hh⟩
  · split at h
    · exact callD_calls hF hR h ho hx
    · rename_i es hes
      split at h
      · rename_i r hr
        cases h
        exact callKept_ok (hF.rm f es hes) hr ho hx
      · exact callD_calls hF hR h ho hx
omit hT in
theorem callFn_calls {f : Nat} {args : List V} {xs : List Value} {g g' : H} {nx nx' : Nat} {v : V} {fn : Func} {b : Code} (hfn : tb.fn f = some fn) (hb : fn.body = some b)
    (h : callFn tb rc f args g nx = some (v, g', nx')) (ho : Ok w0 E g.get nx w) (hx : VRL E args xs) : (callFunc f xs.toArray).run P w = .ok (.enter f xs.toArray) w ∧ Calls P f xs.toArray w (Post E g.get nx w v g'.get nx') := by
  refine ⟨hF.enter f fn b hfn hb _ w, ?_⟩
  unfold callFn at h
  rw [hfn] at h
  simp only [hb] at h
  exact callB_calls hF hR h ho hx
omit hT in
theorem callFn_goes {o : Oper} {a : Act} {f : Nat} {args : List V} {xs : List Value} {g g' : H} {nx nx' : Nat} {v : V} (hd : ∀ c, o.op ≠ .defer c) (he : (execOp a.eval o).run P w = (callFunc f xs.toArray).run P w)
    (h : callFn tb rc f args g nx = some (v, g', nx')) (ho : Ok w0 E g.get nx w) (hx : VRL E args xs) : Goes P r o a w (Left E g.get nx w v g'.get nx') := by
  unfold callFn at h
  split at h
  · cases h
  · rename_i fn hfn
    split at h
    · rename_i b hb
      exact goes_enter hd (he.trans (hF.enter f fn b hfn hb _ w)) (callB_calls hF hR h ho hx) fun e w2 hp => hp
    · rename_i hb
      split at h
      · cases h
      · rename_i x hext
        cases hre : runExt x args with
        | none => simp [hre] at h
        | some u =>
          simp [hre] at h
          obtain ⟨rfl, rfl, rfl⟩ := h
          obtain ⟨y, hy, hv⟩ := runExt_ok (P := P) hre hx w
          refine goes_value hd (he.trans ((hF.ext f fn x hfn hb hext _ w).trans ?_)) ⟨E, hv, Step.refl ho.rel ho.fresh⟩
          rw [hy]; rfl
omit hT hF hR in
theorem toArray_map (a : Act) (zs : Array Operand) : (List.map a.eval zs.toList).toArray = zs.map a.eval := by apply Array.ext'; simp
theorem eff_goes {o : Oper} {a : Act} {t : T V} {g g' : H} {nx nx' : Nat} {v : V} (h : eff tb rc o.op o.type t g nx = some (v, g', nx')) (ho : Ok w0 E g.get nx w) (ht : TR E t a.tmps) :
    Goes P r o a w (Left E g.get nx w v g'.get nx') := by
  have hg := ho.glob
  have hr := ho.rel
  have hf := ho.fresh
  have hev := fun {x : Operand} {v : V} (h : ev t x = some v) => ev_ok ht hg h
  have hd : ∀ c, o.op ≠ .defer c := by intro c hc; rw [hc] at h; simp [eff] at h
  obtain ⟨dst, op, type, pos, after, guard⟩ := o
  simp only at h hd
  cases op with
  | store ty ad xo =>
    simp only [eff] at h
    split at h
    · rename_i n off u h1 h2
      split at h
      · rename_i c e un vs sz h3 h4 h5
        cases hb : Nat.beq vs.length sz with
        | false => rw [hb] at h; cases h
        | true =>
          rw [hb, cond_true] at h
          split at h
          · cases h
          · rename_i c' h7
            cases h
            obtain ⟨w', hst, hs⟩ := store_ok hT ht hg hr hf h1 h2 h3 h4 h5 (nbeq_true hb) h7
            exact goes_skip hd (by simp [execOp, hst]) ⟨E, undef_VR E, hs⟩
      · cases h
    · cases h
  | mapUpdate ty m k x =>
    simp only [eff] at h
    split at h
    · rename_i key el n kv xv h1 h2 h3 h4
      split at h
      · rename_i es h5
        cases hk : keyOk tb key kv with
        | false => rw [hk] at h; cases h
        | true =>
          rw [hk, cond_true] at h
          cases h6 : storeE tb key kv xv es with
          | none => simp [h6] at h
          | some es' =>
            simp only [h6, Option.map_some, Option.some.injEq, Prod.mk.injEq] at h
            obtain ⟨rfl, rfl, rfl⟩ := h
            haveI := hF.syms_of ho
            obtain ⟨w', hw, hs⟩ := mapUpdate_ok hT h1 h5 hk h6 (hev h2) (hev h3) (hev h4) hr hf
            exact goes_skip hd (by simp [execOp, hw]) ⟨E, undef_VR E, hs⟩
      · cases h
    · cases h
  | insert ty m k x =>
    simp only [eff] at h
    split at h
    · rename_i key el n kv xv h1 h2 h3 h4
      split at h
      · rename_i es h5
        cases hk : keyOk tb key kv with
        | false => rw [hk] at h; cases h
        | true =>
          rw [hk, cond_true] at h
          cases h6 : storeE tb key kv xv es with
          | none => simp [h6] at h
          | some es' =>
            simp only [h6, Option.map_some, Option.some.injEq, Prod.mk.injEq] at h
            obtain ⟨rfl, rfl, rfl⟩ := h
            haveI := hF.syms_of ho
            obtain ⟨w', hw, hs⟩ := mapUpdate_ok hT h1 h5 hk h6 (hev h2) (hev h3) (hev h4) hr hf
            exact goes_skip hd (by simp [execOp, hw]) ⟨E, undef_VR E, hs⟩
      · cases h
    · cases h
  | range ty x =>
    simp only [eff] at h
    split at h
    · rename_i key el n h1 h2
      split at h
      · rename_i es l h3
        cases h
        obtain ⟨y, w', hw, hl⟩ := range_map_ok hT h1 h3 (hev h2) hr hf
        exact goes_value hd (by simp [execOp, hw]) hl
      · cases h
    · cases h
  | convert s d x =>
    simp only [eff] at h
    split at h
    · rename_i el n off h1 h2 h3
      obtain ⟨i, hi, he⟩ := hev h3
      split at h
      · rename_i c e u fz k h4 h5
        cases hb : Nat.blt off c.length with
        | false => rw [hb] at h; cases h
        | true =>
          rw [hb] at h
          cases h
          have := toUnsafe_ok hT h1 h2 hr h4 hi h5 (nblt_lt hb)
          exact goes_value hd (by simp [execOp, he, this]) ⟨E, ⟨i, hi, rfl⟩, Step.refl hr hf⟩
      · cases h
    · rename_i el n off h1 h2 h3
      obtain ⟨i, hi, he⟩ := hev h3
      split at h
      · rename_i c e u fz k h4 h5
        cases hb : (Nat.beq off 0 && Nat.beq e el && Nat.ble (k + 1) c.length) with
        | false => rw [hb] at h; cases h
        | true =>
          rw [hb] at h
          cases h
          simp only [Bool.and_eq_true] at hb
          obtain ⟨⟨b1, b2⟩, b3⟩ := hb
          have := nbeq_true b1
          subst this
          have := nbeq_true b2
          subst this
          have := ofUnsafe_ok hT h1 h2 hr h4 hi h5 (nble_le b3)
          exact goes_value hd (by simp [execOp, he, this]) ⟨E, ⟨i, hi, rfl⟩, Step.refl hr hf⟩
      · cases h
    · cases h
  | call c =>
    obtain ⟨callee, args, argTypes⟩ := c
    cases callee with
    | invoke _ _ => simp [eff] at h
    | value f =>
      simp only [eff] at h
      split at h
      · rename_i q first cap as h1 h2
        obtain ⟨fs, cs, hfs, hcs, he⟩ := hev h1
        have has := evL_ok ht hg h2
        refine callFn_goes hF hR hd (xs := fs ++ args.toList.map a.eval ++ cs) ?_ h ho ((hfs.append has).append hcs)
        simp only [execOp, resolve, he, Deferred.ofValue, Sem.run_bind, Sem.run_pure, Result.andThen_ok, invoke]
        congr 2
        apply Array.ext'
        simp
      · rename_i l as h1 h2
        obtain ⟨i, hi, he⟩ := hev h1
        have has := evL_ok ht hg h2
        obtain ⟨fn, tmps, assign, body, hy, hrd⟩ := hR.round _ _ _ _ _ _ _ h E w _ i ho hi has
        refine goes_round hd (l := i.blk) (fn := fn) (tmps := tmps) (assign := assign) (body := body) (w' := w) ?_ (hrd r) fun e w2 hp => hp
        simp only [execOp, resolve, he, Deferred.ofValue, Sem.run_bind, Sem.run_pure, Result.andThen_ok, invoke]
        rw [← hy]
        congr 2
        apply Array.ext'
        simp
      · cases h
    | builtin b =>
      cases b <;> simp only [eff] at h <;> try (cases h; done)
      case append =>
        split at h
        · rename_i s x ty xty r0 r1 t0 t1
          split at h
          · rename_i vs vx h1 h2
            obtain ⟨rr, w', hrun, hl⟩ := append_ok (P := P) (rt := type) (rs := args.map a.eval) (tys := argTypes) hT h (hev h1) (hev h2) (hF.globs ho) hr hf t0 t1 (by simp [r0]) (by simp [r1])
            exact goes_value hd (by simp [execOp, resolve, invoke, builtin, hrun]) hl
          · cases h
        · cases h
      case clear =>
        split at h
        · rename_i x ty r0 t0
          obtain ⟨as, has⟩ : ∃ as, args.map a.eval = (a.eval x :: as).toArray := by
            have e0 : args.toList[0]? = some x := by simpa using r0
            cases hl : args.toList with
            | nil => simp [hl] at e0
            | cons y ys =>
              simp [hl] at e0
              subst e0
              refine ⟨ys.map a.eval, ?_⟩
              apply Array.ext'
              simp [hl]
          have hclear : Builtin.clear_ argTypes type (args.map a.eval) = Builtin.clear_ argTypes type #[a.eval x] := by
            simp only [Builtin.clear_, has]
            rfl
          split at h
          · rename_i el hty hx
            cases h
            have hx := hev hx
            rw [show a.eval x = _ from hx] at hclear
            have hrun : (Builtin.clear_ argTypes type #[.slice none 0 0]).run P w = .ok (.tuple #[]) w := by
              simp only [Builtin.clear_, t0, List.getElem?_toArray, List.getElem?_cons_zero, Sem.run_bind, run_underlying (hT.und _ _ hty), Result.andThen_ok, Sem.run_pure]
            exact goes_value hd (x := .tuple #[]) (w' := w) (by simp only [execOp, resolve, invoke, builtin, Sem.run_bind, Sem.run_pure, Result.andThen_ok, hclear, hrun]) ⟨E, undef_VR E, Step.refl hr hf⟩
          · rename_i el n off cap hty hx
            cases h
            obtain ⟨i, hi, he⟩ := hev hx
            rw [he] at hclear
            have hrun : (Builtin.clear_ argTypes type #[.slice (some ⟨i.blk, off, none⟩) 0 (capOf i off cap)]).run P w = .ok (.tuple #[]) w := by
              simp only [Builtin.clear_, t0, List.getElem?_toArray, List.getElem?_cons_zero, Sem.run_bind, run_underlying (hT.und _ _ hty), Result.andThen_ok, Sem.run_pure]
            exact goes_value hd (x := .tuple #[]) (w' := w) (by simp only [execOp, resolve, invoke, builtin, Sem.run_bind, Sem.run_pure, Result.andThen_ok, hclear, hrun]) ⟨E, undef_VR E, Step.refl hr hf⟩
          · rename_i el n off k cap hty hx
            split at h
            · rename_i c e u z hgn hz
              cases hl : z.all leafV with
              | false => rw [hl] at h; cases h
              | true =>
                rw [hl, cond_true] at h
                cases hp : putAt off c (rep z (k + 1)) with
                | none => simp [hp] at h
                | some c' =>
                  simp only [hp, Option.map_some, Option.some.injEq, Prod.mk.injEq] at h
                  obtain ⟨rfl, rfl, rfl⟩ := h
                  obtain ⟨i, hi, he⟩ := hev hx
                  rw [he] at hclear
                  obtain ⟨w', hrun, hstep⟩ := clear_ok (P := P) (rt := type) (cap := capOf i off cap) hT t0 hty hr hf hz hl hgn hi hp
                  refine goes_value hd (x := .tuple #[]) (w' := w') (by simp only [execOp, resolve, invoke, builtin, Sem.run_bind, Sem.run_pure, Result.andThen_ok, hclear, hrun]) ⟨E, undef_VR E, ?_⟩
                  rw [get_set_upd]
                  exact hstep
            · cases h
          · cases h
        · cases h
      case copy =>
        split at h
        · rename_i s x ty r0 r1 t0
          split at h
          · rename_i el vs vx hty h1 h2
            split at h
            · rename_i sz la lb hsz hla hlb
              split at h
              · cases h
              · rename_i new hsrc
                cases hb : new.all leafV with
                | false => rw [hb] at h; cases h
                | true =>
                  rw [hb, cond_true] at h
                  have hs := hev h1
                  have hx := hev h2
                  have hargs : ∃ rest, (args.map a.eval).toList = a.eval s :: a.eval x :: rest := by
                    have e0 : args.toList[0]? = some s := by simpa using r0
                    have e1 : args.toList[1]? = some x := by simpa using r1
                    cases hl : args.toList with
                    | nil => simp [hl] at e0
                    | cons y ys =>
                      cases ys with
                      | nil => simp [hl] at e1
                      | cons z zs =>
                        simp [hl] at e0 e1
                        subst e0; subst e1
                        exact ⟨zs.map a.eval, by simp [hl]⟩
                  have hcopy : ∀ (y z : Value), (args.map a.eval)[0]? = some y → (args.map a.eval)[1]? = some z → Builtin.copy_ argTypes type (args.map a.eval) = Builtin.copy_ argTypes type #[y, z] := by
                    intro y z hy hz
                    simp only [Builtin.copy_, hy, hz]
                    rfl
                  have hc := hcopy (a.eval s) (a.eval x) (by simp [r0]) (by simp [r1])
                  split at h
                  ·
                    cases h
                    rw [show a.eval s = _ from hs] at hc
                    simp only [lenOf, Option.some.injEq] at hla
                    subst hla
                    obtain ⟨ys, hy, hv⟩ := src_ok (P := P) hsrc (hF.globs ho) hr hx
                    have hrun : (Builtin.copy_ argTypes type #[.slice none 0 0, a.eval x]).run P w = .ok (.int .i64 (Int.ofNat (min lb 0))) w := by
                      have hmin : Nat.min lb 0 = min lb 0 := rfl
                      simp only [Builtin.copy_, t0, List.getElem?_toArray, List.getElem?_cons_zero, List.getElem?_cons_succ, Sem.run_bind, run_underlying (hT.und _ _ hty), Result.andThen_ok, lenOf_ok (P := P) hlb hx w, hmin, size_run hT hsz, hy]
                      simp [goInt]
                    exact goes_value hd (by simp [execOp, resolve, invoke, builtin, hc, hrun]) ⟨E, rfl, Step.refl hr hf⟩
                  · rename_i n off len cap
                    split at h
                    · rename_i c e u hgn
                      cases hp : putAt off c new with
                      | none => simp [hp] at h
                      | some c' =>
                        simp only [hp, Option.map_some, Option.some.injEq, Prod.mk.injEq] at h
                        obtain ⟨rfl, rfl, rfl⟩ := h
                        obtain ⟨i, hi, he⟩ := hs
                        simp only [lenOf, Option.some.injEq] at hla
                        subst hla
                        obtain ⟨w', hrun, hstep⟩ := copy_ok (P := P) (rt := type) (cap := capOf i off cap) hT t0 hty (hF.globs ho) hr hf hsz hlb rfl hx hsrc hb hgn hi hp
                        rw [he] at hc
                        refine goes_value hd (x := .int .i64 (Int.ofNat (min lb len))) (w' := w') (by simp only [execOp, resolve, invoke, builtin, Sem.run_bind, Sem.run_pure, Result.andThen_ok, hc, hrun]) ⟨E, rfl, ?_⟩
                        rw [get_set_upd]
                        exact hstep
                    · cases h
                  · cases h
            · cases h
          · cases h
        · cases h
      case unsafeString =>
        split at h
        · rename_i n off ik k el h1 h2
          have has := evL_ok ht hg h1
          obtain ⟨y, ys, e1, ⟨i, hi, rfl⟩, z, zs, e2, hz, e3⟩ := has
          rw [show zs = [] from e3] at e2
          rw [e2, show z = _ from hz] at e1
          have harr : args.map a.eval = #[.pointer (some ⟨i.blk, off, none⟩), .int ik (Int.ofNat k)] := by rw [← toArray_map, e1]
          cases h0 : argTypes[0]? with
          | none => simp [h0] at h2
          | some pt =>
            simp only [h0, Option.bind_some] at h2
            split at h
            · rename_i c e u fz hgn
              cases hb : (Nat.beq e el && Nat.beq off 0 && Nat.blt 0 k && Nat.ble k 1000000) with
              | false => rw [hb] at h; cases h
              | true =>
                rw [hb, cond_true] at h
                simp only [Bool.and_eq_true] at hb
                obtain ⟨⟨⟨b1, b2⟩, b3⟩, b4⟩ := hb
                have := nbeq_true b1
                subst this
                have := nbeq_true b2
                subst this
                split at h
                · rename_i hsz
                  split at h
                  · cases h
                  · rename_i bs hcut
                    split at h
                    · cases h
                    · rename_i s hbs
                      cases h
                      obtain ⟨w', hrun, hstep⟩ := unsafeString_ok (P := P) (rt := type) (ik := ik) hT h0 h2 hr hf hgn hi hsz (nblt_lt b3) (nble_le b4) hcut hbs
                      refine goes_value hd (x := .string ⟨s.toArray⟩) (w' := w') (by simp only [execOp, resolve, invoke, builtin, Sem.run_bind, Sem.run_pure, Result.andThen_ok, harr, hrun]) ⟨E, rfl, ?_⟩
                      rw [get_set_upd]
                      exact hstep
                · cases h
            · cases h
        · rename_i ik el h1 h2
          cases h
          have has := evL_ok ht hg h1
          obtain ⟨y, ys, e1, hy, z, zs, e2, hz, e3⟩ := has
          rw [show zs = [] from e3] at e2
          rw [e2, show z = _ from hz, show y = _ from hy] at e1
          have harr : args.map a.eval = #[.pointer none, .int ik (Int.ofNat 0)] := by rw [← toArray_map, e1]
          cases h0 : argTypes[0]? with
          | none => simp [h0] at h2
          | some pt =>
            have hrun : (Builtin.unsafeString_ argTypes type #[.pointer none, .int ik (Int.ofNat 0)]).run P w = .ok (.string .empty) w := by
              rw [show Builtin.unsafeString_ argTypes type #[.pointer none, .int ik (Int.ofNat 0)] = (asInt (.int ik (Int.ofNat 0)) >>= _) from rfl]
              simp [asInt, asIntOf, h0]
            exact goes_value hd (x := .string .empty) (w' := w) (by simp only [execOp, resolve, invoke, builtin, Sem.run_bind, Sem.run_pure, Result.andThen_ok, harr, hrun]) ⟨E, rfl, Step.refl hr hf⟩
        · cases h
      case unsafeSliceData =>
        split at h
        · rename_i h1
          cases h
          obtain ⟨y, ys, e1, hy, e2⟩ := evL_ok ht hg h1
          rw [show ys = [] from e2, show y = _ from hy] at e1
          have harr : args.map a.eval = #[.slice none 0 0] := by rw [← toArray_map, e1]
          have hrun : (Builtin.unsafeSliceData_ argTypes type #[.slice none 0 0]).run P w = .ok (.pointer none) w := rfl
          exact goes_value hd (x := .pointer none) (w' := w) (by simp only [execOp, resolve, invoke, builtin, Sem.run_bind, Sem.run_pure, Result.andThen_ok, harr, hrun]) ⟨E, rfl, Step.refl hr hf⟩
        · rename_i n off len c h1
          cases hb : Nat.ble 2 c with
          | false => rw [hb] at h; cases h
          | true =>
            rw [hb] at h
            cases h
            obtain ⟨y, ys, e1, ⟨i, hi, rfl⟩, e2⟩ := evL_ok ht hg h1
            rw [show ys = [] from e2] at e1
            have harr : args.map a.eval = #[.slice (some ⟨i.blk, off, none⟩) len (capOf i off c)] := by rw [← toArray_map, e1]
            have hc : 1 ≤ capOf i off c := Nat.le_trans (by have := nble_le hb; omega) (le_capOf (i := i) (off := off) (cap := c))
            have hrun : (Builtin.unsafeSliceData_ argTypes type #[.slice (some ⟨i.blk, off, none⟩) len (capOf i off c)]).run P w = .ok (.pointer (some ⟨i.blk, off, none⟩)) w := by
              obtain ⟨k, hk⟩ : ∃ k, capOf i off c = k + 1 := ⟨capOf i off c - 1, by omega⟩
              rw [hk]
              rfl
            exact goes_value hd (x := .pointer (some ⟨i.blk, off, none⟩)) (w' := w) (by simp only [execOp, resolve, invoke, builtin, Sem.run_bind, Sem.run_pure, Result.andThen_ok, harr, hrun]) ⟨E, ⟨i, hi, rfl⟩, Step.refl hr hf⟩
        · cases h
  | _ => simp [eff] at h
end
end Ev
namespace Ev
open Go
def Same (t t' : T V) (xs : List Operand) : Prop := ∀ x ∈ xs, ev t x = ev t' x
theorem evL_congr {t t' : T V} : ∀ {xs : List Operand}, Same t t' xs → evL t xs = evL t' xs
  | [], _ => rfl
  | x :: xs, h => by
    simp only [evL]
    rw [h x (List.mem_cons_self ..), evL_congr (fun y hy => h y (List.mem_cons_of_mem _ hy))]
theorem evParts_congr {t t' : T V} : ∀ {ps : List (Nat × Operand)}, Same t t' (ps.map (·.2)) → evParts t ps = evParts t' ps
  | [], _ => rfl
  | (i, x) :: ps, h => by
    simp only [evParts]
    rw [h x (by simp), evParts_congr (fun y hy => h y (by simp only [List.map_cons]; exact List.mem_cons_of_mem _ hy))]
theorem evO_congr {t t' : T V} {x : Option Operand} (h : Same t t' x.toList) : evO t x = evO t' x := by
  cases x with
  | none => rfl
  | some x => simp only [evO]; rw [h x (by simp)]
theorem quiet_congr {tb : Tab} {op : Op} {ty : Nat} {t t' : T V} {g : H} (h : Same t t' op.operands.toList) : quiet tb op ty t g = quiet tb op ty t' g := by
  cases op with
  | build ty ps =>
    simp only [quiet]
    rw [evParts_congr (t' := t') (by simpa [Op.operands] using h)]
  | makeFunc fn a b =>
    cases fn <;> simp only [quiet]
    have h1 : Same t t' a.toList := fun x hx => h x (by simp [Op.operands]; exact .inl (by simpa using hx))
    have h2 : Same t t' b.toList := fun x hx => h x (by simp [Op.operands]; exact .inr (by simpa using hx))
    rw [evL_congr h1, evL_congr h2]
  | slice ty x lo hi mx =>
    simp only [quiet]
    have h1 : Same t t' lo.toList := fun y hy => h y (by simp [Op.operands]; exact .inr (.inl (by simpa using hy)))
    have h2 : Same t t' hi.toList := fun y hy => h y (by simp [Op.operands]; exact .inr (.inr (.inl (by simpa using hy))))
    have h3 : Same t t' mx.toList := fun y hy => h y (by simp [Op.operands]; exact .inr (.inr (.inr (by simpa using hy))))
    rw [h x (by simp [Op.operands]), evO_congr h1, evO_congr h2, evO_congr h3]
  | call c =>
    obtain ⟨callee, args, tys⟩ := c
    cases callee with
    | value f => rfl
    | invoke r m => rfl
    | builtin b =>
      have ha : Same t t' args.toList := fun x hx => h x (by simp [Op.operands, Call.operands]; simpa using hx)
      have h0 : ∀ x, args[0]? = some x → ev t x = ev t' x := fun x hx => ha x (by simpa using Array.mem_of_getElem? hx)
      cases b <;> simp only [quiet]
      case len => cases h1 : args[0]? with | none => cases tys[0]? <;> rfl | some x => cases tys[0]? <;> simp only [h0 x h1]
      case cap => cases h1 : args[0]? with | none => cases tys[0]? <;> rfl | some x => cases tys[0]? <;> simp only [h0 x h1]
      case max => rw [evL_congr ha]
      case min => rw [evL_congr ha]
  | pick c a b => simp only [quiet]; rw [h c (by simp [Op.operands]), h a (by simp [Op.operands]), h b (by simp [Op.operands])]
  | binOp op ty x y yt => simp only [quiet]; rw [h x (by simp [Op.operands]), h y (by simp [Op.operands])]
  | indexAddr ty x y => simp only [quiet]; rw [h x (by simp [Op.operands]), h y (by simp [Op.operands])]
  | index ty x y => simp only [quiet]; rw [h x (by simp [Op.operands]), h y (by simp [Op.operands])]
  | lookup ty x y ok => simp only [quiet]; rw [h x (by simp [Op.operands]), h y (by simp [Op.operands])]
  | move x => exact h x (by simp [Op.operands])
  | assign x => exact h x (by simp [Op.operands])
  | load ty x => simp only [quiet]; rw [h x (by simp [Op.operands])]
  | nilCheck x => simp only [quiet]; rw [h x (by simp [Op.operands])]
  | unOp op ty x => simp only [quiet]; rw [h x (by simp [Op.operands])]
  | convert s d x => simp only [quiet]; rw [h x (by simp [Op.operands])]
  | makeInterface ty x => simp only [quiet]; rw [h x (by simp [Op.operands])]
  | fieldAddr ty x f => simp only [quiet]; rw [h x (by simp [Op.operands])]
  | field ty x f => simp only [quiet]; rw [h x (by simp [Op.operands])]
  | extract x i => simp only [quiet]; rw [h x (by simp [Op.operands])]
  | entry x => simp only [quiet]; rw [h x (by simp [Op.operands])]
  | _ => rfl
theorem makes_congr {tb : Tab} {op : Op} {t t' : T V} (h : Same t t' op.operands.toList) : makes tb op t = makes tb op t' := by
  cases op with
  | box el x => simp only [makes]; rw [h x (by simp [Op.operands])]
  | buildSlice ty len ps => simp only [makes]; rw [evParts_congr (t' := t') (by simpa [Op.operands] using h)]
  | makeSlice ty l c => simp only [makes]; rw [h l (by simp [Op.operands]), h c (by simp [Op.operands])]
  | convert s d x => simp only [makes]; rw [h x (by simp [Op.operands])]
  | makeMap ty r =>
    cases r with
    | none => rfl
    | some r => simp only [makes]; rw [h r (by simp [Op.operands])]
  | _ => rfl
theorem eff_congr {tb : Tab} {rc : Rec} {op : Op} {ty : Nat} {t t' : T V} {g : H} {nx : Nat} (h : Same t t' op.operands.toList) : eff tb rc op ty t g nx = eff tb rc op ty t' g nx := by
  cases op with
  | store ty a x => simp only [eff]; rw [h a (by simp [Op.operands]), h x (by simp [Op.operands])]
  | mapUpdate ty m k x => simp only [eff]; rw [h m (by simp [Op.operands]), h k (by simp [Op.operands]), h x (by simp [Op.operands])]
  | insert ty m k x => simp only [eff]; rw [h m (by simp [Op.operands]), h k (by simp [Op.operands]), h x (by simp [Op.operands])]
  | range ty x => simp only [eff]; rw [h x (by simp [Op.operands])]
  | convert s d x => simp only [eff]; rw [h x (by simp [Op.operands])]
  | call c =>
    obtain ⟨callee, args, tys⟩ := c
    cases callee with
    | invoke r m => rfl
    | value f =>
      have ha : Same t t' args.toList := fun x hx => h x (by simp [Op.operands, Call.operands]; exact .inr (by simpa using hx))
      simp only [eff]
      rw [h f (by simp [Op.operands, Call.operands]), evL_congr ha]
    | builtin b =>
      have ha : Same t t' args.toList := fun x hx => h x (by simp [Op.operands, Call.operands]; simpa using hx)
      have h0 : ∀ i x, args[i]? = some x → ev t x = ev t' x := fun i x hx => ha x (by simpa using Array.mem_of_getElem? hx)
      cases b <;> simp only [eff]
      case append =>
        cases h1 : args[0]? with
        | none => cases args[1]? <;> cases tys[0]? <;> cases tys[1]? <;> rfl
        | some x => cases h2 : args[1]? with
          | none => cases tys[0]? <;> cases tys[1]? <;> rfl
          | some y => cases tys[0]? <;> cases tys[1]? <;> first | rfl | (simp only [h0 0 x h1, h0 1 y h2])
      case clear =>
        cases h1 : args[0]? with
        | none => rfl
        | some x => cases tys[0]? <;> first | rfl | (simp only [h0 0 x h1])
      case copy =>
        cases h1 : args[0]? with
        | none => cases args[1]? <;> cases tys[0]? <;> cases tys[1]? <;> rfl
        | some x => cases h2 : args[1]? with
          | none => cases tys[0]? <;> cases tys[1]? <;> rfl
          | some y => cases tys[0]? <;> cases tys[1]? <;> first | rfl | (simp only [h0 0 x h1, h0 1 y h2])
      case unsafeString => rw [evL_congr ha]
      case unsafeSliceData => rw [evL_congr ha]
  | _ => rfl
end Ev
namespace Ev
open Go
def MR (E : Env) : List Nat → List Deferred → Prop
  | [], ds => ds = []
  | n :: ns, ds => ∃ i rest, E.at_ n = some i ∧ ds = { target := .collected i.blk, args := #[] } :: rest ∧ MR E ns rest
theorem MR.mono {E E' : Env} (h : E.Le E') : ∀ {ns : List Nat} {ds : List Deferred}, MR E ns ds → MR E' ns ds
  | [], _, hx => hx
  | _ :: _, _, ⟨i, rest, hi, e, hr⟩ => ⟨i, rest, h.2 _ _ hi, e, MR.mono h hr⟩
structure At (E : Env) (g : G) (nx : Nat) (w : World) (N : Nat) (E' : Env) (s : S) (a : Act) (w' : World) : Prop where
  step : Step E g nx w E' s.h.get s.nx w'
  tr : TR E' s.t a.tmps
  marks : MR E' s.m a.defers
  size : a.tmps.size = N
theorem put_tmps_size (a : Act) (d : Option Tmp) (x : Value) : (a.put d x).tmps.size = a.tmps.size := by cases d <;> simp [Act.put]
theorem put_defers (a : Act) (d : Option Tmp) (x : Value) : (a.put d x).defers = a.defers := by cases d <;> rfl
theorem TR.put {E : Env} {t : T V} {a : Act} {d : Option Tmp} {v : V} {x : Value} (ht : TR E t a.tmps) (hv : VR E v x) (hd : ∀ k, d = some k → k < a.tmps.size) : TR E (setDst t d v) (a.put d x).tmps := by
  cases d with
  | none => exact ht
  | some k =>
    intro j u hj
    simp only [setDst, T.get_set] at hj
    by_cases h : j = k
    · subst h
      simp at hj
      subst hj
      exact ⟨x, by simp [Act.put, hd j rfl], hv⟩
    · simp only [if_neg h] at hj
      obtain ⟨y, hy, hu⟩ := ht j u hj
      refine ⟨y, ?_, hu⟩
      simp only [Act.put]
      rw [Array.getElem?_setIfInBounds_ne (fun e => h e.symm)]
      exact hy
theorem wanted_ok {E : Env} {ops : Array Oper} {o : Oper} {t : T V} {b : Bool} {tmps : Array Value} (h : wanted ops o t = some b) (ht : TR E t tmps) : Region.wanted o (yielded ops tmps) = b := by
  unfold wanted at h
  unfold Region.wanted
  split at h
  · rename_i hg; cases h; simp [hg]
  · rename_i j want hg
    simp only [hg]
    split at h
    · cases h
    · rename_i d hd
      split at h
      · rename_i c hc
        cases h
        obtain ⟨x, hx, hv⟩ := ht d _ hc
        rw [show x = _ from hv] at hx
        simp only [yielded, hd, Option.bind_some, hx]
        cases c <;> cases want <;> rfl
      · rename_i vs hc
        cases h
        obtain ⟨x, hx, xs, _, rfl⟩ := ht d _ hc
        simp only [yielded, hd, Option.bind_some, hx]
        rfl
      · cases h
theorem erase_born : ∀ (ms : List MapEntry) (n : Nat) (m : MapEntry), ms.Pairwise (fun a b => a.born ≠ b.born) → ms[n]? = some m → ms.eraseIdx n = ms.filter fun e => e.born != m.born
  | [], n, m, _, h => by simp at h
  | x :: ms, 0, m, hp, h => by
    simp at h; subst h
    rw [List.pairwise_cons] at hp
    simp only [List.eraseIdx_zero, List.tail_cons, List.filter_cons, bne_self_eq_false, Bool.false_eq_true, if_false]
    symm
    rw [List.filter_eq_self]
    intro e he
    simpa using Ne.symm (hp.1 e he)
  | x :: ms, n + 1, m, hp, h => by
    simp only [List.getElem?_cons_succ] at h
    rw [List.pairwise_cons] at hp
    have hx : (x.born != m.born) = true := by simpa using hp.1 m (List.mem_iff_getElem?.2 ⟨n, h⟩)
    simp only [List.eraseIdx_cons_succ, List.filter_cons, hx, if_true]
    rw [erase_born ms n m hp.2 h]
theorem next_run {P : Program} (w : World) (ty : TypeId) (ib jb clock : Nat) (seen : Array Nat) (es : Array MapEntry) (hw : w.heap[ib]? = some (.mapIter (some jb) clock seen clock)) (hm : w.heap[jb]? = some (.map es clock))
    (hb : ∀ e ∈ es.toList, e.born < clock) :
    ((es.filter fun e => !seen.contains e.born).size = 0 ∧ (Instr.next (.pointer (some ⟨ib, 0, none⟩)) false ty).run P w = .ok (.tuple #[.bool false]) w) ∨
    ∃ e ∈ (es.filter fun e => !seen.contains e.born).toList, ∃ w1 : World, w1.heap = w.heap ∧ w1.tape = w.tape ∧ w1.os = w.os ∧ w1.output = w.output ∧
      (Instr.next (.pointer (some ⟨ib, 0, none⟩)) false ty).run P w = .ok (.tuple #[.bool true, e.key, e.val]) { w1 with heap := w.heap.setIfInBounds ib (.mapIter (some jb) clock (seen.push e.born) clock) } := by
  have hguard : (!seen.isEmpty && !es.isEmpty && es.all (fun e => decide (e.born ≥ clock))) = false := by
    rw [Bool.eq_false_iff]
    intro hh
    simp only [Bool.and_eq_true, Bool.not_eq_true', Array.isEmpty_eq_false_iff, Array.all_eq_true] at hh
    obtain ⟨⟨_, h1⟩, h2⟩ := hh
    have h0 : 0 < es.size := Array.size_pos_iff.2 h1
    have h3 := h2 0 h0
    have h4 := hb es[0] (by simp)
    simp at h3
    omega
  simp only [Instr.next, getObj, Sem.run_bind, Sem.run, hw, hm, Result.andThen, hguard, Bool.false_eq_true, if_false]
  have hmem : ∀ x ∈ (Array.filter (fun e => !seen.contains e.born) es).toList, x.born < clock := fun x hx => hb x (by simp at hx ⊢; exact hx.1)
  generalize Array.filter (fun e => !seen.contains e.born) es = L at hmem ⊢
  have e1 : L.filter (fun x => decide (x.born < clock)) = L := Array.filter_eq_self.2 (fun x hx => by simpa using hmem x (by simpa using hx))
  have e2 : L.filter (fun x => decide (x.born ≥ clock)) = #[] := by
    rw [Array.filter_eq_empty_iff]
    intro x hx
    have := hmem x (by simpa using hx)
    simp
    omega
  simp only [e1, e2, Array.append_empty]
  by_cases h0 : L.size = 0
  · left
    have : L = #[] := Array.eq_empty_of_size_eq_zero h0
    subst this
    refine ⟨rfl, ?_⟩
    simp [choose, Sem.run, Question.forced]
  · right
    have hne : L.isEmpty = false := by simp [Array.isEmpty, h0]
    simp only [hne, Bool.false_eq_true, if_false, Array.empty_append, Array.size_map]
    have hch : ∃ (j : Nat) (w1 : World), j < L.size ∧ w1.heap = w.heap ∧ w1.tape = w.tape ∧ w1.os = w.os ∧ w1.output = w.output ∧ (choose (Question.mapNext L.size)).run P w = .ok j w1 := by
      by_cases hf : L.size ≤ 1
      · exact ⟨0, w, by omega, rfl, rfl, rfl, rfl, by simp [choose, Sem.run, Question.forced, hf]⟩
      · exact ⟨_, w.drew, Nat.mod_lt _ (by omega), rfl, rfl, rfl, rfl, by
          simp only [choose, Sem.run, Question.forced, decide_eq_true_eq, hf, if_false, Question.cut]
          rfl⟩
    obtain ⟨j, w1, hj, a1, a2, a3, a4, hrun⟩ := hch
    refine ⟨L[j], by simp, w1, a1, a2, a3, a4, ?_⟩
    have hw1 : w1.heap[ib]? = some (.mapIter (some jb) clock seen clock) := by rw [a1]; exact hw
    simp only [hrun, Array.getElem?_map, Array.getElem?_eq_getElem hj, Option.map_some, Sem.run_bind, setObj, Sem.run, hw1, Result.andThen]
    rw [a1]
    rfl
theorem execOp_next {o : Oper} {it : Operand} {ev : Operand → Value} (hop : o.op = .next it false) : execOp ev o = (do pure (.value (← Instr.next (ev it) false o.type))) := by
  unfold execOp
  rw [hop]
section
variable {tb : Tab} {P : Program} {w0 : Base} (hT : TabOk tb P) (hF : FnOk tb P w0) {rc : Rec} (hR : RecOk P w0 rc) {r : Option Nat}
include hT hF hR
theorem next_goes {E : Env} {w : World} {o : Oper} {a : Act} {t : T V} {g : H} {nx : Nat} {it : Operand} {l : List (V × H)} (hop : o.op = .next it false) (h : nextOp it t g = some l) (ho : Ok w0 E g.get nx w) (ht : TR E t a.tmps) :
    Goes P r o a w fun x w' => ∃ p ∈ l, Left E g.get nx w p.1 p.2.get nx x w' := by
  have hd : ∀ c, o.op ≠ .defer c := by intro c hc; rw [hop] at hc; cases hc
  unfold nextOp at h
  split at h
  case h_2 => cases h
  rename_i rn hev
  split at h
  case h_2 => cases h
  rename_i m left last hgr
  split at h
  case h_2 => cases h
  rename_i es k hgm
  cases hk : Nat.beq k rn with
  | false => rw [hk] at h; cases h
  | true =>
    rw [hk, cond_true] at h
    obtain rfl := nbeq_true hk
    obtain ⟨i, hi, he⟩ := ev_ok ht ho.glob hev
    obtain ⟨i', hi', j, seen, hj, hw, ⟨ms, hms, hp⟩, hb, hpw, _⟩ := ho.rel.obj _ _ hgr
    rw [hi] at hi'; cases hi'
    obtain ⟨j', hj', i2, hi2, hwm, _⟩ := ho.rel.obj _ _ hgm
    rw [hj] at hj'; cases hj'
    rw [hi] at hi2; cases hi2
    obtain ⟨ib, isz, iu, es0, clock⟩ := i
    simp only at hw hp hb hpw hwm he
    obtain ⟨jb, jsz, ju, jsn⟩ := j
    simp only at hw hwm
    have hleft : (es0.filter fun e => !seen.contains e.born).toList = es0.toList.filter fun e => !seen.contains e.born := Array.toList_filter
    rw [← hleft] at hp
    have hgoes : ∀ (K : Value → World → Prop), ((es0.filter fun e => !seen.contains e.born).size = 0 → K (.tuple #[.bool false]) w) →
        (∀ e ∈ (es0.filter fun e => !seen.contains e.born).toList, ∀ w1 : World, w1.heap = w.heap → w1.tape = w.tape → w1.os = w.os → w1.output = w.output →
          K (.tuple #[.bool true, e.key, e.val]) { w1 with heap := w.heap.setIfInBounds ib (.mapIter (some jb) clock (seen.push e.born) clock) }) → Goes P r o a w K := by
      intro K h0 h1
      rcases next_run (P := P) w o.type ib jb clock seen es0 hw hwm hb with ⟨h2, h3⟩ | ⟨e, he1, w1, e1, e2, e3, e4, h3⟩
      · exact goes_value hd (by rw [execOp_next hop, he, Sem.run_bind, h3]; rfl) (h0 h2)
      · exact goes_value hd (by rw [execOp_next hop, he, Sem.run_bind, h3]; rfl) (h1 e he1 w1 e1 e2 e3 e4)
    refine hgoes _ ?_ ?_
    · intro h0
      have hL : (es0.filter fun e => !seen.contains e.born).toList = [] := by rw [Array.eq_empty_of_size_eq_zero h0]
      rw [hL] at hp
      have hms0 : ms = [] := List.perm_nil.1 hp
      subst hms0
      obtain ⟨la, lb, hab, hma, hlb, hmb⟩ := hms
      obtain ⟨ha0, hb0⟩ := List.append_eq_nil_iff.1 hab.symm
      subst ha0 hb0
      obtain ⟨must, may, kk⟩ := left
      simp only [List.length_nil] at hlb hma
      subst hlb
      cases must with
      | cons x xs => obtain ⟨_, _, hx, _⟩ := hma; cases hx
      | nil =>
        simp only [Option.some.injEq] at h
        subst h
        exact ⟨_, List.mem_singleton.2 rfl, E, ⟨[.bool false], ⟨_, _, rfl, rfl, rfl⟩, rfl⟩, Step.refl ho.rel ho.fresh⟩
    · intro e he1 w1 e1 e2 e3 e4
      obtain ⟨n, hn⟩ := List.mem_iff_getElem?.1 (hp.mem_iff.2 he1)
      have he2 : e ∈ es0.toList := by rw [hleft] at he1; exact (List.mem_filter.1 he1).1
      have hway : ∃ p left', (.tup [.bool true, p.1, p.2], g.set k (.iter m left' (some p))) ∈ l ∧ VR E p.1 e.key ∧ VR E p.2 e.val ∧ LftR E left' (ms.eraseIdx n) := by
        obtain ⟨la, lb, hab, hma, hlb, hmb⟩ := hms
        obtain ⟨must, may, kk⟩ := left
        simp only at hma hlb hmb h
        rcases Nat.lt_or_ge n la.length with hlt | hge
        · have hn' : la[n]? = some e := by rw [hab, List.getElem?_append_left hlt] at hn; exact hn
          obtain ⟨p, hp1, hpk, hpv, hent⟩ := EntR.get hma hn'
          have hmem := without_mem must [] n p hp1
          simp only [List.nil_append] at hmem
          refine ⟨p, ⟨must.eraseIdx n, may, kk⟩, ?_, hpk, hpv, la.eraseIdx n, lb, ?_, hent, hlb, hmb⟩
          · cases must with
            | nil => simp at hp1
            | cons x xs =>
              simp only [Option.some.injEq] at h
              subst h
              exact List.mem_append_left _ (List.mem_map.2 ⟨_, hmem, rfl⟩)
          · rw [hab, List.eraseIdx_append_of_lt_length hlt]
        · have hn' : lb[n - la.length]? = some e := by rw [hab, List.getElem?_append_right hge] at hn; exact hn
          have hlt := (List.getElem?_eq_some_iff.1 hn').1
          obtain ⟨p, hp1, hpk, hpv⟩ := hmb e (List.mem_of_getElem? hn')
          cases kk with
          | zero => omega
          | succ kk =>
            refine ⟨p, ⟨must, may, kk⟩, ?_, hpk, hpv, la, lb.eraseIdx (n - la.length), ?_, hma, ?_, fun y hy => hmb y (List.mem_of_mem_eraseIdx hy)⟩
            · have hin : (.tup [.bool true, p.1, p.2], g.set k (.iter m ⟨must, may, kk⟩ (some p))) ∈ (may.map fun e => ((V.tup [.bool true, e.1, e.2], g.set k (.iter m ⟨must, may, kk⟩ (some e))) : V × H)) := List.mem_map.2 ⟨p, hp1, rfl⟩
              cases must <;> (simp only [Option.some.injEq] at h; subst h; exact List.mem_append_right _ hin)
            · rw [hab, List.eraseIdx_append_of_length_le hge]
            · rw [List.length_eraseIdx_of_lt hlt, hlb]; rfl
      obtain ⟨p, left', hmem, hpk, hpv, hent⟩ := hway
      refine ⟨_, hmem, E, ⟨[.bool true, e.key, e.val], ⟨_, _, rfl, rfl, _, _, rfl, hpk, _, _, rfl, hpv, rfl⟩, rfl⟩, ?_⟩
      have hsz : ib < w.heap.size := (Array.getElem?_eq_some_iff.1 hw).1
      simp only [get_set_upd]
      refine Step.write ho.rel ho.fresh hgr hi ⟨e2, e3, e4, by simp⟩ (fun b hb' => ?_) ?_
      · simp only
        rw [Array.getElem?_setIfInBounds_ne (fun hh => hb' hh.symm)]
      · refine ⟨⟨jb, jsz, ju, jsn⟩, seen.push e.born, hj, by simp [hsz], ⟨_, hent, ?_⟩, hb, hpw, ?_⟩
        · have hpms : ms.Pairwise fun a b => a.born ≠ b.born := by
            refine (List.Perm.pairwise_iff (fun h => Ne.symm h) hp).2 ?_
            rw [hleft]
            exact List.Pairwise.sublist List.filter_sublist hpw
          rw [erase_born ms n e hpms hn]
          refine (hp.filter _).trans ?_
          rw [hleft, List.filter_filter]
          refine List.Perm.of_eq (List.filter_congr fun x _ => ?_)
          by_cases h8 : x.born = e.born <;> by_cases h9 : x.born ∈ seen <;> simp [Array.contains_push, h8, h9, bne]
          all_goals first | (rw [← h8]; exact h9) | skip
        · intro q hq
          cases hq
          exact ⟨e, he2, by simp, hpk, hpv⟩
theorem stepOp_ok {ops : Array Oper} {o : Oper} {s : S} {l : List S} {a : Act} {w : World} {E : Env} {N : Nat} (h : stepOp tb rc ops o s = some l) (ho : Ok w0 E s.h.get s.nx w) (ht : TR E s.t a.tmps) (hm : MR E s.m a.defers) (hN : a.tmps.size = N)
    (hd : ∀ k, o.dst = some k → k < N) (next : Act → World → Prop) (Q : Exit → Act → World → Prop) (hn : ∀ s' ∈ l, ∀ E' a' w', At E s.h.get s.nx w N E' s' a' w' → next a' w') :
    if Region.wanted o (yielded ops a.tmps) then o.wpIn (FR r) 0 P a w next Q else (∀ f, o.about P w a.eval = some f → (FR r).fn f) ∧ next (a.put o.dst undef) w := by
  have hdst : ∀ k, o.dst = some k → k < a.tmps.size := by rw [hN]; exact hd
  unfold stepOp at h
  split at h
  · cases h
  ·
    rename_i hw
    rw [wanted_ok hw ht]
    cases h
    refine ⟨fun _ _ => trivial, hn _ (List.mem_singleton.2 rfl) E _ w ⟨Step.refl ho.rel ho.fresh, ht.put (undef_VR E) hdst, by rw [put_defers]; exact hm, by rw [put_tmps_size, hN]⟩⟩
  · rename_i hw
    rw [wanted_ok hw ht, if_pos rfl]
    have fin : ∀ {v : V} {g' : H} {nx' : Nat} {x : Value} {w' : World}, { s with t := setDst s.t o.dst v, h := g', nx := nx' } ∈ l → Left E s.h.get s.nx w v g'.get nx' x w' → next (a.put o.dst x) w' := by
      rintro v g' nx' x w' hmem ⟨E', hv, hs⟩
      exact hn _ hmem E' _ w' ⟨hs, (ht.mono hs.le).put hv hdst, by rw [put_defers]; exact hm.mono hs.le, by rw [put_tmps_size, hN]⟩
    split at h
    ·
      rename_i it hop
      cases h1 : nextOp it s.t s.h with
      | none => simp [h1] at h
      | some ps =>
        simp only [h1, Option.map_some, Option.some.injEq] at h
        subst h
        refine next_goes hT hF hR hop h1 ho ht next Q ?_
        rintro x w' ⟨p, hp, hl⟩
        exact fin (List.mem_map.2 ⟨p, hp, rfl⟩) hl
    · split at h
      all_goals rename_i hcls
      ·
        cases h1 : quiet tb o.op o.type s.t s.h with
        | none => simp [h1] at h
        | some v =>
          simp only [h1, Option.map_some, Option.some.injEq] at h
          subst h
          haveI := hF.syms_of ho
          obtain ⟨x, hx, hv⟩ := quiet_ok hT o h1 ht ho.glob (hF.globs ho) ho.rel
          refine goes_value ?_ hx ⟨E, hv, Step.refl ho.rel ho.fresh⟩ next Q fun x w' hl => fin (List.mem_singleton.2 rfl) hl
          intro c hc; rw [hc] at h1; simp [quiet] at h1
      · cases h1 : quiet tb o.op o.type s.t s.h with
        | none => simp [h1] at h
        | some v =>
          simp only [h1, Option.map_some, Option.some.injEq] at h
          subst h
          haveI := hF.syms_of ho
          obtain ⟨x, hx, hv⟩ := quiet_ok hT o h1 ht ho.glob (hF.globs ho) ho.rel
          refine goes_value ?_ hx ⟨E, hv, Step.refl ho.rel ho.fresh⟩ next Q fun x w' hl => fin (List.mem_singleton.2 rfl) hl
          intro c hc; rw [hc] at h1; simp [quiet] at h1
      · cases h1 : makes tb o.op s.t with
        | none => simp [h1] at h
        | some p =>
          obtain ⟨ob, mk⟩ := p
          simp only [h1, Option.map_some, Option.some.injEq] at h
          subst h
          have hν := ho.fresh s.nx (Nat.le_refl _)
          obtain ⟨x, w', hx, i, rob, hw', hgr, hi, hob, hv⟩ := makes_ok (w := w) hT o h1 ht ho.glob hν
          refine goes_value (K := Left E s.h.get s.nx w (mk s.nx) (s.h.set s.nx ob).get (s.nx + 1)) ?_ hx ⟨E.add s.nx i, hv, ?_⟩ next Q fun x w' hl => fin (List.mem_singleton.2 rfl) hl
          · intro c hc; rw [hc] at h1; simp [makes] at h1
          · rw [get_set_upd]; exact Step.alloc ho.rel ho.fresh hi hw' hgr hob
      · cases h1 : eff tb rc o.op o.type s.t s.h s.nx with
        | none => simp [h1] at h
        | some p =>
          obtain ⟨v, g', nx'⟩ := p
          simp only [h1, Option.map_some, Option.some.injEq] at h
          subst h
          exact eff_goes hT hF hR h1 ho ht next Q fun x w' hl => fin (List.mem_singleton.2 rfl) hl
omit hT hF hR in
theorem eachL_mem {α β : Type} {f : α → Option (List β)} : ∀ {l : List α} {r : List β}, eachL f l = some r → ∀ x ∈ l, ∃ ys, f x = some ys ∧ ∀ y ∈ ys, y ∈ r := by
  intro l
  induction l with
  | nil => intro r _ x hx; cases hx
  | cons y l ih =>
    intro r h x hx
    simp only [eachL] at h
    cases h1 : f y with
    | none => simp [h1] at h
    | some ys =>
      simp only [h1] at h
      cases l with
      | nil =>
        simp at h
        subst h
        rcases List.mem_cons.1 hx with rfl | hx
        · exact ⟨ys, h1, fun z hz => hz⟩
        · cases hx
      | cons z l =>
        simp only at h
        cases h2 : eachL f (z :: l) with
        | none => simp [h2] at h
        | some zs =>
          simp [h2] at h
          subst h
          rcases List.mem_cons.1 hx with rfl | hx
          · exact ⟨ys, h1, fun u hu => List.mem_append.2 (.inl hu)⟩
          · obtain ⟨us, hu1, hu2⟩ := ih h2 x hx
            exact ⟨us, hu1, fun u hu => List.mem_append.2 (.inr (hu2 u hu))⟩
theorem runOps_ok {ops : Array Oper} {N : Nat} : ∀ (os : List Oper) (i : Nat) {s : S} {l : List S} {a : Act} {w : World} {E : Env}, os = ops.toList.drop i → runOps tb rc ops os s = some l → Ok w0 E s.h.get s.nx w → TR E s.t a.tmps → MR E s.m a.defers → a.tmps.size = N →
    (∀ o ∈ os, ∀ k, o.dst = some k → k < N) → ∀ (Q : Exit → Act → World → Prop), (∀ s' ∈ l, ∀ E' a' w', At E s.h.get s.nx w N E' s' a' w' → Q .normal a' w') → wpOpsIn (FR r) 0 P ops Q (List.range' i os.length) a w := by
  intro os
  induction os with
  | nil =>
    intro i s l a w E _ h ho ht hm hN _ Q hQ
    simp [runOps] at h
    subst h
    exact hQ s (List.mem_singleton.2 rfl) E a w ⟨Step.refl ho.rel ho.fresh, ht, hm, hN⟩
  | cons o os ih =>
    intro i s l a w E hos h ho ht hm hN hd Q hQ
    have hi : ops[i]? = some o := by
      have : (ops.toList.drop i)[0]? = some o := by rw [← hos]; rfl
      rw [List.getElem?_drop] at this
      simpa using this
    have hos' : os = ops.toList.drop (i + 1) := by rw [← List.drop_drop, ← hos]; rfl
    simp only [List.length_cons, List.range'_succ, wpOpsIn, hi]
    simp only [runOps] at h
    cases h1 : stepOp tb rc ops o s with
    | none => simp [h1] at h
    | some l1 =>
      have key : ∀ s1 ∈ l1, ∃ l2, runOps tb rc ops os s1 = some l2 ∧ ∀ x ∈ l2, x ∈ l := by
        rw [h1] at h
        cases l1 with
        | nil => intro s1 hs1; cases hs1
        | cons x xs =>
          cases xs with
          | nil =>
            simp only at h
            intro s1 hs1
            rw [List.mem_singleton] at hs1
            subst hs1
            exact ⟨l, h, fun x hx => hx⟩
          | cons y ys =>
            simp only at h
            exact eachL_mem h
      refine stepOp_ok hT hF hR h1 ho ht hm hN (fun k hk => hd o (List.mem_cons_self ..) k hk) _ Q ?_
      intro s1 hs1 E1 a1 w1 hat
      obtain ⟨l2, h2, hsub⟩ := key s1 hs1
      refine ih (i + 1) hos' h2 (ho.step hat.step) hat.tr hat.marks hat.size (fun o' ho' => hd o' (List.mem_cons_of_mem _ ho')) Q ?_
      intro s2 hs2 E2 a2 w2 hat2
      exact hQ s2 (hsub s2 hs2) E2 a2 w2 ⟨hat.step.trans hat2.step, hat2.tr, hat2.marks, hat2.size⟩
end
end Ev
namespace Ev
open Go
theorem S.eq_eq {a b : S} (h : S.eq a b = true) : a = b := by
  simp only [S.eq, Bool.and_eq_true] at h
  obtain ⟨⟨⟨h1, h2⟩, h3⟩, h4⟩ := h
  cases a; cases b
  simp only at h1 h2 h3 h4
  rw [nbeq_true h1, natsEq_eq h2, T.eqBy_eq V.eq_eq _ _ h3, T.eqBy_eq O.eq_eq _ _ h4]
theorem dedup_mem {α : Type} {f : α → α → Bool} (hf : ∀ a b, f a b = true → a = b) : ∀ (l : List α) (x : α), x ∈ l → x ∈ dedup f l
  | [], x, h => by cases h
  | [y], x, h => h
  | y :: z :: l, x, h => by
    simp only [dedup]
    have ih := dedup_mem hf (z :: l)
    cases hb : (dedup f (z :: l)).any (f y) with
    | true =>
      rw [cond_true]
      rcases List.mem_cons.1 h with rfl | h
      · obtain ⟨u, hu, he⟩ := List.any_eq_true.1 hb
        rw [hf _ _ he]; exact hu
      · exact ih x h
    | false =>
      rw [cond_false]
      rcases List.mem_cons.1 h with rfl | h
      · exact List.mem_cons_self ..
      · exact List.mem_cons_of_mem _ (ih x h)
end Ev
