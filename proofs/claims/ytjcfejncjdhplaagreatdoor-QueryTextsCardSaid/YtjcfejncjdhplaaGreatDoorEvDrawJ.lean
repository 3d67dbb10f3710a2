/-
  The abstract evaluator, drawn regions: every order leads to the end that the plan's run has seen.
-/
import Derived.Test.YtjcfejncjdhplaaGreatDoorEvSame
import Derived.OrdersIn
set_option linter.unusedSectionVars false
set_option linter.unusedVariables false
set_option linter.unusedSimpArgs false
namespace Ev
open Go
def Closed (ops : Array Oper) (S : Nat → Prop) : Prop := ∀ j o, ops[j]? = some o → S j → ∀ e ∈ o.after.toList, Region.binds .any e = true → S e.on
theorem befOf_bit {S : Nat → Prop} {acc : T Nat} (hacc : ∀ j x, bitOf acc j x = true → S j → S x) : ∀ (es : List Edge), (∀ e ∈ es, Region.binds .any e = true → S e.on) → ∀ x, (befOf acc es).testBit x = true → S x
  | [], _, x, h => by simp [befOf] at h
  | e :: es, he, x, h => by
    simp only [befOf] at h
    have ih := befOf_bit hacc es fun e' h' => he e' (List.mem_cons_of_mem _ h')
    cases hb : Region.binds .any e with
    | false => rw [hb, cond_false] at h; exact ih x h
    | true =>
      rw [hb, cond_true] at h
      have hS := he e (List.mem_cons_self ..) hb
      have h' : ((1 <<< e.on ||| (acc.get e.on).getD 0) ||| befOf acc es).testBit x = true := h
      rw [Nat.testBit_or, Nat.testBit_or, Bool.or_eq_true, Bool.or_eq_true] at h'
      rcases h' with (h' | h') | h'
      · rw [Nat.one_shiftLeft, Nat.testBit_two_pow] at h'
        have : e.on = x := by simpa using h'
        rw [← this]; exact hS
      · exact hacc e.on x h' hS
      · exact ih x h'
theorem befs_ok {S : Nat → Prop} : ∀ (os : List Oper) (i : Nat) (acc : T Nat), (∀ m o, os[m]? = some o → S (i + m) → ∀ e ∈ o.after.toList, Region.binds .any e = true → S e.on) → (∀ j x, bitOf acc j x = true → S j → S x) →
    ∀ j x, bitOf (befs os i acc) j x = true → S j → S x
  | [], _, _, _, hacc => hacc
  | o :: os, i, acc, hs, hacc => by
    simp only [befs]
    refine befs_ok os (i + 1) _ (fun m o' hm hS => hs (m + 1) o' hm (by rw [show i + (m + 1) = i + 1 + m by omega]; exact hS)) ?_
    intro j x hb hS
    unfold bitOf at hb
    rw [T.get_set] at hb
    by_cases hj : j = i
    · subst hj
      simp only [if_true, Option.getD_some] at hb
      exact befOf_bit hacc _ (hs 0 o rfl hS) x hb
    · simp only [if_neg hj] at hb
      exact hacc j x hb hS
theorem before_ok {ops : Array Oper} {S : Nat → Prop} (hc : Closed ops S) {j x : Nat} (h : bitOf (befs ops.toList 0 .e) j x = true) (hj : S j) : S x := by
  refine befs_ok ops.toList 0 .e (fun m o hm hS => hc m o (by simpa using hm) (by simpa using hS)) ?_ j x h hj
  intro j x h
  simp [bitOf, T.get_e] at h
theorem rowsOk_get {ops : Array Oper} {b w : T Nat} {c : List Nat} : ∀ {rs : List Row} {i : Nat}, rowsOk ops b w c i rs = true → ∀ m r, rs[m]? = some r → rowOk ops b w c (i + m) r = true
  | [], _, _, m, r, h => by cases h
  | x :: rs, i, hk, m, r, h => by
    simp only [rowsOk, Bool.and_eq_true] at hk
    cases m with
    | zero => cases h; exact hk.1
    | succ m => rw [show i + (m + 1) = i + 1 + m by omega]; exact rowsOk_get hk.2 m r h
theorem rowsOf_get {tb : Tab} {b : T Nat} {c : List Nat} : ∀ (os : List Oper) (i m : Nat), (rowsOf tb b c os i)[m]? = (os[m]?).map fun o => rowOf tb b c o (i + m)
  | [], _, _ => rfl
  | o :: os, i, m => by
    cases m with
    | zero => rfl
    | succ m => simp only [rowsOf, List.getElem?_cons_succ]; rw [rowsOf_get os (i + 1) m, show i + (m + 1) = i + 1 + m by omega]
theorem rowOf_o {tb : Tab} {b : T Nat} {c : List Nat} {o : Oper} {i : Nat} : (rowOf tb b c o i).o = o := by unfold rowOf; split <;> rfl
theorem rowOf_i {tb : Tab} {b : T Nat} {c : List Nat} {o : Oper} {i : Nat} : (rowOf tb b c o i).i = i ∧ (rowOf tb b c o i).bef = (b.get i).getD 0 := by unfold rowOf; split <;> exact ⟨rfl, rfl⟩
theorem rowOf_cls {tb : Tab} {b : T Nat} {c : List Nat} {o : Oper} {i : Nat} : (rowOf tb b c o i).cls = cls tb o.op := by unfold rowOf; split <;> simp_all
theorem tmpOk_get {b w : T Nat} {j : Nat} : ∀ {ks : List Nat}, tmpOk b w j ks = true → ∀ k ∈ ks, ∀ i, w.get k = some i → i = j ∨ bitOf b j i = true ∨ bitOf b i j = true
  | [], _, k, hk, _, _ => by cases hk
  | x :: ks, h, k, hk, i, hi => by
    simp only [tmpOk, Bool.and_eq_true] at h
    rcases List.mem_cons.1 hk with rfl | hk
    · have h1 := h.1
      simp only [hi, Bool.or_eq_true] at h1
      rcases h1 with (h1 | h1) | h1
      · exact .inl (nbeq_true h1)
      · exact .inr (.inl h1)
      · exact .inr (.inr h1)
    · exact tmpOk_get h.2 k hk i hi
theorem edgesOk_get {j : Nat} : ∀ {es : List Edge}, edgesOk j es = true → ∀ e ∈ es, Region.binds .any e = true → e.on < j
  | [], _, e, he, _ => by cases he
  | x :: es, h, e, he, hb => by
    simp only [edgesOk, Bool.and_eq_true] at h
    rcases List.mem_cons.1 he with rfl | he
    · have h1 := h.1; rw [hb, cond_true] at h1; exact nblt_lt h1
    · exact edgesOk_get h.2 e he hb
theorem chainOk_get {b : T Nat} : ∀ {c : List Nat}, chainOk b c = true → ∀ m x y, c[m]? = some x → c[m + 1]? = some y → bitOf b y x = true
  | [], _, m, x, y, h, _ => by cases h
  | z :: c, h, m, x, y, hx, hy => by
    simp only [chainOk, Bool.and_eq_true] at h
    cases m with
    | zero =>
      cases hx
      cases c with
      | nil => cases hy
      | cons u c => cases hy; exact h.1
    | succ m => exact chainOk_get h.2 m x y hx hy
theorem chainOf_mem {tb : Tab} : ∀ (os : List Oper) (i : Nat) (x : Nat), x ∈ chainOf tb os i → ∃ m o, x = i + m ∧ os[m]? = some o ∧ cls tb o.op = .chain
  | [], _, x, h => by cases h
  | o :: os, i, x, h => by
    simp only [chainOf] at h
    have tail : x ∈ chainOf tb os (i + 1) → ∃ m o', x = i + m ∧ (o :: os)[m]? = some o' ∧ cls tb o'.op = .chain := fun h => by
      obtain ⟨m, o', e, hm, hc⟩ := chainOf_mem os (i + 1) x h
      exact ⟨m + 1, o', by omega, hm, hc⟩
    split at h
    · rename_i hc
      rcases List.mem_cons.1 h with rfl | h
      · exact ⟨0, o, rfl, rfl, hc⟩
      · exact tail h
    · exact tail h
theorem chainOf_lt {tb : Tab} : ∀ (os : List Oper) (i : Nat), (chainOf tb os i).Pairwise (· < ·)
  | [], _ => List.Pairwise.nil
  | o :: os, i => by
    simp only [chainOf]
    split
    · refine List.Pairwise.cons (fun x hx => ?_) (chainOf_lt os (i + 1))
      obtain ⟨m, _, e, _⟩ := chainOf_mem os (i + 1) x hx
      omega
    · exact chainOf_lt os (i + 1)
theorem pairwise_inj {c : List Nat} (h : c.Pairwise (· < ·)) {m n x : Nat} (hm : c[m]? = some x) (hn : c[n]? = some x) : m = n := by
  obtain ⟨hm1, hm2⟩ := List.getElem?_eq_some_iff.1 hm
  obtain ⟨hn1, hn2⟩ := List.getElem?_eq_some_iff.1 hn
  rw [List.pairwise_iff_getElem] at h
  rcases Nat.lt_trichotomy m n with hl | he | hl
  · have := h m n hm1 hn1 hl; omega
  · exact he
  · have := h n m hn1 hm1 hl; omega
theorem runD_states {tb : Tab} {rc : Rec} {ops : Array Oper} : ∀ (rs : List Row) (d d' : D), runD tb rc ops rs d = some d' → ∃ f : Nat → D, f 0 = d ∧ f rs.length = d' ∧ ∀ m r, rs[m]? = some r → stepD tb rc ops r (f m) = some (f (m + 1))
  | [], d, d', h => by
    simp [runD] at h; subst h
    exact ⟨fun _ => d, rfl, rfl, fun m r hm => by cases hm⟩
  | x :: rs, d, d', h => by
    simp only [runD] at h
    cases h1 : stepD tb rc ops x d with
    | none => simp [h1] at h
    | some d1 =>
      simp only [h1] at h
      obtain ⟨f, h0, hl, hs⟩ := runD_states rs d1 d' h
      refine ⟨fun m => match m with | 0 => d | m + 1 => f m, rfl, hl, fun m r hm => ?_⟩
      cases m with
      | zero => cases hm; simpa [h0] using h1
      | succ m => exact hs m r hm
end Ev
namespace Ev
open Go
inductive DStep (tb : Tab) (rc : Rec) (ops : Array Oper) (x : Row) (d d' : D) : Prop
  | skip (hc : x.cls = .pure ∨ x.cls = .read) (hw : wanted ops x.o d.t = some false) (e : d' = { d with t := setDst d.t x.o.dst undefV })
  | pure (hc : x.cls = .pure) (hw : wanted ops x.o d.t = some true) (v : V) (hq : quiet tb x.o.op x.o.type d.t .e = some v) (e : d' = { d with t := setDst d.t x.o.dst v })
  | read (hc : x.cls = .read) (hw : wanted ops x.o d.t = some true) (v : V) (hq : quiet tb x.o.op x.o.type d.t d.cur = some v) (hp : pastOk tb x.o d.t v (d.k - x.lo) d.past = true)
      (e : d' = { d with t := setDst d.t x.o.dst v, active := (x.o, d.t, v, x.hi) :: d.active })
  | readP (hc : x.cls = .read) (hw : wanted ops x.o d.t = some true) (v : V) (hq : quiet tb x.o.op x.o.type d.t (attachAll (pendFor x d) .e) = some v) (e : d' = { d with t := setDst d.t x.o.dst v })
  | makeSkip (hc : x.cls = .make) (hw : wanted ops x.o d.t = some false) (e : d' = { d with t := setDst d.t x.o.dst undefV, mx := d.mx + 1 })
  | make (hc : x.cls = .make) (hw : wanted ops x.o d.t = some true) (hk : d.k ≤ x.hi) (y : O) (mk : Nat → V) (hm : makes tb x.o.op d.t = some (y, mk))
      (e : d' = { d with t := setDst d.t x.o.dst (mk d.mx), mx := d.mx + 1, pend := (x.hi + 1, d.mx, y) :: d.pend, ix := (d.mx, x.i) :: d.ix })
  | chain (hc : x.cls = .chain) (b : Bool) (hw : wanted ops x.o d.t = some b) (hk : d.k = x.lo) (v : V) (h : H) (nx : Nat)
      (he : cond b (eff tb rc x.o.op x.o.type d.t (attach (d.k + 1) d.pend d.cur) d.nx) (some (undefV, attach (d.k + 1) d.pend d.cur, d.nx)) = some (v, h, nx)) (ha : activeOk tb (d.k + 1) h d.active = true)
      (e : d' = { d with t := setDst d.t x.o.dst v, cur := h, nx := nx, k := d.k + 1, past := (d.cur, d.nx) :: d.past, pend := dropAt (d.k + 1) d.pend })
theorem stepD_spec {tb : Tab} {rc : Rec} {ops : Array Oper} {x : Row} {d d' : D} (h : stepD tb rc ops x d = some d') : DStep tb rc ops x d d' := by
  unfold stepD at h
  split at h
  · cases h
  · rename_i w hw
    split at h
    · rename_i hc
      cases w with
      | false => simp at h; exact .skip (.inl hc) hw h.symm
      | true =>
        cases hq : quiet tb x.o.op x.o.type d.t .e with
        | none => simp [hq] at h
        | some v => simp [hq] at h; exact .pure hc hw v hq h.symm
    · rename_i hc
      cases w with
      | false => simp at h; exact .skip (.inr hc) hw h.symm
      | true =>
        simp only [cond_true] at h
        split at h
        · rename_i d1 h1
          cases h
          unfold readCur at h1
          split at h1
          · cases h1
          · rename_i v hq
            cases hp : pastOk tb x.o d.t v (d.k - x.lo) d.past with
            | false => rw [hp] at h1; cases h1
            | true => rw [hp, cond_true] at h1; cases h1; exact .read hc hw v hq hp rfl
        · unfold readPend at h
          cases hq : quiet tb x.o.op x.o.type d.t (attachAll (pendFor x d) .e) with
          | none => rw [hq] at h; cases h
          | some v => rw [hq] at h; cases h; exact .readP hc hw v hq rfl
    · rename_i hc
      cases w with
      | false => simp at h; exact .makeSkip hc hw h.symm
      | true =>
        cases hk : Nat.ble d.k x.hi with
        | false => simp only [hk, cond_true, cond_false] at h; cases h
        | true =>
          cases hm : makes tb x.o.op d.t with
          | none => simp [hk, hm] at h
          | some p => simp only [hk, hm, cond_true, Option.map_some, Option.some.injEq] at h; exact .make hc hw (nble_le hk) p.1 p.2 hm h.symm
    · rename_i hc
      cases hk : Nat.beq d.k x.lo with
      | false => simp only [hk, cond_false] at h; cases h
      | true =>
        simp only [hk, cond_true] at h
        split at h
        · cases h
        · rename_i v g nx he
          cases ha : activeOk tb (d.k + 1) g d.active with
          | false => simp [ha] at h
          | true => simp only [ha, cond_true, Option.some.injEq] at h; exact .chain hc w hw (nbeq_true hk) v g nx he ha h.symm
def hist (d : D) : List (H × Nat) := d.past.reverse ++ [(d.cur, d.nx)]
theorem DStep.hist {tb : Tab} {rc : Rec} {ops : Array Oper} {x : Row} {d d' : D} (h : DStep tb rc ops x d d') : hist d <+: Ev.hist d' := by
  cases h with
  | chain hc b hw hk v h nx he ha e => subst e; exact ⟨[(h, nx)], by simp [Ev.hist]⟩
  | _ => rename_i e; subst e; exact List.prefix_rfl
theorem DStep.len {tb : Tab} {rc : Rec} {ops : Array Oper} {x : Row} {d d' : D} (h : DStep tb rc ops x d d') (hl : d.past.length = d.k) : d'.past.length = d'.k := by
  cases h with
  | chain hc b hw hk v h nx he ha e => subst e; simp [hl]
  | _ => rename_i e; subst e; exact hl
theorem DStep.mxmono {tb : Tab} {rc : Rec} {ops : Array Oper} {x : Row} {d d' : D} (h : DStep tb rc ops x d d') : d.mx ≤ d'.mx := by
  cases h with
  | make hc hw hk y mk hm e => subst e; simp
  | makeSkip hc hw e => subst e; simp
  | _ => rename_i e; subst e; exact Nat.le_refl _
theorem DStep.active {tb : Tab} {rc : Rec} {ops : Array Oper} {x : Row} {d d' : D} (h : DStep tb rc ops x d d') {q : Oper × T V × V × Nat} (hq : q ∈ d.active) : q ∈ d'.active := by
  cases h with
  | read hc hw v hq' hp e => subst e; exact List.mem_cons_of_mem _ hq
  | _ => rename_i e; subst e; exact hq
theorem sameV_eq {u : Option V} {v : V} (h : sameV u v = true) : u = some v := by
  unfold sameV at h
  split at h
  · rename_i u; rw [V.eq_eq _ _ h]
  · cases h
theorem activeOk_get {tb : Tab} {k : Nat} {h : H} : ∀ {l : List (Oper × T V × V × Nat)}, activeOk tb k h l = true → ∀ o t v hi, (o, t, v, hi) ∈ l → k ≤ hi → quiet tb o.op o.type t h = some v
  | [], _, _, _, _, _, hm, _ => by cases hm
  | (o', t', v', hi') :: l, ha, o, t, v, hi, hm, hk => by
    simp only [activeOk, Bool.and_eq_true] at ha
    rcases List.mem_cons.1 hm with e | hm
    · cases e
      have h1 := ha.1
      rw [Nat.ble_eq_true_of_le hk, cond_true] at h1
      exact sameV_eq h1
    · exact activeOk_get ha.2 o t v hi hm hk
theorem pastOk_get {tb : Tab} {o : Oper} {t : T V} {v : V} : ∀ {n : Nat} {l : List (H × Nat)}, pastOk tb o t v n l = true → ∀ j p, j < n → l[j]? = some p → quiet tb o.op o.type t p.1 = some v
  | 0, _, _, j, p, hj, _ => absurd hj (Nat.not_lt_zero _)
  | _ + 1, [], h, _, _, _, _ => by simp [pastOk] at h
  | n + 1, x :: l, h, j, p, hj, hp => by
    simp only [pastOk, Bool.and_eq_true] at h
    cases j with
    | zero => cases hp; exact sameV_eq h.1
    | succ j => exact pastOk_get h.2 j p (by omega) hp
theorem dropAt_mem {k : Nat} : ∀ {l : List (Nat × Nat × O)} {p : Nat × Nat × O}, p ∈ dropAt k l → p ∈ l ∧ p.1 ≠ k
  | [], _, h => by cases h
  | x :: l, p, h => by
    simp only [dropAt] at h
    cases hb : Nat.beq x.1 k with
    | true => rw [hb, cond_true] at h; exact ⟨List.mem_cons_of_mem _ (dropAt_mem h).1, (dropAt_mem h).2⟩
    | false =>
      rw [hb, cond_false] at h
      rcases List.mem_cons.1 h with rfl | h
      · exact ⟨List.mem_cons_self .., fun e => by rw [e, Nat.beq_refl] at hb; cases hb⟩
      · exact ⟨List.mem_cons_of_mem _ (dropAt_mem h).1, (dropAt_mem h).2⟩
theorem attach_get {k : Nat} : ∀ {l : List (Nat × Nat × O)} {h : H} {n : Nat} {o : O}, (attach k l h).get n = some o → h.get n = some o ∨ (k, n, o) ∈ l
  | [], h, n, o, hn => .inl hn
  | (a, m, y) :: l, h, n, o, hn => by
    simp only [attach] at hn
    rcases attach_get hn with h1 | h1
    · cases hb : Nat.beq a k with
      | false => rw [hb, cond_false] at h1; exact .inl h1
      | true =>
        rw [hb, cond_true, T.get_set] at h1
        by_cases he : n = m
        · simp only [he, if_true, Option.some.injEq] at h1
          subst he; subst h1; rw [nbeq_true hb]
          exact .inr (List.mem_cons_self ..)
        · simp only [if_neg he] at h1; exact .inl h1
    · exact .inr (List.mem_cons_of_mem _ h1)
theorem attachAll_get : ∀ {l : List (Nat × Nat × O)} {h : H} {n : Nat} {o : O}, (attachAll l h).get n = some o → h.get n = some o ∨ ∃ a, (a, n, o) ∈ l
  | [], h, n, o, hn => .inl hn
  | (a, m, y) :: l, h, n, o, hn => by
    simp only [attachAll] at hn
    rcases attachAll_get hn with h1 | ⟨a', h1⟩
    · rw [T.get_set] at h1
      by_cases he : n = m
      · simp only [he, if_true, Option.some.injEq] at h1
        subst he; subst h1
        exact .inr ⟨a, List.mem_cons_self ..⟩
      · simp only [if_neg he] at h1; exact .inl h1
    · exact .inr ⟨a', List.mem_cons_of_mem _ h1⟩
end Ev
namespace Ev
open Go
structure Run (tb : Tab) (rc : Rec) (ops : Array Oper) (rs : List Row) (f : Nat → D) : Prop where
  step : ∀ m r, rs[m]? = some r → DStep tb rc ops r (f m) (f (m + 1))
  k0 : (f 0).k = 0
  past0 : (f 0).past = []
  pend0 : (f 0).pend = []
  ix0 : (f 0).ix = []
  num : ∀ (m : Nat) (r : Row), rs[m]? = some r → r.i = m
section
variable {tb : Tab} {rc : Rec} {ops : Array Oper} {rs : List Row} {f : Nat → D} (R : Run tb rc ops rs f)
include R
omit R in
theorem up_ {α : Nat → Prop} (m : Nat) (h0 : α m) (hs : ∀ j r, m ≤ j → rs[j]? = some r → α j → α (j + 1)) : ∀ n, m ≤ n → n ≤ rs.length → α n := by
  intro n hmn hn
  induction n with
  | zero =>
    have : m = 0 := by omega
    subst this; exact h0
  | succ n ih =>
    by_cases h : m = n + 1
    · subst h; exact h0
    · obtain ⟨r, hr⟩ : ∃ r, rs[n]? = some r := ⟨rs[n]'(by omega), List.getElem?_eq_getElem _⟩
      exact hs n r (by omega) hr (ih (by omega) (by omega))
theorem Run.len (m : Nat) (hm : m ≤ rs.length) : (f m).past.length = (f m).k :=
  up_ (rs := rs) (α := fun m => (f m).past.length = (f m).k) 0 (by rw [R.past0, R.k0]; rfl) (fun j r _ hr h => (R.step j r hr).len h) m (Nat.zero_le _) hm
theorem Run.hist {m n : Nat} (hmn : m ≤ n) (hn : n ≤ rs.length) : Ev.hist (f m) <+: Ev.hist (f n) :=
  up_ (rs := rs) (α := fun n => Ev.hist (f m) <+: Ev.hist (f n)) m List.prefix_rfl (fun j r _ hr h => h.trans (R.step j r hr).hist) n hmn hn
theorem Run.mxmono {m n : Nat} (hmn : m ≤ n) (hn : n ≤ rs.length) : (f m).mx ≤ (f n).mx :=
  up_ (rs := rs) (α := fun n => (f m).mx ≤ (f n).mx) m (Nat.le_refl _) (fun j r _ hr h => Nat.le_trans h (R.step j r hr).mxmono) n hmn hn
theorem Run.at_ (m : Nat) (hm : m ≤ rs.length) : (Ev.hist (f rs.length))[(f m).k]? = some ((f m).cur, (f m).nx) := by
  obtain ⟨t, ht⟩ := R.hist hm (Nat.le_refl _)
  have hl := R.len m hm
  rw [← ht, List.getElem?_append_left (by simp [Ev.hist, hl])]
  unfold Ev.hist
  rw [List.getElem?_append_right (by simp [hl])]
  simp [hl]
theorem Run.make_lt {i : Nat} {r : Row} (hr : rs[i]? = some r) (hc : r.cls = .make) : (f (i + 1)).mx = (f i).mx + 1 := by
  have h := R.step i r hr
  cases h with
  | make _ hw hk y mk hm e => rw [e]
  | makeSkip _ hw e => rw [e]
  | skip h hw e => rcases h with h | h <;> rw [hc] at h <;> cases h
  | _ => simp_all
def Made (tb : Tab) (ops : Array Oper) (rs : List Row) (f : Nat → D) (i : Nat) (p : Nat × Nat × O) : Prop :=
  ∃ r mk, rs[i]? = some r ∧ r.cls = .make ∧ wanted ops r.o (f i).t = some true ∧ makes tb r.o.op (f i).t = some (p.2.2, mk) ∧ p.1 = r.hi + 1 ∧ p.2.1 = (f i).mx
theorem Run.pend (m : Nat) (hm : m ≤ rs.length) : ∀ p ∈ (f m).pend, (f m).k < p.1 ∧ ∃ i, i < m ∧ Made tb ops rs f i p := by
  refine up_ (rs := rs) (α := fun m => ∀ p ∈ (f m).pend, (f m).k < p.1 ∧ ∃ i, i < m ∧ Made tb ops rs f i p) 0 (by rw [R.pend0]; intro p hp; cases hp) ?_ m (Nat.zero_le _) hm
  intro j r _ hr ih p hp
  have h := R.step j r hr
  cases h with
  | make hc hw hk y mk hm e =>
    rw [e] at hp ⊢
    rcases List.mem_cons.1 hp with rfl | hp
    · exact ⟨by simp only; omega, j, by omega, r, mk, hr, hc, hw, hm, rfl, rfl⟩
    · obtain ⟨h1, i, hi, h2⟩ := ih p hp
      exact ⟨h1, i, by omega, h2⟩
  | chain hc b hw hk v h nx he ha e =>
    rw [e] at hp ⊢
    obtain ⟨hp1, hp2⟩ := dropAt_mem hp
    obtain ⟨h1, i, hi, h2⟩ := ih p hp1
    exact ⟨by simp only; omega, i, by omega, h2⟩
  | _ =>
    rename_i e
    rw [e] at hp ⊢
    obtain ⟨h1, i, hi, h2⟩ := ih p hp
    exact ⟨h1, i, by omega, h2⟩
theorem Run.ix (m : Nat) (hm : m ≤ rs.length) : ∀ q ∈ (f m).ix, ∃ r, rs[q.2]? = some r ∧ r.cls = .make ∧ q.1 = (f q.2).mx := by
  refine up_ (rs := rs) (α := fun m => ∀ q ∈ (f m).ix, ∃ r, rs[q.2]? = some r ∧ r.cls = .make ∧ q.1 = (f q.2).mx) 0 (by rw [R.ix0]; intro p hp; cases hp) ?_ m (Nat.zero_le _) hm
  intro j r _ hr ih q hq
  have h := R.step j r hr
  cases h with
  | make hc hw hk y mk hm e =>
    rw [e] at hq
    rcases List.mem_cons.1 hq with rfl | hq
    · refine ⟨r, ?_, hc, ?_⟩
      · show rs[r.i]? = some r
        rw [R.num j r hr]; exact hr
      · show (f j).mx = (f r.i).mx
        rw [R.num j r hr]
    · exact ih q hq
  | _ => rename_i e; rw [e] at hq; exact ih q hq
omit R in
theorem ixOf_mem {n : Nat} : ∀ {l : List (Nat × Nat)} {j : Nat}, ixOf n l = some j → (n, j) ∈ l
  | [], _, h => by cases h
  | p :: l, j, h => by
    simp only [ixOf] at h
    cases hb : Nat.beq p.1 n with
    | true =>
      rw [hb] at h
      cases h
      rw [← nbeq_true hb]; exact List.mem_cons_self ..
    | false => rw [hb] at h; exact List.mem_cons_of_mem _ (ixOf_mem h)
theorem Run.readCur {i : Nat} {r : Row} (hr : rs[i]? = some r) (hc : r.cls = .read) (hw : wanted ops r.o (f i).t = some true) {v : V} (hq : quiet tb r.o.op r.o.type (f i).t (f i).cur = some v) (hp : pastOk tb r.o (f i).t v ((f i).k - r.lo) (f i).past = true)
    (e : f (i + 1) = { f i with t := setDst (f i).t r.o.dst v, active := (r.o, (f i).t, v, r.hi) :: (f i).active }) :
    ∃ v, (f (i + 1)).t = setDst (f i).t r.o.dst v ∧ ∀ k p, r.lo ≤ k → k ≤ r.hi → (Ev.hist (f rs.length))[k]? = some p → quiet tb r.o.op r.o.type (f i).t p.1 = some v := by
  have hi : i < rs.length := (List.getElem?_eq_some_iff.1 hr).1
  refine ⟨v, by rw [e], fun k p hlo hhi hk => ?_⟩
  rcases Nat.lt_trichotomy k (f i).k with hlt | heq | hgt
  · obtain ⟨t, ht⟩ := R.hist (Nat.le_of_lt hi) (Nat.le_refl _)
    have hl := R.len i (Nat.le_of_lt hi)
    rw [← ht, List.getElem?_append_left (by simp [Ev.hist, hl]; omega)] at hk
    unfold Ev.hist at hk
    rw [List.getElem?_append_left (by simp [hl]; omega), List.getElem?_reverse (by omega)] at hk
    exact pastOk_get hp _ p (by omega) hk
  · rw [heq, R.at_ i (Nat.le_of_lt hi)] at hk
    cases hk; exact hq
  · have key := up_ (rs := rs) (α := fun m => (r.o, (f i).t, v, r.hi) ∈ (f m).active ∧ ∀ k p, (f i).k < k → k ≤ r.hi → k ≤ (f m).k → (Ev.hist (f rs.length))[k]? = some p → quiet tb r.o.op r.o.type (f i).t p.1 = some v) (i + 1) ?_ ?_ rs.length (by omega) (Nat.le_refl _)
    · refine key.2 k p hgt hhi ?_ hk
      have := (List.getElem?_eq_some_iff.1 hk).1
      simp [Ev.hist, R.len rs.length (Nat.le_refl _)] at this
      omega
    · rw [e]
      exact ⟨List.mem_cons_self .., fun k p h1 _ h2 _ => by simp only at h2; omega⟩
    · rintro j x hj hx ⟨ih1, ih2⟩
      have hs := R.step j x hx
      refine ⟨hs.active ih1, fun k p h1 h2 h3 h4 => ?_⟩
      by_cases hkj : k ≤ (f j).k
      · exact ih2 k p h1 h2 hkj h4
      · cases hs with
        | chain _ b _ _ v' g nx' he ha e' =>
          have hk' : k = (f j).k + 1 := by rw [e'] at h3; simp only at h3; omega
          have hjl : j + 1 ≤ rs.length := (List.getElem?_eq_some_iff.1 hx).1
          have := R.at_ (j + 1) hjl
          rw [e'] at this
          simp only at this
          rw [hk', this] at h4
          cases h4
          exact activeOk_get ha _ _ _ _ ih1 (by omega)
        | _ => rename_i e'; rw [e'] at h3; exact absurd h3 hkj
end
end Ev
namespace Ev
open Go
noncomputable def pick (t : T V) : List Nat → T V
  | [] => .e
  | k :: ks => match t.get k with
    | some v => (pick t ks).set k v
    | none => pick t ks
theorem pick_get {t : T V} : ∀ {ks : List Nat} {k : Nat} {v : V}, (pick t ks).get k = some v → k ∈ ks ∧ t.get k = some v
  | [], k, v, h => by simp [pick, T.get_e] at h
  | x :: ks, k, v, h => by
    simp only [pick] at h
    split at h
    · rename_i u hu
      rw [T.get_set] at h
      by_cases he : k = x
      · simp only [he, if_true, Option.some.injEq] at h
        subst he; subst h
        exact ⟨List.mem_cons_self .., hu⟩
      · simp only [if_neg he] at h
        exact ⟨List.mem_cons_of_mem _ (pick_get h).1, (pick_get h).2⟩
    · exact ⟨List.mem_cons_of_mem _ (pick_get h).1, (pick_get h).2⟩
theorem pick_mem {t : T V} : ∀ {ks : List Nat} {k : Nat}, k ∈ ks → (pick t ks).get k = t.get k
  | [], k, h => by cases h
  | x :: ks, k, h => by
    simp only [pick]
    by_cases he : k = x
    · subst he
      split
      · rename_i u hu; rw [T.get_set, if_pos rfl, hu]
      · rename_i hu
        cases hp : (pick t ks).get k with
        | none => rw [hu]
        | some v => rw [(pick_get hp).2]
    · have ih : (pick t ks).get k = t.get k := pick_mem (by rcases List.mem_cons.1 h with h | h; exact absurd h he; exact h)
      split
      · rw [T.get_set, if_neg he, ih]
      · exact ih
theorem tmpsOf_mem : ∀ {xs : List Operand} {k : Nat}, Operand.tmp k ∈ xs → k ∈ tmpsOf xs
  | [], _, h => by cases h
  | x :: xs, k, h => by
    rcases List.mem_cons.1 h with rfl | h
    · exact List.mem_cons_self ..
    · have := tmpsOf_mem h
      cases x <;> simp only [tmpsOf] <;> first | exact this | exact List.mem_cons_of_mem _ this
theorem looks_mem {ops : Array Oper} {o : Oper} {k : Nat} (h : Operand.tmp k ∈ o.op.operands.toList) : k ∈ looks ops o := by
  have := tmpsOf_mem h
  unfold looks
  split
  · exact this
  · split
    · exact List.mem_cons_of_mem _ this
    · exact this
theorem pick_same {ops : Array Oper} {o : Oper} {t : T V} : Same t (pick t (looks ops o)) o.op.operands.toList := by
  intro x hx
  cases x with
  | tmp k => simp only [ev]; rw [pick_mem (looks_mem hx)]
  | _ => rfl
theorem pick_wanted {ops : Array Oper} {o : Oper} {t : T V} : wanted ops o (pick t (looks ops o)) = wanted ops o t := by
  unfold wanted
  cases hg : o.guard with
  | none => rfl
  | some p =>
    obtain ⟨j, b⟩ := p
    simp only
    cases hd : (ops[j]?).bind (·.dst) with
    | none => rfl
    | some d =>
      simp only
      rw [pick_mem (by simp [looks, hg, hd])]
theorem Step.allocAt {E E1 : Env} {g g1 : G} {nx nx1 ν : Nat} {w w1 w' : World} {i : Info} {o : O} {ob : Obj} (h : Step E g nx w E1 g1 nx1 w1) (h1 : nx ≤ ν) (h2 : ν < nx1) (hν : E1.at_ ν = none) (hi : i.blk = w1.heap.size) (hw : w'.heap = w1.heap.push ob)
    (hgr : w'.tape = w1.tape ∧ w'.os = w1.os ∧ w'.output = w1.output) (ho : ObjR (E1.add ν i) w' i o) : Step E g nx w (E1.add ν i) (upd g1 ν o) nx1 w' where
  le := h.le.trans (Env.le_add hν)
  old n hn := by rw [E1.add_other ν n i (by omega)]; exact h.old n hn
  mono := h.mono
  fresh n hn := by rw [E1.add_other ν n i (by omega)]; exact h.fresh n hn
  rel := h.rel.alloc hν hi hw ho
  grew := h.grew.trans ⟨hgr.1, hgr.2.1, hgr.2.2, by simp [hw]⟩
  frame b hb hn := by
    rw [hw, Array.getElem?_push, if_neg (by have := h.grew.size; omega)]
    exact h.frame b hb hn
  foot := by
    rintro b hb ⟨n, p, j, hn, hj, rfl⟩
    by_cases he : n = ν
    · subst he
      rw [E1.add_at] at hj
      cases hj
      have := h.grew.size
      omega
    · rw [E1.add_other ν n i he] at hj
      simp only [upd, if_neg he] at hn
      exact h.foot _ hb ⟨n, p, j, hn, hj, rfl⟩
end Ev
namespace Ev
open Go
structure Stat (tb : Tab) (ops : Array Oper) (rs : List Row) (b W : T Nat) (c : List Nat) : Prop where
  len : rs.length = ops.size
  row : ∀ i o, ops[i]? = some o → ∃ r, rs[i]? = some r ∧ r.o = o ∧ r.cls = cls tb o.op ∧ rowOk ops b W c i r = true ∧ r.i = i ∧ r.bef = (b.get i).getD 0
  bef : b = befs ops.toList 0 .e
  chain : c = chainOf tb ops.toList 0
  ok : chainOk b c = true
theorem rowsOf_len {tb : Tab} {b : T Nat} {c : List Nat} : ∀ (os : List Oper) (i : Nat), (rowsOf tb b c os i).length = os.length
  | [], _ => rfl
  | _ :: os, i => by simp [rowsOf, rowsOf_len os (i + 1)]
theorem stat_of {tb : Tab} {ops : Array Oper} (h : (mkPlan tb ops).ok = true) : Stat tb ops (mkPlan tb ops).rows (befs ops.toList 0 .e) (writersOf ops.toList 0 .e) (chainOf tb ops.toList 0) := by
  simp only [mkPlan, Bool.and_eq_true] at h
  refine ⟨by simp [mkPlan, rowsOf_len], fun i o hi => ?_, rfl, rfl, h.1⟩
  have hr : (mkPlan tb ops).rows[i]? = some (rowOf tb (befs ops.toList 0 .e) (chainOf tb ops.toList 0) o i) := by
    simp only [mkPlan]
    rw [rowsOf_get]
    simp [hi]
  refine ⟨_, hr, rowOf_o, rowOf_cls, ?_, rowOf_i⟩
  have := rowsOk_get h.2 i _ (by simpa [mkPlan] using hr)
  simpa using this
structure RowSpec (ops : Array Oper) (b W : T Nat) (c : List Nat) (i : Nat) (r : Row) : Prop where
  edges : ∀ e ∈ r.o.after.toList, Region.binds .any e = true → e.on < i
  next : nextOk r.o = true
  tmp : ∀ k ∈ looks ops r.o, ∀ j, W.get k = some j → j = i ∨ bitOf b i j = true ∨ bitOf b j i = true
  dst : ∀ d, r.o.dst = some d → W.get d = some i
  lo : r.cls = .read → ∀ m, r.lo = m + 1 → ∃ x, c[m]? = some x ∧ bitOf b i x = true
  hi : r.cls = .read ∨ r.cls = .make → ∀ x, c[r.hi]? = some x → bitOf b x i = true
  ch : r.cls = .chain → c[r.lo]? = some i
theorem rowOk_spec {ops : Array Oper} {b W : T Nat} {c : List Nat} {i : Nat} {r : Row} (h : rowOk ops b W c i r = true) : RowSpec ops b W c i r := by
  simp only [rowOk, Bool.and_eq_true] at h
  obtain ⟨⟨⟨⟨h1, h2⟩, h3⟩, h4⟩, h5⟩ := h
  refine ⟨edgesOk_get h1, h2, tmpOk_get h3, ?_, ?_, ?_, ?_⟩
  · intro d hd
    rw [hd] at h4
    simp only at h4
    split at h4
    · rename_i k hk; rw [hk, nbeq_true h4]
    · cases h4
  · intro hc m hm
    rw [hc] at h5
    simp only [Bool.and_eq_true] at h5
    have h6 := h5.1
    rw [hm] at h6
    simp only [loOk] at h6
    split at h6
    · rename_i x hx; exact ⟨x, hx, h6⟩
    · cases h6
  · intro hc x hx
    have h6 : hiOk b c i r.hi = true := by
      rcases hc with hc | hc <;> rw [hc] at h5
      · simp only [Bool.and_eq_true] at h5; exact h5.2
      · exact h5
    unfold hiOk at h6
    rw [hx] at h6
    exact h6
  · intro hc
    rw [hc] at h5
    simp only at h5
    split at h5
    · rename_i x hx; rw [hx, nbeq_true h5]
    · cases h5
def mem (L : Array Bool) (i : Nat) : Prop := L.getD i false = true
theorem mem_set {L : Array Bool} {i j : Nat} (hi : i < L.size) : mem (L.setIfInBounds i true) j ↔ mem L j ∨ j = i := by
  unfold mem
  rw [Array.getD_eq_getD_getElem?, Array.getD_eq_getD_getElem?, Array.getElem?_setIfInBounds]
  by_cases h : i = j
  · subst h; simp [hi]
  · simp [h, Ne.symm h]
noncomputable def valAt (W : T Nat) (f : Nat → D) (L : Array Bool) (k : Nat) : Option V :=
  match W.get k with
  | some i => cond (L.getD i false) ((f (i + 1)).t.get k) ((f 0).t.get k)
  | none => (f 0).t.get k
theorem DStep.t {tb : Tab} {rc : Rec} {ops : Array Oper} {x : Row} {d d' : D} (h : DStep tb rc ops x d d') : ∃ v, d'.t = setDst d.t x.o.dst v := by
  cases h <;> (rename_i e; subst e; exact ⟨_, rfl⟩)
theorem setDst_other {t : T V} {d : Option Nat} {v : V} {k : Nat} (h : d ≠ some k) : (setDst t d v).get k = t.get k := by
  cases d with
  | none => rfl
  | some d => simp only [setDst, T.get_set]; rw [if_neg fun e => h (by rw [e])]
section
variable {tb : Tab} {rc : Rec} {ops : Array Oper} {rs : List Row} {f : Nat → D} {b W : T Nat} {c : List Nat} (R : Run tb rc ops rs f) (St : Stat tb ops rs b W c)
include R St
theorem Stat.spec {i : Nat} {r : Row} (hr : rs[i]? = some r) : RowSpec ops b W c i r ∧ ops[i]? = some r.o ∧ r.cls = cls tb r.o.op := by
  have hi : i < ops.size := by rw [← St.len]; exact (List.getElem?_eq_some_iff.1 hr).1
  obtain ⟨r', hr', ho, hc, hk, _⟩ := St.row i ops[i] (Array.getElem?_eq_getElem hi)
  rw [hr] at hr'; cases hr'
  exact ⟨rowOk_spec hk, by rw [ho]; exact Array.getElem?_eq_getElem hi, by rw [hc, ho]⟩
omit R in
theorem Stat.num {i : Nat} {r : Row} (hr : rs[i]? = some r) : r.i = i ∧ r.bef = (b.get i).getD 0 := by
  have hi : i < ops.size := by rw [← St.len]; exact (List.getElem?_eq_some_iff.1 hr).1
  obtain ⟨r', hr', ho, hc, hk, hn⟩ := St.row i ops[i] (Array.getElem?_eq_getElem hi)
  rw [hr] at hr'; cases hr'
  exact hn
theorem tget (j : Nat) (hj : j ≤ rs.length) (k : Nat) : (f j).t.get k = match W.get k with
    | some i => cond (Nat.blt i j) ((f (i + 1)).t.get k) ((f 0).t.get k)
    | none => (f 0).t.get k := by
  revert k
  refine up_ (rs := rs) (α := fun j => ∀ k, (f j).t.get k = match W.get k with
    | some i => cond (Nat.blt i j) ((f (i + 1)).t.get k) ((f 0).t.get k)
    | none => (f 0).t.get k) 0 ?_ ?_ j (Nat.zero_le _) hj
  · intro k
    cases W.get k with
    | none => rfl
    | some i => simp [Nat.blt, Nat.ble]
  · intro j r _ hr ih k
    obtain ⟨v, hv⟩ := (R.step j r hr).t
    obtain ⟨sp, _⟩ := St.spec R hr
    cases hw : W.get k with
    | none =>
      simp only
      rw [hv, setDst_other fun e => by rw [sp.dst k e] at hw; cases hw]
      have := ih k; rw [hw] at this; exact this
    | some i =>
      simp only
      by_cases hij : i = j
      · subst hij
        have : Nat.blt i (i + 1) = true := Nat.ble_eq_true_of_le (Nat.le_refl _)
        rw [this, cond_true]
      · rw [hv, setDst_other fun e => hij (by rw [sp.dst k e] at hw; cases hw; rfl)]
        have h1 := ih k
        rw [hw] at h1
        simp only at h1
        rw [h1]
        by_cases hlt : i < j
        · rw [show Nat.blt i j = true from Nat.ble_eq_true_of_le hlt, show Nat.blt i (j + 1) = true from Nat.ble_eq_true_of_le (by omega)]
        · have e1 : Nat.blt i j = false := by rw [Bool.eq_false_iff]; exact fun e => hlt (nblt_lt e)
          have e2 : Nat.blt i (j + 1) = false := by rw [Bool.eq_false_iff]; exact fun e => by have := nblt_lt e; omega
          rw [e1, e2]
theorem bit_le {i j : Nat} (h : bitOf b i j = true) (hi : i < ops.size) : j ≤ i := by
  rw [St.bef] at h
  refine before_ok (ops := ops) (S := fun x => x ≤ i) ?_ h (Nat.le_refl _)
  intro x o hx hle e he hb
  obtain ⟨r, hr, ho, _, hk, _⟩ := St.row x o hx
  have := (rowOk_spec hk).edges e (by rw [ho]; exact he) hb
  show e.on ≤ i
  omega
theorem valAt_eq {L : Array Bool} {i : Nat} {r : Row} (hr : rs[i]? = some r) (hcl : Closed ops (mem L)) (hni : ¬ mem L i) (hrd : ∀ e ∈ r.o.after.toList, Region.binds .any e = true → mem L e.on) {k : Nat} (hk : k ∈ looks ops r.o) : valAt W f L k = (f i).t.get k := by
  have hi := (List.getElem?_eq_some_iff.1 hr).1
  obtain ⟨sp, ho, _⟩ := St.spec R hr
  have hcl' : Closed ops (fun x => mem L x ∨ x = i) := by
    intro x o hx hm e he hb
    rcases hm with hm | rfl
    · exact .inl (hcl x o hx hm e he hb)
    · rw [ho] at hx; cases hx; exact .inl (hrd e he hb)
  rw [tget R St i (Nat.le_of_lt hi) k]
  unfold valAt
  cases hw : W.get k with
  | none => rfl
  | some j =>
    simp only
    have hni' : L.getD i false = false := by simpa [mem] using hni
    have irr : Nat.blt i i = false := by rw [Bool.eq_false_iff]; exact fun e => by have := nblt_lt e; omega
    by_cases hji : j = i
    · subst hji; rw [hni', irr]
    · rcases sp.tmp k hk j hw with h | h | h
      · exact absurd h hji
      · have hle := bit_le R St h (by rw [← St.len]; exact hi)
        have hmj : mem L j := by
          have h' := h
          rw [St.bef] at h'
          rcases before_ok hcl' h' (.inr rfl) with h | h
          · exact h
          · exact absurd h hji
        rw [show L.getD j false = true from hmj, show Nat.blt j i = true from Nat.ble_eq_true_of_le (by omega)]
      · have hnj : ¬ mem L j := fun hm => hni (by rw [St.bef] at h; exact before_ok hcl h hm)
        have hnj' : L.getD j false = false := by simpa [mem] using hnj
        have e1 : Nat.blt j i = false := by
          rw [Bool.eq_false_iff]
          intro e
          have h1 := nblt_lt e
          have h2 := bit_le R St h (by rw [← St.len]; omega)
          omega
        rw [hnj', e1]
end
end Ev
namespace Ev
open Go
structure Good (tb : Tab) (ops : Array Oper) (rs : List Row) (f : Nat → D) (W : T Nat) (c : List Nat) (E : Env) (s : S) (w : World) (N : Nat) (L : Array Bool) (K : Nat) (E' : Env) (g : G) (hk : H) (nk : Nat) (a : Act) (w' : World) : Prop where
  sz : L.size = ops.size
  cl : Closed ops (mem L)
  ch : ∀ m x, c[m]? = some x → (mem L x ↔ m < K)
  hK : (Ev.hist (f rs.length))[K]? = some (hk, nk)
  step : Step E s.h.get s.nx w E' g nk w'
  base : (f 0).nx ≤ nk
  sub : ∀ n o, hk.get n = some o → g n = some o
  pend : ∀ i p, Made tb ops rs f i p → mem L i → K < p.1 → g p.2.1 = some p.2.2 ∧ hk.get p.2.1 = none
  free : ∀ i r, rs[i]? = some r → r.cls = .make → ¬ mem L i → E'.at_ (f i).mx = none
  tm : ∀ k v, valAt W f L k = some v → ∃ y, a.tmps[k]? = some y ∧ VR E' v y
  ms : MR E' s.m a.defers
  size : a.tmps.size = N
  kc : K ≤ c.length
section
variable {tb : Tab} {rc : Rec} {ops : Array Oper} {rs : List Row} {f : Nat → D} {b W : T Nat} {c : List Nat} (R : Run tb rc ops rs f) (St : Stat tb ops rs b W c)
include R St
theorem tm_put {L : Array Bool} {i : Nat} {r : Row} {E' E2 : Env} {a : Act} {v : V} {x : Value} (hr : rs[i]? = some r) (hsz : L.size = ops.size) (hni : ¬ mem L i) (hle : E'.Le E2) (htm : ∀ k v, valAt W f L k = some v → ∃ y, a.tmps[k]? = some y ∧ VR E' v y)
    (hv : (f (i + 1)).t = setDst (f i).t r.o.dst v) (hx : VR E2 v x) (hd : ∀ k, r.o.dst = some k → k < a.tmps.size) :
    ∀ k u, valAt W f (L.setIfInBounds i true) k = some u → ∃ y, (a.put r.o.dst x).tmps[k]? = some y ∧ VR E2 u y := by
  have hi := (List.getElem?_eq_some_iff.1 hr).1
  have hiL : i < L.size := by rw [hsz, ← St.len]; exact hi
  obtain ⟨sp, ho, _⟩ := St.spec R hr
  have hni' : L.getD i false = false := by simpa [mem] using hni
  intro k u hu
  by_cases hk : r.o.dst = some k
  · have hw := sp.dst k hk
    have hm : (L.setIfInBounds i true).getD i false = true := (mem_set hiL).2 (.inr rfl)
    simp only [valAt, hw, hm, cond_true, hv, hk, setDst, T.get_set, if_true, Option.some.injEq] at hu
    subst hu
    exact ⟨x, by simp [hk, Act.put, hd k hk], hx⟩
  · have hold : valAt W f L k = some u := by
      rw [← hu]
      unfold valAt
      cases hw : W.get k with
      | none => rfl
      | some j =>
        simp only
        by_cases hji : j = i
        · subst hji
          have hm : (L.setIfInBounds j true).getD j false = true := (mem_set hiL).2 (.inr rfl)
          have irr : Nat.blt j j = false := by rw [Bool.eq_false_iff]; exact fun e => by have := nblt_lt e; omega
          have := tget R St j (Nat.le_of_lt hi) k
          rw [hw] at this
          simp only [irr, cond_false] at this
          rw [hni', hm, cond_false, cond_true, hv, setDst_other hk, this]
        · have : (L.setIfInBounds i true).getD j false = L.getD j false := by
            rw [Bool.eq_iff_iff]
            exact ⟨fun h => ((mem_set hiL).1 h).resolve_right hji, fun h => (mem_set hiL).2 (.inl h)⟩
          rw [this]
    obtain ⟨y, hy, hvy⟩ := htm k u hold
    refine ⟨y, ?_, VR.mono hle u y hvy⟩
    cases hdst : r.o.dst with
    | none => exact hy
    | some d =>
      simp only [Act.put]
      rw [Array.getElem?_setIfInBounds_ne fun e => hk (by rw [hdst, e])]
      exact hy
end
end Ev
namespace Ev
open Go
section
variable {tb : Tab} {P : Program} {w0 : Base} (hT : TabOk tb P) (hF : FnOk tb P w0) {rc : Rec} (hR : RecOk P w0 rc)
variable {ops : Array Oper} {rs : List Row} {f : Nat → D} {b W : T Nat} {c : List Nat} (R : Run tb rc ops rs f) (St : Stat tb ops rs b W c)
variable {E : Env} {s : S} {w : World} {N : Nat} {L : Array Bool} {K : Nat} {E' : Env} {g : G} {hk : H} {nk : Nat} {a : Act} {w' : World} (GG : Good tb ops rs f W c E s w N L K E' g hk nk a w')
variable {i : Nat} {r : Row} (hr : rs[i]? = some r) (hni : ¬ mem L i) (hrd : ∀ e ∈ r.o.after.toList, Region.binds .any e = true → mem L e.on)
include R St GG hr hni hrd
theorem good_closed : Closed ops (mem (L.setIfInBounds i true)) := by
  obtain ⟨sp, ho, _⟩ := St.spec R hr
  have hiL : i < L.size := by rw [GG.sz, ← St.len]; exact (List.getElem?_eq_some_iff.1 hr).1
  intro x o hx hm e he hb
  rw [mem_set hiL] at hm ⊢
  rcases hm with hm | rfl
  · exact .inl (GG.cl x o hx hm e he hb)
  · rw [ho] at hx; cases hx; exact .inl (hrd e he hb)
theorem good_ch (hc : r.cls ≠ .chain) : ∀ m x, c[m]? = some x → (mem (L.setIfInBounds i true) x ↔ m < K) := by
  obtain ⟨sp, ho, hcls⟩ := St.spec R hr
  have hiL : i < L.size := by rw [GG.sz, ← St.len]; exact (List.getElem?_eq_some_iff.1 hr).1
  intro m x hx
  rw [mem_set hiL, ← GG.ch m x hx]
  refine ⟨fun h => h.resolve_right ?_, .inl⟩
  rintro rfl
  have hxm := List.mem_of_getElem? hx
  rw [St.chain] at hxm
  obtain ⟨m', o, e, hm, ho'⟩ := chainOf_mem _ _ _ hxm
  have : ops[x]? = some o := by rw [e]; simpa using hm
  rw [ho] at this; cases this
  exact hc (hcls.trans ho')
theorem good_quiet (hc : r.cls = .pure ∨ r.cls = .read) {v : V} {x : Value} (hv : (f (i + 1)).t = setDst (f i).t r.o.dst v) (hx : VR E' v x) (hd : ∀ k, r.o.dst = some k → k < N) :
    Good tb ops rs f W c E s w N (L.setIfInBounds i true) K E' g hk nk (a.put r.o.dst x) w' := by
  have hiL : i < L.size := by rw [GG.sz, ← St.len]; exact (List.getElem?_eq_some_iff.1 hr).1
  refine ⟨by simp [GG.sz], good_closed R St GG hr hni hrd, good_ch R St GG hr hni hrd (by rcases hc with h | h <;> rw [h] <;> exact fun e => by cases e), GG.hK, GG.step, GG.base, GG.sub, ?_, ?_, ?_, by rw [put_defers]; exact GG.ms, by rw [put_tmps_size]; exact GG.size, GG.kc⟩
  · intro j p hm hj hk
    rw [mem_set hiL] at hj
    refine GG.pend j p hm (hj.resolve_right ?_) hk
    rintro rfl
    obtain ⟨r', _, hr', hc', _⟩ := hm
    rw [hr] at hr'; cases hr'
    rcases hc with h | h <;> rw [h] at hc' <;> cases hc'
  · intro j r' hr' hc' hj
    exact GG.free j r' hr' hc' fun h => hj ((mem_set hiL).2 (.inl h))
  · exact tm_put R St hr GG.sz hni (Env.Le.refl _) GG.tm hv hx (by rw [GG.size]; exact hd)
omit GG hni hrd in
theorem mx_ne {j : Nat} {r' : Row} (hc : r.cls = .make) (hr' : rs[j]? = some r') (hc' : r'.cls = .make) (hne : j ≠ i) : (f j).mx ≠ (f i).mx := by
  have hi := (List.getElem?_eq_some_iff.1 hr).1
  have hj := (List.getElem?_eq_some_iff.1 hr').1
  have h1 := R.make_lt hr hc
  have h2 := R.make_lt hr' hc'
  rcases Nat.lt_or_gt_of_ne hne with h | h
  · have := R.mxmono (m := j + 1) (n := i) (by omega) (by omega); omega
  · have := R.mxmono (m := i + 1) (n := j) (by omega) (by omega); omega
omit hni hrd in
theorem hk_none {ν : Nat} (h : E'.at_ ν = none) : hk.get ν = none := by
  cases hh : hk.get ν with
  | none => rfl
  | some o =>
    obtain ⟨j, hj, _⟩ := GG.step.rel.obj ν o (GG.sub ν o hh)
    rw [h] at hj; cases hj
theorem good_make (hc : r.cls = .make) (hmx0 : s.nx ≤ (f 0).mx) (hmxn : (f rs.length).mx ≤ (f 0).nx) {y : O} {mk : Nat → V} {x : Value} {w2 : World} (hmk : makes tb r.o.op (f i).t = some (y, mk)) (hv : (f (i + 1)).t = setDst (f i).t r.o.dst (mk (f i).mx))
    (hm : Makes E' (f i).mx w' y (mk (f i).mx) x w2) (hd : ∀ k, r.o.dst = some k → k < N) :
    ∃ E2 g2, Good tb ops rs f W c E s w N (L.setIfInBounds i true) K E2 g2 hk nk (a.put r.o.dst x) w2 := by
  have hi := (List.getElem?_eq_some_iff.1 hr).1
  have hiL : i < L.size := by rw [GG.sz, ← St.len]; exact hi
  have hν := GG.free i r hr hc hni
  have hkn := hk_none R St GG hr hν
  have h1 : s.nx ≤ (f i).mx := Nat.le_trans hmx0 (R.mxmono (Nat.zero_le _) (Nat.le_of_lt hi))
  have h2 : (f i).mx < nk := by
    have e := R.make_lt hr hc
    have e2 := R.mxmono (m := i + 1) (n := rs.length) hi (Nat.le_refl _)
    have := GG.base
    omega
  obtain ⟨info, rob, hw, hgr, hib, hob, hvx⟩ := hm
  have hle := Env.le_add (i := info) hν
  refine ⟨E'.add (f i).mx info, upd g (f i).mx y, by simp [GG.sz], good_closed R St GG hr hni hrd, good_ch R St GG hr hni hrd (by rw [hc]; exact fun e => by cases e), GG.hK, GG.step.allocAt h1 h2 hν hib hw hgr hob, GG.base, ?_, ?_, ?_, ?_, by rw [put_defers]; exact GG.ms.mono hle, by rw [put_tmps_size]; exact GG.size, GG.kc⟩
  · intro n o hn
    have hne : n ≠ (f i).mx := by rintro rfl; rw [hkn] at hn; cases hn
    simp only [upd, if_neg hne]
    exact GG.sub n o hn
  · intro j p hm hj hk
    rw [mem_set hiL] at hj
    obtain ⟨r', mk', hr', hc', hw', hmk', e1, e2⟩ := hm
    by_cases hji : j = i
    · subst hji
      rw [hr] at hr'; cases hr'
      rw [hmk] at hmk'
      simp only [Option.some.injEq, Prod.mk.injEq] at hmk'
      rw [e2]
      exact ⟨by simp [upd, hmk'.1], hkn⟩
    · have hne := mx_ne R St hr hc hr' hc' hji
      rw [e2]
      have := GG.pend j p ⟨r', mk', hr', hc', hw', hmk', e1, e2⟩ (hj.resolve_right hji) hk
      rw [e2] at this
      simp only [upd, if_neg hne]
      exact this
  · intro j r' hr' hc' hj
    have hji : j ≠ i := fun e => hj ((mem_set hiL).2 (.inr e))
    rw [E'.add_other _ _ _ (mx_ne R St hr hc hr' hc' hji)]
    exact GG.free j r' hr' hc' fun h => hj ((mem_set hiL).2 (.inl h))
  · exact tm_put R St hr GG.sz hni hle GG.tm hv hvx (by rw [GG.size]; exact hd)
end
end Ev
namespace Ev
open Go
section
variable {tb : Tab} {rc : Rec}
variable {ops : Array Oper} {rs : List Row} {f : Nat → D} {b W : T Nat} {c : List Nat} (R : Run tb rc ops rs f) (St : Stat tb ops rs b W c)
variable {E : Env} {s : S} {w : World} {N : Nat} {L : Array Bool} {K : Nat} {E' : Env} {g : G} {hk : H} {nk : Nat} {a : Act} {w' : World} (GG : Good tb ops rs f W c E s w N L K E' g hk nk a w')
variable {i : Nat} {r : Row} (hr : rs[i]? = some r) (hni : ¬ mem L i) (hrd : ∀ e ∈ r.o.after.toList, Region.binds .any e = true → mem L e.on)
include R St GG hr hni hrd
theorem before_mem {x : Nat} (h : bitOf b i x = true) (hne : x ≠ i) : mem L x := by
  obtain ⟨sp, ho, _⟩ := St.spec R hr
  have hcl' : Closed ops (fun x => mem L x ∨ x = i) := by
    intro x o hx hm e he hb
    rcases hm with hm | rfl
    · exact .inl (GG.cl x o hx hm e he hb)
    · rw [ho] at hx; cases hx; exact .inl (hrd e he hb)
  rw [St.bef] at h
  exact (before_ok hcl' h (.inr rfl)).resolve_right hne
theorem chain_at (hc : r.cls = .chain) : r.lo = K := by
  obtain ⟨sp, ho, _⟩ := St.spec R hr
  have hci := sp.ch hc
  have h1 : ¬ r.lo < K := fun h => hni ((GG.ch r.lo i hci).2 h)
  rcases Nat.eq_zero_or_pos r.lo with h0 | hp
  · omega
  · obtain ⟨m, hm⟩ : ∃ m, r.lo = m + 1 := ⟨r.lo - 1, by omega⟩
    have hl := (List.getElem?_eq_some_iff.1 hci).1
    obtain ⟨x, hx⟩ : ∃ x, c[m]? = some x := ⟨c[m]'(by omega), List.getElem?_eq_getElem _⟩
    have hb := chainOk_get St.ok m x i hx (by rw [← hm]; exact hci)
    have hne : x ≠ i := by
      rintro rfl
      have hpw := chainOf_lt (tb := tb) ops.toList 0
      rw [← St.chain] at hpw
      have := pairwise_inj hpw hx hci
      omega
    have := (GG.ch m x hx).1 (before_mem R St GG hr hni hrd hb hne)
    omega
theorem attach_sub (hc : r.cls = .chain) {n : Nat} {o : O} (h : (attach (K + 1) (f i).pend hk).get n = some o) : g n = some o ∧ (hk.get n = some o ∨ ∃ j, Made tb ops rs f j (K + 1, n, o)) := by
  have hi := (List.getElem?_eq_some_iff.1 hr).1
  obtain ⟨sp, ho, hcls⟩ := St.spec R hr
  have hlo := chain_at R St GG hr hni hrd hc
  rcases attach_get h with h | h
  · exact ⟨GG.sub n o h, .inl h⟩
  · obtain ⟨_, j, hj, hm⟩ := R.pend i (Nat.le_of_lt hi) _ h
    refine ⟨?_, .inr ⟨j, hm⟩⟩
    obtain ⟨r', mk, hr', hc', hw', hmk, e1, e2⟩ := hm
    obtain ⟨sp', _, _⟩ := St.spec R hr'
    have hb := sp'.hi (.inr hc') i (by
      have : r'.hi = r.lo := by simp only at e1; omega
      rw [this]; exact sp.ch hc)
    have hmj := before_mem R St GG hr hni hrd hb (by omega)
    exact (GG.pend j _ ⟨r', mk, hr', hc', hw', hmk, e1, e2⟩ hmj (by simp)).1
theorem good_chain (hc : r.cls = .chain) (hmxn : (f rs.length).mx ≤ (f 0).nx) {v : V} {h : H} {nx : Nat} {x : Value} {w2 : World} (hv : (f (i + 1)).t = setDst (f i).t r.o.dst v) (hkk : (f (i + 1)).k = K + 1) (hcur : (f (i + 1)).cur = h) (hnx : (f (i + 1)).nx = nx)
    (hl : Left E' (attach (K + 1) (f i).pend hk).get nk w' v h.get nx x w2) (hd : ∀ k, r.o.dst = some k → k < N) :
    ∃ E2 g2, Good tb ops rs f W c E s w N (L.setIfInBounds i true) (K + 1) E2 g2 h nx (a.put r.o.dst x) w2 := by
  have hi := (List.getElem?_eq_some_iff.1 hr).1
  have hiL : i < L.size := by rw [GG.sz, ← St.len]; exact hi
  obtain ⟨sp, ho, hcls⟩ := St.spec R hr
  have hlo := chain_at R St GG hr hni hrd hc
  obtain ⟨E2, hvx, hs⟩ := hl
  have hfr := hs.frames GG.step.rel (fun n o hn => (attach_sub R St GG hr hni hrd hc hn).1) GG.step.fresh
  refine ⟨E2, join h.get (attach (K + 1) (f i).pend hk).get g, by simp [GG.sz], good_closed R St GG hr hni hrd, ?_, ?_, GG.step.trans hfr, Nat.le_trans GG.base hs.mono, ?_, ?_, ?_, ?_, by rw [put_defers]; exact GG.ms.mono hs.le, by rw [put_tmps_size]; exact GG.size, by rw [← hlo]; exact (List.getElem?_eq_some_iff.1 (sp.ch hc)).1⟩
  · intro m y hy
    rw [mem_set hiL, GG.ch m y hy]
    have hci := sp.ch hc
    constructor
    · rintro (h | rfl)
      · omega
      · have hpw := chainOf_lt (tb := tb) ops.toList 0
        rw [← St.chain] at hpw
        have := pairwise_inj hpw hy hci
        omega
    · intro hm
      by_cases hmK : m < K
      · exact .inl hmK
      · have : m = r.lo := by omega
        rw [this, hci] at hy; cases hy; exact .inr rfl
  · have := R.at_ (i + 1) hi
    rw [hkk, hcur, hnx] at this
    exact this
  · intro n o hn
    simp [join, hn]
  · intro j p hm hj hk'
    rw [mem_set hiL] at hj
    have hji : j ≠ i := by
      rintro rfl
      obtain ⟨r', _, hr', hc', _⟩ := hm
      rw [hr] at hr'; cases hr'; rw [hc] at hc'; cases hc'
    obtain ⟨hg, hkn⟩ := GG.pend j p hm (hj.resolve_right hji) (by omega)
    have hat : (attach (K + 1) (f i).pend hk).get p.2.1 = none := by
      cases ha : (attach (K + 1) (f i).pend hk).get p.2.1 with
      | none => rfl
      | some o =>
        exfalso
        rcases (attach_sub R St GG hr hni hrd hc ha).2 with h | ⟨j', hm'⟩
        · rw [hkn] at h; cases h
        · obtain ⟨r1, _, hr1, hc1, _, _, e1, e2⟩ := hm
          obtain ⟨r2, _, hr2, hc2, _, _, e3, e4⟩ := hm'
          by_cases hjj : j = j'
          · subst hjj
            rw [hr1] at hr2; cases hr2
            simp only at e3
            omega
          · simp only at e4
            exact mx_ne R St hr2 hc2 hr1 hc1 hjj (by rw [← e2, e4])
    have hh : h.get p.2.1 = none := by
      cases hh : h.get p.2.1 with
      | none => rfl
      | some o =>
        exfalso
        obtain ⟨i2, hi2, ho2⟩ := GG.step.rel.obj _ _ hg
        have hi3 := hs.le.2 _ _ hi2
        obtain ⟨n, o', i4, hn, hi4, hb4⟩ := hs.foot i2.blk ho2.lt ⟨p.2.1, o, i2, hh, hi3, rfl⟩
        have hgn := (attach_sub R St GG hr hni hrd hc hn).1
        have := GG.step.rel.inj n p.2.1 o' p.2.2 i4 i2 hgn hg hi4 hi2 hb4
        subst this
        rw [hat] at hn; cases hn
    exact ⟨by simp only [join, hh, hat]; exact hg, hh⟩
  · intro j r' hr' hc' hj
    have h1 := GG.free j r' hr' hc' fun h => hj ((mem_set hiL).2 (.inl h))
    have e := R.make_lt hr' hc'
    have e2 := R.mxmono (m := j + 1) (n := rs.length) (List.getElem?_eq_some_iff.1 hr').1 (Nat.le_refl _)
    have e3 := GG.base
    rw [hs.old _ (by omega)]
    exact h1
  · exact tm_put R St hr GG.sz hni hs.le GG.tm hv hvx (by rw [GG.size]; exact hd)
end
end Ev
namespace Ev
open Go
section
variable {tb : Tab} {P : Program} {w0 : Base} (hT : TabOk tb P) (hF : FnOk tb P w0) {rc : Rec} (hR : RecOk P w0 rc)
variable {ops : Array Oper} {rs : List Row} {f : Nat → D} {b W : T Nat} {c : List Nat} (R : Run tb rc ops rs f) (St : Stat tb ops rs b W c)
variable {E : Env} {s : S} {w : World} {N : Nat} {L : Array Bool} {K : Nat} {E' : Env} {g : G} {hk : H} {nk : Nat} {a : Act} {w' : World}
def GoodAt (tb : Tab) (ops : Array Oper) (rs : List Row) (f : Nat → D) (W : T Nat) (c : List Nat) (E : Env) (s : S) (w : World) (N : Nat) (L : Array Bool) (a : Act) (w' : World) : Prop :=
  ∃ K E' g hk nk, Good tb ops rs f W c E s w N L K E' g hk nk a w'
theorem good_skip (R : Run tb rc ops rs f) (St : Stat tb ops rs b W c) (GG : Good tb ops rs f W c E s w N L K E' g hk nk a w') {i : Nat} {r : Row} (hr : rs[i]? = some r) (hni : ¬ mem L i) (hrd : ∀ e ∈ r.o.after.toList, Region.binds .any e = true → mem L e.on)
    (hc : r.cls ≠ .chain) (hw : wanted ops r.o (f i).t = some false) (hv : (f (i + 1)).t = setDst (f i).t r.o.dst undefV) (hd : ∀ k, r.o.dst = some k → k < N) :
    Good tb ops rs f W c E s w N (L.setIfInBounds i true) K E' g hk nk (a.put r.o.dst undef) w' := by
  have hiL : i < L.size := by rw [GG.sz, ← St.len]; exact (List.getElem?_eq_some_iff.1 hr).1
  refine ⟨by simp [GG.sz], good_closed R St GG hr hni hrd, good_ch R St GG hr hni hrd hc, GG.hK, GG.step, GG.base, GG.sub, ?_, ?_, ?_, by rw [put_defers]; exact GG.ms, by rw [put_tmps_size]; exact GG.size, GG.kc⟩
  · intro j p hm hj hk
    rw [mem_set hiL] at hj
    refine GG.pend j p hm (hj.resolve_right ?_) hk
    rintro rfl
    obtain ⟨r', _, hr', hc', hw', _⟩ := hm
    rw [hr] at hr'; cases hr'
    rw [hw] at hw'; cases hw'
  · intro j r' hr' hc' hj
    exact GG.free j r' hr' hc' fun h => hj ((mem_set hiL).2 (.inl h))
  · exact tm_put R St hr GG.sz hni (Env.Le.refl _) GG.tm hv (undef_VR E') (by rw [GG.size]; exact hd)
include hT hF hR in
theorem good_step {rr : Option Nat} (R : Run tb rc ops rs f) (St : Stat tb ops rs b W c) (ho : Ok w0 E s.h.get s.nx w) (hmx0 : s.nx ≤ (f 0).mx) (hmxn : (f rs.length).mx ≤ (f 0).nx) (GG : Good tb ops rs f W c E s w N L K E' g hk nk a w') {i : Nat} {r : Row} (hr : rs[i]? = some r) (hni : ¬ mem L i)
    (hrd : ∀ e ∈ r.o.after.toList, Region.binds .any e = true → mem L e.on) (hd : ∀ k, r.o.dst = some k → k < N) (Q : Exit → Act → World → Prop) (next : Act → World → Prop) (hn : ∀ a2 w2, GoodAt tb ops rs f W c E s w N (L.setIfInBounds i true) a2 w2 → next a2 w2) :
    wpOpIn (FR rr) 0 P ops Q i next a w' := by
  have hi := (List.getElem?_eq_some_iff.1 hr).1
  obtain ⟨sp, hop, hcls⟩ := St.spec R hr
  have ok1 := ho.step GG.step
  have htr : TR E' (pick (f i).t (looks ops r.o)) a.tmps := by
    intro k v hk
    obtain ⟨hm, hv⟩ := pick_get hk
    exact GG.tm k v (by rw [valAt_eq R St hr GG.cl hni hrd hm]; exact hv)
  have hsame := pick_same (ops := ops) (o := r.o) (t := (f i).t)
  have hwant : ∀ {x}, wanted ops r.o (f i).t = some x → Region.wanted r.o (yielded ops a.tmps) = x := fun h => wanted_ok (by rw [pick_wanted]; exact h) htr
  unfold wpOpIn
  simp only [hop]
  have hst := R.step i r hr
  cases hst with
  | skip hc hw e =>
    rw [hwant hw]
    exact ⟨fun _ _ => trivial, hn _ _ ⟨K, E', g, hk, nk, good_skip R St GG hr hni hrd (by rcases hc with h | h <;> rw [h] <;> exact fun e => by cases e) hw (by rw [e]) hd⟩⟩
  | makeSkip hc hw e =>
    rw [hwant hw]
    exact ⟨fun _ _ => trivial, hn _ _ ⟨K, E', g, hk, nk, good_skip R St GG hr hni hrd (by rw [hc]; exact fun e => by cases e) hw (by rw [e]) hd⟩⟩
  | pure hc hw v hq e =>
    rw [hwant hw, if_pos rfl]
    rw [quiet_congr hsame] at hq
    haveI := hF.syms_of ok1
    obtain ⟨x, hx, hv⟩ := quiet_ok (w := w') hT r.o hq htr ok1.glob (hF.globs ok1) (ok1.rel.sub fun n o h => by rw [T.get_e] at h; cases h)
    refine goes_value (K := fun y w2 => y = x ∧ w2 = w') ?_ hx ⟨rfl, rfl⟩ next Q ?_
    · intro c hc; rw [hc] at hq; simp [quiet] at hq
    · rintro y w2 ⟨rfl, rfl⟩
      exact hn _ _ ⟨K, E', g, hk, nk, good_quiet R St GG hr hni hrd (.inl hc) (by rw [e]) hv hd⟩
  | readP hc hw v hq e =>
    rw [hwant hw, if_pos rfl]
    have hhi : K ≤ r.hi := by
      rcases Nat.lt_or_ge r.hi c.length with h | h
      · have hx : c[r.hi]? = some c[r.hi] := List.getElem?_eq_getElem h
        have hb := sp.hi (.inl hc) _ hx
        have hnm : ¬ mem L c[r.hi] := fun hm => hni (by rw [St.bef] at hb; exact before_ok GG.cl hb hm)
        have : ¬ r.hi < K := fun h => hnm ((GG.ch _ _ hx).2 h)
        omega
      · exact Nat.le_trans GG.kc h
    have hsub : ∀ n o, (attachAll (pendFor r (f i)) (.e : H)).get n = some o → g n = some o := by
      intro n o hn
      rcases attachAll_get hn with h | ⟨a0, hm⟩
      · rw [T.get_e] at h; cases h
      · simp only [pendFor, List.mem_filter, Bool.and_eq_true] at hm
        obtain ⟨hmp, h1, h2⟩ := hm
        have h1 := nblt_lt h1
        split at h2
        · rename_i j hj
          obtain ⟨r', hr', hc', hmx⟩ := R.ix i (Nat.le_of_lt hi) _ (ixOf_mem hj)
          obtain ⟨_, i', hi', hmade⟩ := R.pend i (Nat.le_of_lt hi) _ hmp
          have hij : i' = j := by
            obtain ⟨r2, _, hr2, hc2, _, _, _, hmx2⟩ := id hmade
            rcases Nat.decEq i' j with hne | he
            · exact absurd (hmx2.symm.trans hmx) (mx_ne R St hr' hc' hr2 hc2 hne)
            · exact he
          subst hij
          have hb : bitOf b i i' = true := by
            rw [show r.bef = (b.get i).getD 0 from (St.num hr).2] at h2
            exact h2
          have hmem := before_mem R St GG hr hni hrd hb (by omega)
          exact (GG.pend i' _ hmade hmem (by simp only at h1 ⊢; omega)).1
        · cases h2
    rw [quiet_congr hsame] at hq
    haveI := hF.syms_of ok1
    obtain ⟨x, hx, hvx⟩ := quiet_ok (w := w') hT r.o hq htr ok1.glob (hF.globs ok1) (ok1.rel.sub hsub)
    refine goes_value (K := fun y w2 => y = x ∧ w2 = w') ?_ hx ⟨rfl, rfl⟩ next Q ?_
    · intro c hc; rw [hc] at hq; simp [quiet] at hq
    · rintro y w2 ⟨rfl, rfl⟩
      exact hn _ _ ⟨K, E', g, hk, nk, good_quiet R St GG hr hni hrd (.inr hc) (by rw [e]) hvx hd⟩
  | read hc hw v0 hq0 hp e =>
    rw [hwant hw, if_pos rfl]
    obtain ⟨v, hv, hwin⟩ := R.readCur hr hc hw hq0 hp e
    have hlo : r.lo ≤ K := by
      rcases Nat.eq_zero_or_pos r.lo with h | h
      · omega
      · obtain ⟨m, hm⟩ : ∃ m, r.lo = m + 1 := ⟨r.lo - 1, by omega⟩
        obtain ⟨x, hx, hb⟩ := sp.lo hc m hm
        have hne : x ≠ i := by
          rintro rfl
          have hxm := List.mem_of_getElem? hx
          rw [St.chain] at hxm
          obtain ⟨m', o, e, hm, ho'⟩ := chainOf_mem _ _ _ hxm
          have : ops[x]? = some o := by rw [e]; simpa using hm
          rw [hop] at this; cases this
          rw [hcls, ho'] at hc; cases hc
        have := (GG.ch m x hx).1 (before_mem R St GG hr hni hrd hb hne)
        omega
    have hhi : K ≤ r.hi := by
      rcases Nat.lt_or_ge r.hi c.length with h | h
      · have hx : c[r.hi]? = some c[r.hi] := List.getElem?_eq_getElem h
        have hb := sp.hi (.inl hc) _ hx
        have hnm : ¬ mem L c[r.hi] := fun hm => hni (by rw [St.bef] at hb; exact before_ok GG.cl hb hm)
        have : ¬ r.hi < K := fun h => hnm ((GG.ch _ _ hx).2 h)
        omega
      · exact Nat.le_trans GG.kc h
    have hq := hwin K _ hlo hhi GG.hK
    rw [quiet_congr hsame] at hq
    haveI := hF.syms_of ok1
    obtain ⟨x, hx, hvx⟩ := quiet_ok (w := w') hT r.o hq htr ok1.glob (hF.globs ok1) (ok1.rel.sub GG.sub)
    refine goes_value (K := fun y w2 => y = x ∧ w2 = w') ?_ hx ⟨rfl, rfl⟩ next Q ?_
    · intro c hc; rw [hc] at hq; simp [quiet] at hq
    · rintro y w2 ⟨rfl, rfl⟩
      exact hn _ _ ⟨K, E', g, hk, nk, good_quiet R St GG hr hni hrd (.inr hc) hv hvx hd⟩
  | make hc hw hk' y mk hm e =>
    rw [hwant hw, if_pos rfl]
    have hm' := hm
    rw [makes_congr hsame] at hm
    obtain ⟨x, w2, hx, hmk⟩ := makes_ok (w := w') hT r.o hm htr ok1.glob (GG.free i r hr hc hni)
    obtain ⟨E2, g2, h2⟩ := good_make R St GG hr hni hrd hc hmx0 hmxn hm' (by rw [e]) hmk hd
    refine goes_value (K := fun y w3 => y = x ∧ w3 = w2) ?_ hx ⟨rfl, rfl⟩ next Q ?_
    · intro c hc; rw [hc] at hm; simp [makes] at hm
    · rintro y w3 ⟨rfl, rfl⟩
      exact hn _ _ ⟨K, E2, g2, hk, nk, h2⟩
  | chain hc bb hw hkk v h nx he ha e =>
    rw [hwant hw]
    have hlo := chain_at R St GG hr hni hrd hc
    have hat := R.at_ i (Nat.le_of_lt hi)
    rw [hkk, hlo, GG.hK] at hat
    simp only [Option.some.injEq, Prod.mk.injEq] at hat
    rw [hkk, hlo, ← hat.1, ← hat.2] at he
    have oks : Ok w0 E' (attach (K + 1) (f i).pend hk).get nk w' := ok1.sub fun n o h => (attach_sub R St GG hr hni hrd hc h).1
    have fin : ∀ x w2, Left E' (attach (K + 1) (f i).pend hk).get nk w' v h.get nx x w2 → next (a.put r.o.dst x) w2 := fun x w2 hl => by
      obtain ⟨E2, g2, h2⟩ := good_chain R St GG hr hni hrd hc hmxn (by rw [e]) (by rw [e]; simp only; omega) (by rw [e]) (by rw [e]) hl hd
      exact hn _ _ ⟨K + 1, E2, g2, h, nx, h2⟩
    cases bb with
    | false =>
      simp only [cond_false, Option.some.injEq, Prod.mk.injEq] at he
      obtain ⟨rfl, rfl, rfl⟩ := he
      exact ⟨fun _ _ => trivial, fin _ _ ⟨E', undef_VR E', Step.refl oks.rel oks.fresh⟩⟩
    | true =>
      simp only [cond_true] at he
      rw [eff_congr hsame] at he
      exact eff_goes hT hF hR he oks htr next Q fin
end
end Ev
namespace Ev
open Go
theorem Step.narrow {E E' : Env} {g g1 g2 : G} {nx nx' : Nat} {w w' : World} (h : Step E g nx w E' g1 nx' w') (hs : ∀ n o, g2 n = some o → g1 n = some o) : Step E g nx w E' g2 nx' w' :=
  ⟨h.le, h.old, h.mono, h.fresh, h.rel.sub hs, h.grew, h.frame, fun b hb ⟨n, o, i, hn, hi, he⟩ => h.foot b hb ⟨n, o, i, hs n o hn, hi, he⟩⟩
def unl (L : Array Bool) : Nat := L.toList.count false
theorem unl_set {L : Array Bool} {i : Nat} (h : L.getD i true = false) : unl L = unl (L.setIfInBounds i true) + 1 := by
  have hi : i < L.size := by
    rcases Nat.lt_or_ge i L.size with h1 | h1
    · exact h1
    · simp [Array.getD_eq_getD_getElem?, h1] at h
  have hv : L.toList[i]'(by simpa using hi) = false := by
    simpa [Array.getD_eq_getD_getElem?, hi] using h
  unfold unl
  rw [Array.toList_setIfInBounds, List.count_set (by simpa using hi)]
  have hpos : 0 < L.toList.count false := List.count_pos_iff.2 (by rw [← hv]; exact List.getElem_mem _)
  have e1 : (L.toList[i]'(by simpa using hi) == false) = true := by rw [hv]; rfl
  rw [e1]
  simp only [if_true, show ((true : Bool) == false) = false from rfl, Bool.false_eq_true, if_false]
  omega
section
variable {tb : Tab} {P : Program} {w0 : Base} (hT : TabOk tb P) (hF : FnOk tb P w0) {rc : Rec} (hR : RecOk P w0 rc)
variable {ops : Array Oper} {rs : List Row} {f : Nat → D} {b W : T Nat} {c : List Nat} (R : Run tb rc ops rs f) (St : Stat tb ops rs b W c)
variable {E : Env} {s : S} {w : World} {N : Nat}
theorem all_mem (R : Run tb rc ops rs f) (St : Stat tb ops rs b W c) {L : Array Bool} (hsz : L.size = ops.size) (hr : Region.ready .any ops L = []) : ∀ i, i < ops.size → mem L i := by
  intro i
  induction i using Nat.strongRecOn with
  | _ i ih =>
    intro hi
    by_cases hm : mem L i
    · exact hm
    · exfalso
      have hmem : i ∈ Region.ready .any ops L := by
        rw [mem_ready]
        refine ⟨?_, ops[i], Array.getElem?_eq_getElem hi, fun e he hb => ?_⟩
        · have : L.getD i false = false := by simpa [mem] using hm
          simpa [Array.getD_eq_getD_getElem?, hsz, hi] using this
        · obtain ⟨r, hr', ho, _, hk, _⟩ := St.row i ops[i] (Array.getElem?_eq_getElem hi)
          have hlt := (rowOk_spec hk).edges e (by rw [ho]; simpa using he) hb
          exact ih e.on hlt (by omega)
      rw [hr] at hmem; cases hmem
theorem k_le (R : Run tb rc ops rs f) (St : Stat tb ops rs b W c) : (f rs.length).k ≤ c.length := by
  refine up_ (rs := rs) (α := fun m => (f m).k ≤ c.length) 0 (by rw [R.k0]; exact Nat.zero_le _) ?_ rs.length (Nat.zero_le _) (Nat.le_refl _)
  intro j r _ hr ih
  have h := R.step j r hr
  cases h with
  | chain hc b' hw hk v h nx he ha e =>
    obtain ⟨sp, _, _⟩ := St.spec R hr
    rw [e]
    have := (List.getElem?_eq_some_iff.1 (sp.ch hc)).1
    simp only
    omega
  | _ => rename_i e; rw [e]; exact ih
theorem good_end (R : Run tb rc ops rs f) (St : Stat tb ops rs b W c) {L : Array Bool} {a : Act} {w' : World} (hg : GoodAt tb ops rs f W c E s w N L a w') (hr : Region.ready .any ops L = []) (hmade : ∀ i p, Made tb ops rs f i p → i < ops.size) :
    ∃ E', At E s.h.get s.nx w N E' { t := (f rs.length).t, h := attachAll (f rs.length).pend (f rs.length).cur, nx := (f rs.length).nx, m := s.m } a w' := by
  obtain ⟨K, E', g, hk, nk, GG⟩ := hg
  have hall := all_mem R St GG.sz hr
  have hcK : K = c.length := by
    have h1 := GG.kc
    by_cases h0 : c.length ≤ K
    · omega
    · exfalso
      have hx : c[K]? = some (c[K]'(by omega)) := List.getElem?_eq_getElem _
      generalize c[K]'(by omega) = xK at hx
      have hxm' := List.mem_of_getElem? hx
      rw [St.chain] at hxm'
      obtain ⟨m', o, e, hm, _⟩ := chainOf_mem _ _ _ hxm'
      have hlt : m' < ops.size := by have := (List.getElem?_eq_some_iff.1 hm).1; simpa using this
      have := (GG.ch K _ hx).1 (hall _ (by rw [e]; omega))
      omega
  have hlen := R.len rs.length (Nat.le_refl _)
  have hKk : K = (f rs.length).k := by
    have h1 := (List.getElem?_eq_some_iff.1 GG.hK).1
    simp [Ev.hist, hlen] at h1
    have h2 := k_le R St
    omega
  have hat := R.at_ rs.length (Nat.le_refl _)
  rw [← hKk, GG.hK] at hat
  simp only [Option.some.injEq, Prod.mk.injEq] at hat
  refine ⟨E', ?_, ?_, GG.ms, GG.size⟩
  · rw [← hat.2]
    refine GG.step.narrow fun n o hn => ?_
    simp only at hn
    rcases attachAll_get hn with h | ⟨a', h⟩
    · exact GG.sub n o (by rw [hat.1]; exact h)
    · obtain ⟨h1, i, hi, hm⟩ := R.pend rs.length (Nat.le_refl _) _ h
      exact (GG.pend i _ hm (hall i (hmade i _ hm)) (by rw [hKk]; exact h1)).1
  · intro k v hv
    refine GG.tm k v ?_
    rw [← hv]
    show _ = (f rs.length).t.get k
    rw [tget R St rs.length (Nat.le_refl _) k]
    unfold valAt
    cases hw : W.get k with
    | none => rfl
    | some i =>
      simp only
      rw [St.len]
      by_cases hi : i < ops.size
      · rw [show L.getD i false = true from hall i hi, show Nat.blt i ops.size = true from Nat.ble_eq_true_of_le hi]
      · have e1 : Nat.blt i ops.size = false := by rw [Bool.eq_false_iff]; exact fun e => hi (nblt_lt e)
        have e2 : L.getD i false = false := by simp [Array.getD_eq_getD_getElem?, GG.sz, Nat.le_of_not_lt hi]
        rw [e1, e2]
include hT hF hR in
theorem any_ok {rr : Option Nat} (R : Run tb rc ops rs f) (St : Stat tb ops rs b W c) (ho : Ok w0 E s.h.get s.nx w) (hmx0 : s.nx ≤ (f 0).mx) (hmxn : (f rs.length).mx ≤ (f 0).nx) (hd : ∀ o ∈ ops.toList, ∀ k, o.dst = some k → k < N)
    (Q : Exit → Act → World → Prop) (hQ : ∀ L a w', GoodAt tb ops rs f W c E s w N L a w' → Region.ready .any ops L = [] → Q .normal a w') :
    ∀ (fuel : Nat) (L : Array Bool) (a : Act) (w' : World), GoodAt tb ops rs f W c E s w N L a w' → unl L ≤ fuel → wpAnyIn (FR rr) 0 P .any ops Q fuel L a w' := by
  intro fuel
  induction fuel with
  | zero =>
    intro L a w' hg hu
    have hr : Region.ready .any ops L = [] := by
      cases h : Region.ready .any ops L with
      | nil => rfl
      | cons i l =>
        exfalso
        have : i ∈ Region.ready .any ops L := by rw [h]; exact List.mem_cons_self ..
        have := unl_set (mem_ready.1 this).1
        omega
    exact ⟨hr, hQ L a w' hg hr⟩
  | succ fuel ih =>
    intro L a w' hg hu
    refine ⟨hQ L a w' hg, fun i hi => ?_⟩
    obtain ⟨h1, o, hop, h2⟩ := mem_ready.1 hi
    obtain ⟨K, E', g, hk, nk, GG⟩ := hg
    have hi' : i < ops.size := (Array.getElem?_eq_some_iff.1 hop).1
    obtain ⟨r, hr, hro, _, _, _⟩ := St.row i o hop
    refine good_step hT hF hR R St ho hmx0 hmxn GG hr ?_ ?_ ?_ Q _ fun a2 w2 hg2 => ih _ a2 w2 hg2 (by have := unl_set h1; omega)
    · intro hm
      have h3 : L.getD i false = false := by simpa [Array.getD_eq_getD_getElem?, GG.sz, hi'] using h1
      rw [show L.getD i false = true from hm] at h3; cases h3
    · intro e he hb
      exact h2 e (by rw [hro] at he; simpa using he) hb
    · intro k hk
      exact hd r.o (by rw [hro]; exact Array.mem_toList_iff.2 (Array.mem_of_getElem? hop)) k hk
include hT hF hR in
theorem drawn_ok {r : Option Nat} {ops : Array Oper} {s s' : S} {a : Act} {w : World} {E : Env} {N : Nat} (h : drawn tb rc ops s = some s') (ho : Ok w0 E s.h.get s.nx w) (ht : TR E s.t a.tmps) (hm : MR E s.m a.defers) (hN : a.tmps.size = N)
    (hd : ∀ o ∈ ops.toList, ∀ k, o.dst = some k → k < N) (Q : Exit → Act → World → Prop) (hQ : ∀ E' a' w', At E s.h.get s.nx w N E' s' a' w' → Q .normal a' w') (t : Nat) :
    wpOpsIn (FR r) 0 P ops Q (Region.schedule (P.follows .mixedOrders) ops t) a { w with drawn := w.drawn + 1 } := by
  simp only [Region.schedule, hF.mixed, Bool.true_or, if_true]
  unfold drawn at h
  cases hok : (mkPlan tb ops).ok with
  | false => rw [hok] at h; cases h
  | true =>
    rw [hok, cond_true] at h
    have St := stat_of hok
    split at h
    · cases h
    · rename_i d hrun
      cases hmx : Nat.ble d.mx (s.nx + (mkPlan tb ops).made) with
      | false => rw [hmx] at h; cases h
      | true =>
        rw [hmx, cond_true] at h
        cases h
        obtain ⟨f, hf0, hfn, hfs⟩ := runD_states _ _ _ hrun
        have R : Run tb rc ops (mkPlan tb ops).rows f := ⟨fun m r hr => stepD_spec (hfs m r hr), by rw [hf0], by rw [hf0], by rw [hf0], by rw [hf0], fun m r hr => (St.num hr).1⟩
        have hle := nble_le hmx
        refine wpAnyIn_sound ops.size t _ a _ (any_ok hT hF hR (E := E) (s := s) (w := w) (N := N) R St ho (by rw [hf0]; exact Nat.le_refl _) (by rw [hfn, hf0]; exact hle) hd Q ?_ ops.size _ a _ ?_ ?_)
        · intro L a' w' hg hr
          obtain ⟨E', hat⟩ := good_end R St hg hr (fun i p hm => by
            obtain ⟨r', _, hr', _⟩ := hm
            rw [← St.len]; exact (List.getElem?_eq_some_iff.1 hr').1)
          rw [hfn] at hat
          exact hQ E' a' w' hat
        · have hnm : ∀ i, ¬ mem (Array.replicate ops.size false) i := by
            intro i hm
            unfold mem at hm
            rw [Array.getD_eq_getD_getElem?, Array.getElem?_replicate] at hm
            split at hm <;> simp at hm
          have hh := R.at_ 0 (Nat.zero_le _)
          rw [hf0] at hh
          refine ⟨0, E, s.h.get, s.h, s.nx + (mkPlan tb ops).made, by simp, fun j o _ hj => absurd hj (hnm j), fun m x _ => ⟨fun h => absurd h (hnm x), fun h => absurd h (Nat.not_lt_zero _)⟩, hh, ?_, by rw [hf0]; exact Nat.le_refl _, fun n o h => h, fun i p _ hi => absurd hi (hnm i), ?_, ?_, hm, hN, Nat.zero_le _⟩
          · exact ⟨Env.Le.refl E, fun _ _ => rfl, Nat.le_add_right _ _, fun n hn => ho.fresh n (by omega), ⟨fun n o hn => let ⟨i, hi, hob⟩ := ho.rel.obj n o hn; ⟨i, hi, hob.mono (Env.Le.refl E) rfl⟩, ho.rel.inj⟩, ⟨rfl, rfl, rfl, Nat.le_refl _⟩, fun _ _ _ => rfl, fun _ _ h => h⟩
          · intro i r' hr' _ _
            refine ho.fresh _ ?_
            have := R.mxmono (Nat.zero_le i) (Nat.le_of_lt (List.getElem?_eq_some_iff.1 hr').1)
            rw [hf0] at this
            exact this
          · intro k v hv
            refine ht k v ?_
            rw [← hv]
            unfold valAt
            have : ∀ i, (Array.replicate ops.size false).getD i false = false := fun i => by simpa [mem] using hnm i
            rw [hf0]
            cases (writersOf ops.toList 0 .e).get k <;> simp [this]
        · show unl _ ≤ ops.size
          unfold unl
          exact Nat.le_trans List.count_le_length (by simp)
end
end Ev
