/-
  The abstract evaluator: aggregates are right.
-/
import Derived.Test.YtjcfejncjdhplaaGreatDoorEvRun
import Derived.RangeFuncLeaves
import Derived.Laws.AppendOwn
import Derived.Laws.CopyRow
import Derived.Laws.Entries
import Derived.ChangeKeysEq
import Derived.LaidEql
import Derived.Laws.StructEq
import Derived.Laws.Strings
set_option linter.unusedSectionVars false
set_option linter.unusedVariables false
set_option linter.unusedSimpArgs false
namespace Ev
open Go
theorem nbeq_false {a b : Nat} (h : a ≠ b) : Nat.beq a b = false := by
  rw [← Bool.not_eq_true]; intro hh; exact h (Nat.eq_of_beq_eq_true hh)
theorem nbeq_true {a b : Nat} (h : Nat.beq a b = true) : a = b := Nat.eq_of_beq_eq_true h
theorem nbeq_ne {a b : Nat} (h : Nat.beq a b = false) : a ≠ b := Nat.ne_of_beq_eq_false h
namespace T
variable {α : Type}
theorem get_eq (t : T α) (k : Nat) : t.get k = if k = 0 then t.val else if k % 2 = 1 then t.left.get (k / 2) else t.right.get (k / 2 - 1) := by
  cases t with
  | e => simp [get_e, val, left, right]
  | n l v r =>
    rw [get_n]
    by_cases h0 : k = 0
    · subst h0; simp [val]
    · have : Nat.beq k 0 = false := nbeq_false h0
      rw [this, cond_false, if_neg h0]
      by_cases h1 : k % 2 = 1
      · rw [if_pos h1, h1]; rfl
      · have : Nat.beq (k % 2) 1 = false := nbeq_false h1
        rw [this, cond_false, if_neg h1]; rfl
theorem get_put (x : Option α) : ∀ (f : Nat) (t : T α) (k : Nat), k < f → ∀ j, (put f t k x).get j = if j = k then x else t.get j := by
  intro f
  induction f with
  | zero => intro t k hk; omega
  | succ f ih =>
    intro t k hk j
    rw [put_succ]
    by_cases h0 : k = 0
    · subst h0
      have : Nat.beq 0 0 = true := rfl
      rw [this, cond_true, get_eq, get_eq t]
      by_cases hj : j = 0
      · simp [hj, val]
      · simp [hj, left, right]
    · have hb : Nat.beq k 0 = false := nbeq_false h0
      rw [hb, cond_false]
      by_cases h1 : k % 2 = 1
      · rw [h1]
        have : Nat.beq 1 1 = true := rfl
        rw [this, cond_true, get_eq, get_eq t]
        by_cases hj : j = 0
        · have : j ≠ k := by omega
          simp [hj, val]
          intro h; exact absurd h.symm h0
        · by_cases hj1 : j % 2 = 1
          · simp only [hj, if_false, hj1, if_true, left]
            rw [ih _ (k / 2) (by omega)]
            by_cases hjk : j = k
            · simp [hjk]
            · have : ¬ j / 2 = k / 2 := by omega
              simp [hjk, this]
          · have hjk : j ≠ k := by intro h; subst h; exact hj1 h1
            simp [hj, hj1, right, hjk]
      · have hb1 : Nat.beq (k % 2) 1 = false := nbeq_false h1
        rw [hb1, cond_false, get_eq, get_eq t]
        by_cases hj : j = 0
        · simp [hj, val]
          intro h; exact absurd h.symm h0
        · by_cases hj1 : j % 2 = 1
          · have hjk : j ≠ k := by intro h; subst h; exact h1 hj1
            simp [hj, hj1, left, hjk]
          · simp only [hj, if_false, hj1, right]
            rw [ih _ (k / 2 - 1) (by omega)]
            by_cases hjk : j = k
            · simp [hjk]
            · have : ¬ j / 2 - 1 = k / 2 - 1 := by omega
              simp [hjk, this]
theorem get_set (t : T α) (k : Nat) (x : α) (j : Nat) : (t.set k x).get j = if j = k then some x else t.get j := get_put _ _ _ _ (by omega) _
theorem get_del (t : T α) (k : Nat) (j : Nat) : (t.del k).get j = if j = k then none else t.get j := get_put _ _ _ _ (by omega) _
theorem get_ofList (xs : List α) : ∀ (t : T α) (k j : Nat), (ofList t k xs).get j = if k ≤ j ∧ j < k + xs.length then xs[j - k]? else t.get j := by
  induction xs with
  | nil => intro t k j; simp [ofList]; intro h1 h2; omega
  | cons x xs ih =>
    intro t k j
    rw [ofList, ih, get_set]
    by_cases h : k + 1 ≤ j ∧ j < k + 1 + xs.length
    · have h2 : k ≤ j ∧ j < k + (x :: xs).length := by simp; omega
      rw [if_pos h, if_pos h2]
      have : j - k = (j - (k + 1)) + 1 := by omega
      rw [this]; simp
    · rw [if_neg h]
      by_cases hk : j = k
      · subst hk
        have h2 : j ≤ j ∧ j < j + (x :: xs).length := by simp
        rw [if_pos rfl, if_pos h2]; simp
      · have h2 : ¬ (k ≤ j ∧ j < k + (x :: xs).length) := by simp; omega
        rw [if_neg hk, if_neg h2]
end T
structure Info where
  blk : Nat
  size : Nat
  unit : Nat
  snap : Array MapEntry × Nat := (#[], 0)
def oneV : Value → Prop
  | .agg _ => False
  | .tuple _ => False
  | _ => True
structure Env where
  at_ : Nat → Option Info
  sym : Nat → Value
  one : ∀ i, oneV (sym i)
  kap : Nat := 0
def Env.Le (E E' : Env) : Prop := (E'.sym = E.sym ∧ E'.kap = E.kap) ∧ ∀ n i, E.at_ n = some i → E'.at_ n = some i
theorem Env.Le.refl (E : Env) : E.Le E := ⟨⟨rfl, rfl⟩, fun _ _ h => h⟩
theorem Env.Le.trans {E E' E'' : Env} (h : E.Le E') (h' : E'.Le E'') : E.Le E'' := ⟨⟨h'.1.1.trans h.1.1, h'.1.2.trans h.1.2⟩, fun n i hi => h'.2 n i (h.2 n i hi)⟩
def Env.add (E : Env) (n : Nat) (i : Info) : Env := { E with at_ := fun m => if m = n then some i else E.at_ m }
theorem Env.le_add {E : Env} {n : Nat} {i : Info} (h : E.at_ n = none) : E.Le (E.add n i) :=
  ⟨⟨rfl, rfl⟩, fun m j hj => by
    by_cases hm : m = n
    · subst hm; rw [h] at hj; cases hj
    · simp [Env.add, hm, hj]⟩
theorem Env.add_at (E : Env) (n : Nat) (i : Info) : (E.add n i).at_ n = some i := by simp [Env.add]
theorem Env.add_other (E : Env) (n m : Nat) (i : Info) (h : m ≠ n) : (E.add n i).at_ m = E.at_ m := by simp [Env.add, h]
def capOf (i : Info) (off cap : Nat) : Nat := if cap % 2 = 0 then cap / 2 else max (cap / 2) ((i.size - off) / i.unit)
mutual
def VR (E : Env) : V → Value → Prop
  | .bool b, x => x = .bool b
  | .int k n, x => x = .int k n
  | .str s, x => x = .string ⟨s.toArray⟩
  | .ptr n off, x => ∃ i, E.at_ n = some i ∧ x = .pointer (some ⟨i.blk, off, none⟩)
  | .nilp, x => x = .pointer none
  | .slice n off len cap, x => ∃ i, E.at_ n = some i ∧ x = .slice (some ⟨i.blk, off, none⟩) len (capOf i off cap)
  | .nils, x => x = .slice none 0 0
  | .map n, x => ∃ i, E.at_ n = some i ∧ x = .map (some i.blk)
  | .nilm, x => x = .map none
  | .fn f a b, x => ∃ xs ys, VRL E a xs ∧ VRL E b ys ∧ x = .func (.func f) xs.toArray ys.toArray
  | .yld l, x => ∃ i, E.at_ l = some i ∧ x = .func (.yield i.blk) #[] #[]
  | .nilf, x => x = .nilFunc
  | .iface t v, x => ∃ y, VR E v y ∧ x = .iface t y
  | .nili, x => x = .nilIface
  | .agg cs, x => ∃ xs, VRL E cs xs ∧ x = .agg xs.toArray
  | .tup cs, x => ∃ xs, VRL E cs xs ∧ x = .tuple xs.toArray
  | .sym i, x => x = E.sym i
def VRL (E : Env) : List V → List Value → Prop
  | [], xs => xs = []
  | v :: vs, xs => ∃ y ys, xs = y :: ys ∧ VR E v y ∧ VRL E vs ys
end
mutual
theorem VR.mono {E E' : Env} (h : E.Le E') : ∀ (v : V) (x : Value), VR E v x → VR E' v x
  | .bool _, _, hx | .int _ _, _, hx | .str _, _, hx | .nilp, _, hx | .nils, _, hx | .nilm, _, hx | .nilf, _, hx | .nili, _, hx => hx
  | .ptr _ _, _, ⟨i, hi, hx⟩ => ⟨i, h.2 _ _ hi, hx⟩
  | .slice _ _ _ _, _, ⟨i, hi, hx⟩ => ⟨i, h.2 _ _ hi, hx⟩
  | .map _, _, ⟨i, hi, hx⟩ => ⟨i, h.2 _ _ hi, hx⟩
  | .yld _, _, ⟨i, hi, hx⟩ => ⟨i, h.2 _ _ hi, hx⟩
  | .fn _ a b, _, ⟨xs, ys, ha, hb, hx⟩ => ⟨xs, ys, VRL.mono h a xs ha, VRL.mono h b ys hb, hx⟩
  | .iface _ v, _, ⟨y, hy, hx⟩ => ⟨y, VR.mono h v y hy, hx⟩
  | .agg cs, _, ⟨xs, hs, hx⟩ => ⟨xs, VRL.mono h cs xs hs, hx⟩
  | .tup cs, _, ⟨xs, hs, hx⟩ => ⟨xs, VRL.mono h cs xs hs, hx⟩
  | .sym i, x, hx => by
    have hx' : x = E.sym i := hx
    show x = E'.sym i
    rw [h.1.1]; exact hx'
theorem VRL.mono {E E' : Env} (h : E.Le E') : ∀ (vs : List V) (xs : List Value), VRL E vs xs → VRL E' vs xs
  | [], _, hx => hx
  | v :: vs, _, ⟨y, ys, e, hy, hs⟩ => ⟨y, ys, e, VR.mono h v y hy, VRL.mono h vs ys hs⟩
end
mutual
theorem VR.det {E : Env} : ∀ (v : V) (x y : Value), VR E v x → VR E v y → x = y
  | .bool _, _, _, hx, hy | .int _ _, _, _, hx, hy | .str _, _, _, hx, hy | .nilp, _, _, hx, hy | .nils, _, _, hx, hy | .nilm, _, _, hx, hy | .nilf, _, _, hx, hy
  | .nili, _, _, hx, hy | .sym _, _, _, hx, hy => by rw [show _ = _ from hx, show _ = _ from hy]
  | .ptr _ _, _, _, ⟨i, hi, hx⟩, ⟨j, hj, hy⟩ => by rw [hi] at hj; cases hj; rw [hx, hy]
  | .slice _ _ _ _, _, _, ⟨i, hi, hx⟩, ⟨j, hj, hy⟩ => by rw [hi] at hj; cases hj; rw [hx, hy]
  | .map _, _, _, ⟨i, hi, hx⟩, ⟨j, hj, hy⟩ => by rw [hi] at hj; cases hj; rw [hx, hy]
  | .yld _, _, _, ⟨i, hi, hx⟩, ⟨j, hj, hy⟩ => by rw [hi] at hj; cases hj; rw [hx, hy]
  | .fn _ a b, _, _, ⟨xs, ys, ha, hb, hx⟩, ⟨xs', ys', ha', hb', hy⟩ => by rw [hx, hy, VRL.det a xs xs' ha ha', VRL.det b ys ys' hb hb']
  | .iface _ v, _, _, ⟨y, hv, hx⟩, ⟨y', hv', hy⟩ => by rw [hx, hy, VR.det v y y' hv hv']
  | .agg cs, _, _, ⟨xs, hs, hx⟩, ⟨xs', hs', hy⟩ => by rw [hx, hy, VRL.det cs xs xs' hs hs']
  | .tup cs, _, _, ⟨xs, hs, hx⟩, ⟨xs', hs', hy⟩ => by rw [hx, hy, VRL.det cs xs xs' hs hs']
theorem VRL.det {E : Env} : ∀ (vs : List V) (xs ys : List Value), VRL E vs xs → VRL E vs ys → xs = ys
  | [], _, _, hx, hy => by rw [show _ = _ from hx, show _ = _ from hy]
  | v :: vs, _, _, ⟨y, ys, e, hy, hs⟩, ⟨y', ys', e', hy', hs'⟩ => by rw [e, e', VR.det v y y' hy hy', VRL.det vs ys ys' hs hs']
end
namespace VRL
variable {E : Env}
theorem length : ∀ {vs : List V} {xs : List Value}, VRL E vs xs → xs.length = vs.length
  | [], _, hx => by rw [show _ = _ from hx]; rfl
  | _ :: vs, _, ⟨_, ys, e, _, hs⟩ => by rw [e]; simp [length hs]
theorem append : ∀ {vs ws : List V} {xs ys : List Value}, VRL E vs xs → VRL E ws ys → VRL E (vs ++ ws) (xs ++ ys)
  | [], _, _, _, hx, hy => by rw [show _ = _ from hx]; exact hy
  | _ :: _, _, _, ys, ⟨z, zs, e, hz, hs⟩, hy => by rw [e]; exact ⟨z, zs ++ ys, rfl, hz, append hs hy⟩
theorem nil : VRL E [] [] := rfl
theorem cons {v : V} {vs : List V} {x : Value} {xs : List Value} (h : VR E v x) (hs : VRL E vs xs) : VRL E (v :: vs) (x :: xs) := ⟨x, xs, rfl, h, hs⟩
theorem get : ∀ {vs : List V} {xs : List Value}, VRL E vs xs → ∀ {i : Nat} {v : V}, vs[i]? = some v → ∃ x, xs[i]? = some x ∧ VR E v x
  | [], _, _, i, v, h => by simp at h
  | _ :: _, _, ⟨y, ys, e, hy, hs⟩, 0, v, h => by
    simp at h; subst h; exact ⟨y, by rw [e]; rfl, hy⟩
  | _ :: _, _, ⟨y, ys, e, hy, hs⟩, i + 1, v, h => by
    simp at h
    obtain ⟨x, hx, hr⟩ := get hs h
    exact ⟨x, by rw [e]; simpa using hx, hr⟩
theorem take : ∀ {vs : List V} {xs : List Value} (n : Nat), VRL E vs xs → VRL E (vs.take n) (xs.take n)
  | _, _, 0, _ => by simp [VRL]
  | [], _, n + 1, hx => by rw [show _ = _ from hx]; simp [VRL]
  | _ :: _, _, n + 1, ⟨y, ys, e, hy, hs⟩ => by rw [e]; exact ⟨y, _, rfl, hy, take n hs⟩
theorem drop : ∀ {vs : List V} {xs : List Value} (n : Nat), VRL E vs xs → VRL E (vs.drop n) (xs.drop n)
  | _, _, 0, h => by simpa using h
  | [], _, n + 1, hx => by rw [show _ = _ from hx]; simp [VRL]
  | _ :: _, _, n + 1, ⟨y, ys, e, hy, hs⟩ => by rw [e]; simpa using drop n hs
end VRL
end Ev
namespace Ev
open Go
def TR (E : Env) (t : T V) (tmps : Array Value) : Prop := ∀ k v, t.get k = some v → ∃ x, tmps[k]? = some x ∧ VR E v x
theorem TR.mono {E E' : Env} (h : E.Le E') {t : T V} {tmps : Array Value} (ht : TR E t tmps) : TR E' t tmps :=
  fun k v hk => let ⟨x, hx, hv⟩ := ht k v hk; ⟨x, hx, VR.mono h v x hv⟩
def CellsR (E : Env) (c : List V) (rc : Array Value) : Prop := ∃ xs rest, VRL E c xs ∧ rc.toList = xs ++ rest
theorem CellsR.mono {E E' : Env} (h : E.Le E') {c : List V} {rc : Array Value} (hc : CellsR E c rc) : CellsR E' c rc :=
  let ⟨xs, rest, hx, e⟩ := hc; ⟨xs, rest, VRL.mono h c xs hx, e⟩
def EntR (E : Env) : List (V × V) → List MapEntry → Prop
  | [], ms => ms = []
  | e :: es, ms => ∃ m rest, ms = m :: rest ∧ VR E e.1 m.key ∧ VR E e.2 m.val ∧ EntR E es rest
theorem EntR.mono {E E' : Env} (h : E.Le E') : ∀ {es : List (V × V)} {ms : List MapEntry}, EntR E es ms → EntR E' es ms
  | [], _, hx => hx
  | _ :: _, _, ⟨m, rest, he, hk, hv, hr⟩ => ⟨m, rest, he, VR.mono h _ _ hk, VR.mono h _ _ hv, EntR.mono h hr⟩
def MapR (E : Env) (es : List (V × V)) (res : Array MapEntry) (clock : Nat) : Prop :=
  (∃ ms, EntR E es ms ∧ ms.Perm res.toList) ∧ res.toList.Pairwise (fun a b => a.born ≠ b.born) ∧ ∀ e ∈ res.toList, e.born < clock
theorem MapR.mono {E E' : Env} (h : E.Le E') {es : List (V × V)} {res : Array MapEntry} {clock : Nat} (hm : MapR E es res clock) : MapR E' es res clock :=
  let ⟨⟨ms, he, hp⟩, r⟩ := hm; ⟨⟨ms, he.mono h, hp⟩, r⟩
def LftR (E : Env) (L : Lft) (ms : List MapEntry) : Prop := ∃ a b, ms = a ++ b ∧ EntR E L.must a ∧ b.length = L.k ∧ ∀ y ∈ b, ∃ p ∈ L.may, VR E p.1 y.key ∧ VR E p.2 y.val
theorem LftR.mono {E E' : Env} (h : E.Le E') {L : Lft} {ms : List MapEntry} : LftR E L ms → LftR E' L ms :=
  fun ⟨a, b, e, ha, hb, hm⟩ => ⟨a, b, e, ha.mono h, hb, fun y hy => let ⟨p, hp, h1, h2⟩ := hm y hy; ⟨p, hp, VR.mono h _ _ h1, VR.mono h _ _ h2⟩⟩
theorem LftR.of {E : Env} {f : V × V → Bool} : ∀ {es : List (V × V)} {ms : List MapEntry}, EntR E es ms → ∃ ms', LftR E ⟨es.filter fun e => !f e, es.filter f, (es.filter f).length⟩ ms' ∧ ms'.Perm ms
  | [], ms, h => by
    rw [show ms = [] from h]
    exact ⟨[], ⟨[], [], rfl, rfl, rfl, fun y hy => by cases hy⟩, .refl _⟩
  | e :: es, _, ⟨m, rest, rfl, hk, hv, hr⟩ => by
    obtain ⟨_, ⟨a, b, rfl, ha, hb, hm⟩, hp⟩ := LftR.of (f := f) hr
    cases hf : f e with
    | false =>
      refine ⟨m :: a ++ b, ⟨m :: a, b, rfl, ?_, ?_, ?_⟩, hp.cons m⟩
      · simp only [List.filter_cons, hf, Bool.not_false, if_true]
        exact ⟨m, a, rfl, hk, hv, ha⟩
      · simpa [List.filter_cons, hf] using hb
      · simpa [List.filter_cons, hf] using hm
    | true =>
      refine ⟨a ++ (m :: b), ⟨a, m :: b, rfl, ?_, ?_, ?_⟩, List.perm_middle.trans (hp.cons m)⟩
      · simpa [List.filter_cons, hf] using ha
      · simpa [List.filter_cons, hf] using hb
      · intro y hy
        simp only [List.filter_cons, hf, if_true]
        rcases List.mem_cons.1 hy with rfl | hy
        · exact ⟨e, List.mem_cons_self .., hk, hv⟩
        · obtain ⟨p, hp, h⟩ := hm y hy
          exact ⟨p, List.mem_cons_of_mem _ hp, h⟩
def IterR (E : Env) (left : Lft) (last : Option (V × V)) (res : Array MapEntry) (clock : Nat) (seen : Array Nat) : Prop :=
  (∃ ms, LftR E left ms ∧ ms.Perm (res.toList.filter fun e => !seen.contains e.born)) ∧ (∀ e ∈ res.toList, e.born < clock) ∧ res.toList.Pairwise (fun a b => a.born ≠ b.born) ∧
    (∀ p, last = some p → ∃ e ∈ res.toList, seen.back? = some e.born ∧ VR E p.1 e.key ∧ VR E p.2 e.val)
theorem IterR.mono {E E' : Env} (h : E.Le E') {left : Lft} {last : Option (V × V)} {res : Array MapEntry} {clock : Nat} {seen : Array Nat} (hm : IterR E left last res clock seen) :
    IterR E' left last res clock seen :=
  let ⟨⟨ms, he, hp⟩, h1, h2, h3⟩ := hm
  ⟨⟨ms, he.mono h, hp⟩, h1, h2, fun p hp => let ⟨e, he, hs, hk, hv⟩ := h3 p hp; ⟨e, he, hs, VR.mono h _ _ hk, VR.mono h _ _ hv⟩⟩
def ObjR (E : Env) (w : World) (i : Info) : O → Prop
  | .cells c e u fz => i.unit = u ∧ ∃ rc fr, w.heap[i.blk]? = some (.cells rc e fr) ∧ rc.size = i.size ∧ (fz = false → fr = (0, 0)) ∧ CellsR E c rc
  | .map es none => ∃ res clock, w.heap[i.blk]? = some (.map res clock) ∧ MapR E es res clock
  | .map es (some r) => ∃ j, E.at_ r = some j ∧ w.heap[i.blk]? = some (.map j.snap.1 j.snap.2) ∧ MapR E es j.snap.1 j.snap.2
  | .iter m left last => ∃ j seen, E.at_ m = some j ∧ w.heap[i.blk]? = some (.mapIter (some j.blk) i.snap.2 seen i.snap.2) ∧ IterR E left last i.snap.1 i.snap.2 seen
  | .loop st pend t ps assign body d => ∃ dd fn tmps, E.at_ d = some dd ∧
      w.heap[i.blk]? = some (.loop { state := st, pending := pend, fn := fn, tmps := tmps, params := ps.toArray, assign := assign, body := body, defers := dd.blk }) ∧
      TR E t tmps ∧ dstOk tmps.size assign = true ∧ dstOk tmps.size body = true ∧ ps.all (Nat.blt · tmps.size) = true
  | .defer b => b = true ∧ w.heap[i.blk]? = some (.deferred (some []))
theorem ObjR.mono {E E' : Env} (h : E.Le E') {w w' : World} {i : Info} {o : O} (hw : w'.heap[i.blk]? = w.heap[i.blk]?) (ho : ObjR E w i o) : ObjR E' w' i o := by
  cases o with
  | cells c e u fz => obtain ⟨hu, rc, fr, h1, h2, h3, h4⟩ := ho; exact ⟨hu, rc, fr, hw.trans h1, h2, h3, h4.mono h⟩
  | map es l =>
    cases l with
    | none => obtain ⟨res, clock, h1, h2⟩ := ho; exact ⟨res, clock, hw.trans h1, h2.mono h⟩
    | some r => obtain ⟨j, h0, h1, h2⟩ := ho; exact ⟨j, h.2 _ _ h0, hw.trans h1, h2.mono h⟩
  | iter m left last => obtain ⟨j, seen, h0, h1, h2⟩ := ho; exact ⟨j, seen, h.2 _ _ h0, hw.trans h1, h2.mono h⟩
  | loop st pend t ps assign body d => obtain ⟨dd, fn, tmps, h0, h1, h2, h3⟩ := ho; exact ⟨dd, fn, tmps, h.2 _ _ h0, hw.trans h1, h2.mono h, h3⟩
  | defer b => exact ⟨ho.1, hw.trans ho.2⟩
theorem ObjR.lt {E : Env} {w : World} {i : Info} {o : O} (ho : ObjR E w i o) : i.blk < w.heap.size := by
  have key : ∀ x, w.heap[i.blk]? = some x → i.blk < w.heap.size := fun x hx => (Array.getElem?_eq_some_iff.1 hx).1
  cases o with
  | cells c e u fz => obtain ⟨_, _, _, h1, _⟩ := ho; exact key _ h1
  | map es l =>
    cases l with
    | none => obtain ⟨_, _, h1, _⟩ := ho; exact key _ h1
    | some r => obtain ⟨_, _, h1, _⟩ := ho; exact key _ h1
  | iter m left last => obtain ⟨_, _, _, h1, _⟩ := ho; exact key _ h1
  | loop st pend t ps assign body d => obtain ⟨_, _, _, _, h1, _⟩ := ho; exact key _ h1
  | defer b => exact key _ ho.2
abbrev G := Nat → Option O
structure Rel (E : Env) (g : G) (w : World) : Prop where
  obj : ∀ n o, g n = some o → ∃ i, E.at_ n = some i ∧ ObjR E w i o
  inj : ∀ n m o p i j, g n = some o → g m = some p → E.at_ n = some i → E.at_ m = some j → i.blk = j.blk → n = m
def Foot (E : Env) (g : G) (b : Nat) : Prop := ∃ n o i, g n = some o ∧ E.at_ n = some i ∧ i.blk = b
def Fresh (E : Env) (nx : Nat) : Prop := ∀ n, nx ≤ n → E.at_ n = none
structure Grew (w w' : World) : Prop where
  tape : w'.tape = w.tape
  os : w'.os = w.os
  output : w'.output = w.output
  size : w.heap.size ≤ w'.heap.size
theorem Grew.refl (w : World) : Grew w w := ⟨rfl, rfl, rfl, Nat.le_refl _⟩
theorem Grew.trans {w w' w'' : World} (h : Grew w w') (h' : Grew w' w'') : Grew w w'' :=
  ⟨h'.tape.trans h.tape, h'.os.trans h.os, h'.output.trans h.output, Nat.le_trans h.size h'.size⟩
structure Step (E : Env) (g : G) (nx : Nat) (w : World) (E' : Env) (g' : G) (nx' : Nat) (w' : World) : Prop where
  le : E.Le E'
  old : ∀ n, n < nx → E'.at_ n = E.at_ n
  mono : nx ≤ nx'
  fresh : Fresh E' nx'
  rel : Rel E' g' w'
  grew : Grew w w'
  frame : ∀ b, b < w.heap.size → ¬ Foot E g b → w'.heap[b]? = w.heap[b]?
  foot : ∀ b, b < w.heap.size → Foot E' g' b → Foot E g b
theorem Step.refl {E : Env} {g : G} {nx : Nat} {w : World} (hr : Rel E g w) (hf : Fresh E nx) : Step E g nx w E g nx w :=
  ⟨Env.Le.refl E, fun _ _ => rfl, Nat.le_refl _, hf, hr, Grew.refl w, fun _ _ _ => rfl, fun _ _ h => h⟩
theorem Step.trans {E E1 E2 : Env} {g g1 g2 : G} {nx nx1 nx2 : Nat} {w w1 w2 : World} (h : Step E g nx w E1 g1 nx1 w1) (h' : Step E1 g1 nx1 w1 E2 g2 nx2 w2) : Step E g nx w E2 g2 nx2 w2 where
  le := h.le.trans h'.le
  old n hn := (h'.old n (Nat.lt_of_lt_of_le hn h.mono)).trans (h.old n hn)
  mono := Nat.le_trans h.mono h'.mono
  fresh := h'.fresh
  rel := h'.rel
  grew := h.grew.trans h'.grew
  frame b hb hn := (h'.frame b (Nat.lt_of_lt_of_le hb h.grew.size) fun hf => hn (h.foot b hb hf)).trans (h.frame b hb hn)
  foot b hb hf := h.foot b hb (h'.foot b (Nat.lt_of_lt_of_le hb h.grew.size) hf)
theorem Rel.sub {E : Env} {g g' : G} {w : World} (h : Rel E g w) (hs : ∀ n o, g' n = some o → g n = some o) : Rel E g' w :=
  ⟨fun n o hn => h.obj n o (hs n o hn), fun n m o p i j hn hm => h.inj n m o p i j (hs n o hn) (hs m p hm)⟩
def join (g' g k : G) : G := fun n => match g' n with
  | some o => some o
  | none => match g n with
    | some _ => none
    | none => k n
theorem Step.frames {E E' : Env} {g g' k : G} {nx nx' : Nat} {w w' : World} (h : Step E g nx w E' g' nx' w') (hG : Rel E k w) (hs : ∀ n o, g n = some o → k n = some o) (hf : Fresh E nx) :
    Step E k nx w E' (join g' g k) nx' w' := by
  have hfoot : ∀ b, Foot E g b → Foot E k b := fun b ⟨n, o, i, hn, hi, hb⟩ => ⟨n, o, i, hs n o hn, hi, hb⟩
  have hlt : ∀ n i, E.at_ n = some i → n < nx := fun n i hi => by
    rcases Nat.lt_or_ge n nx with h | h
    · exact h
    · rw [hf n h] at hi; cases hi
  have hj : ∀ n o, join g' g k n = some o → g' n = some o ∨ (g' n = none ∧ g n = none ∧ k n = some o) := by
    intro n o hn
    unfold join at hn
    cases h1 : g' n with
    | some x => simp only [h1] at hn; exact .inl hn
    | none =>
      simp only [h1] at hn
      cases h2 : g n with
      | some x => simp [h2] at hn
      | none => simp only [h2] at hn; exact .inr ⟨rfl, rfl, hn⟩
  have hout : ∀ n o i, g n = none → k n = some o → E.at_ n = some i → ¬ Foot E g i.blk := by
    rintro n o i hn hG' hi ⟨m, p, j, hm, hj', hb⟩
    have := hG.inj n m o p i j hG' (hs m p hm) hi hj' hb.symm
    subst this
    rw [hn] at hm; cases hm
  refine ⟨h.le, h.old, h.mono, h.fresh, ⟨?_, ?_⟩, h.grew, fun b hb hn => h.frame b hb fun hx => hn (hfoot b hx), ?_⟩
  · intro n o hn
    rcases hj n o hn with h1 | ⟨_, h2, h3⟩
    · exact h.rel.obj n o h1
    · obtain ⟨i, hi, ho⟩ := hG.obj n o h3
      exact ⟨i, h.le.2 n i hi, ho.mono h.le (h.frame _ ho.lt (hout n o i h2 h3 hi))⟩
  · intro n m o p i j hn hm hi hj' hb
    rcases hj n o hn with h1 | ⟨_, h2, h3⟩ <;> rcases hj m p hm with k1 | ⟨_, k2, k3⟩
    · exact h.rel.inj n m o p i j h1 k1 hi hj' hb
    · exfalso
      obtain ⟨j0, hj0, hoj⟩ := hG.obj m p k3
      have : j0 = j := by have := h.le.2 m j0 hj0; rw [hj'] at this; exact (Option.some.inj this).symm
      subst this
      exact hout m p j0 k2 k3 hj0 (h.foot _ hoj.lt ⟨n, o, i, h1, hi, hb⟩)
    · exfalso
      obtain ⟨i0, hi0, hoi⟩ := hG.obj n o h3
      have : i0 = i := by have := h.le.2 n i0 hi0; rw [hi] at this; exact (Option.some.inj this).symm
      subst this
      exact hout n o i0 h2 h3 hi0 (h.foot _ hoi.lt ⟨m, p, j, k1, hj', hb.symm⟩)
    · obtain ⟨i0, hi0, _⟩ := hG.obj n o h3
      obtain ⟨j0, hj0, _⟩ := hG.obj m p k3
      have e1 : i0 = i := by have := h.le.2 n i0 hi0; rw [hi] at this; exact (Option.some.inj this).symm
      have e2 : j0 = j := by have := h.le.2 m j0 hj0; rw [hj'] at this; exact (Option.some.inj this).symm
      subst e1; subst e2
      exact hG.inj n m o p i0 j0 h3 k3 hi0 hj0 hb
  · rintro b hb ⟨n, o, i, hn, hi, hbb⟩
    rcases hj n o hn with h1 | ⟨_, _, h3⟩
    · exact hfoot b (h.foot b hb ⟨n, o, i, h1, hi, hbb⟩)
    · obtain ⟨i0, hi0, _⟩ := hG.obj n o h3
      have e1 : i0 = i := by have := h.le.2 n i0 hi0; rw [hi] at this; exact (Option.some.inj this).symm
      subst e1
      exact ⟨n, o, i0, h3, hi0, hbb⟩
end Ev
namespace Ev
open Go
structure TabOk (tb : Tab) (P : Program) : Prop where
  fn : ∀ k f, tb.fn k = some f → P.funcs[k]? = some f
  und : ∀ t d, tb.und t = some d → P.underlying t = some d
  inf : ∀ t i, tb.inf t = some i → P.info? t = some i
  guard : ∀ t, tb.guard t = false → P.eqGuardType P.depth t = false
  held : ∀ t, tb.held t = false → P.stoodInHeld t = false
def cutLo (j : IntKind) (k : Nat) : Option Value := if k < 1000 then none else some (.int j (Int.ofNat (k - 1000)))
def cutHi (j : IntKind) (k : Nat) : Option Value := if k < 1000 then some (.int j (Int.ofNat k)) else none
class SR (tb : Tab) (P : Program) (E : Env) : Prop where
  eqs : ∀ x y b, tb.eqs x y = some b → ∀ rx ry, VR E x rx → VR E y ry → ∃ s t : ByteArray, rx = .string s ∧ ry = .string t ∧ b = (s.toList == t.toList)
  eqi : ∀ x y b, tb.eqi x y = some b → ∀ rx ry, VR E x rx → VR E y ry → ∃ (k : IntKind) (m n : Int), rx = .int k m ∧ ry = .int k n ∧ b = (m == n)
  bin : ∀ op a b v, tb.bin op a b = some v → ∀ ra rb, VR E a ra → VR E b rb → ∀ (t : TypeId) (x y : Operand) (w : World), ∃ r, (do eqGuard op t x y ra rb; Go.binOp op t ra rb : Sem Value).run P w = .ok r w ∧ VR E v r
  conv : ∀ src dst a v, tb.conv src dst a = some v → ∀ ra, VR E a ra → ∀ w : World, ∃ r, (Go.convert src dst ra).run P w = .ok r w ∧ VR E v r
  key : ∀ i, tb.keyS i = true → (∃ k n, E.sym i = .int k n) ∨ ∃ s, E.sym i = .string s
  len : ∀ i n, tb.lenS i = some n → ∃ a c, E.sym i = .slice a n c
  cut : ∀ ty i k v, tb.cutS ty i k = some v → ∀ (j : IntKind) (w : World), ∃ r, (Instr.sliceAt ty (E.sym i) (cutLo j k) (cutHi j k) none).run P w = .ok r w ∧ VR E v r
  adr : ∀ ty i k v, tb.adrS ty i k = some v → ∀ (j : IntKind) (w : World), ∃ r, (Instr.indexAt ty (E.sym i) (.int j (Int.ofNat k))).run P w = .ok r w ∧ VR E v r
theorem nblt_lt {a b : Nat} (h : Nat.blt a b = true) : a < b := Nat.le_of_ble_eq_true h
theorem nble_le {a b : Nat} (h : Nat.ble a b = true) : a ≤ b := Nat.le_of_ble_eq_true h
def GlobOk (E : Env) : Prop := ∀ g, g < 32 → ∃ i, E.at_ g = some i ∧ i.blk = g
section
variable {tb : Tab} {P : Program} (hT : TabOk tb P) {E : Env} {w : World}
include hT
theorem size_run {t n : Nat} (h : tb.size t = some n) (w : World) : (Go.sizeOf t).run P w = .ok n w := by
  unfold Tab.size at h
  cases hi : tb.inf t with
  | none => simp [hi] at h
  | some i =>
    simp [hi] at h
    simp [Go.sizeOf, typeInfo, hT.inf t i hi, h]
theorem isAgg_run {t : Nat} {b : Bool} (h : tb.isAgg t = some b) (w : World) : (isAgg t).run P w = .ok b w := by
  unfold Tab.isAgg at h
  cases hd : tb.und t with
  | none => simp [hd] at h
  | some d =>
    simp [hd] at h
    subst h
    simp only [Go.isAgg, Sem.run_bind, run_underlying (hT.und t d hd), Result.andThen_ok]
    cases d <;> rfl
end
theorem cut_some {c r : List V} {off n : Nat} (h : cut c off n = some r) : r = (c.drop off).take n ∧ r.length = n := by
  unfold cut at h
  simp only at h
  cases hb : Nat.beq ((c.drop off).take n).length n with
  | false => rw [hb] at h; cases h
  | true =>
    simp only [hb, cond_true, Option.some.injEq] at h
    subst h
    exact ⟨rfl, nbeq_true hb⟩
section
variable {tb : Tab} {P : Program} (hT : TabOk tb P) {E : Env} {w : World}
include hT
theorem part_ok {t off : Nat} {cs : List V} {xs : List Value} {v : V} (h : part tb t cs off = some v) (hx : VRL E cs xs) (w : World) :
    ∃ x, (Go.part t xs.toArray off).run P w = .ok x w ∧ VR E v x := by
  unfold part at h
  cases ha : tb.isAgg t with
  | none => simp [ha] at h
  | some b =>
    cases b with
    | true =>
      simp only [ha] at h
      cases hs : tb.size t with
      | none => simp [hs] at h
      | some n =>
        simp only [hs] at h
        cases hc : cut cs off n with
        | none => simp [hc] at h
        | some r =>
          simp [hc] at h
          subst h
          obtain ⟨rfl, hl⟩ := cut_some hc
          refine ⟨.agg ((xs.drop off).take n).toArray, ?_, _, (hx.drop off).take n, rfl⟩
          simp only [Go.part, Sem.run_bind, isAgg_run hT ha, Result.andThen_ok, if_true, size_run hT hs, Sem.run_pure]
          congr 2
          apply Array.ext'
          simp [List.take_drop]
    | false =>
      simp only [ha] at h
      obtain ⟨x, h1, h2⟩ := hx.get h
      refine ⟨x, ?_, h2⟩
      simp [Go.part, isAgg_run hT ha, h1]
end
theorem add_off (b off n : Nat) : (⟨b, off, none⟩ : Addr).add n = ⟨b, off + n, none⟩ := by
  unfold Addr.add; split <;> simp_all
theorem cell_of {w : World} {b off : Nat} {rc : Array Value} {e : TypeId} {fr : Nat × Nat} (h : w.heap[b]? = some (.cells rc e fr)) : w.cell? ⟨b, off, none⟩ = rc[off]? := by
  simp [World.cell?, h]
section
variable {tb : Tab} {P : Program} (hT : TabOk tb P) {E : Env} {w : World}
include hT
theorem partld_ok {c : List V} {t off b : Nat} {v : V} {rc : Array Value} {e : TypeId} {fr : Nat × Nat} (h : part tb t c off = some v) (h1 : w.heap[b]? = some (.cells rc e fr)) (hc : CellsR E c rc) :
    ∃ x, (loadVar t ⟨b, off, none⟩).run P w = .ok x w ∧ VR E v x := by
  obtain ⟨xs, rest, hx, hrc⟩ := hc
  unfold part at h
  cases ha : tb.isAgg t with
  | none => simp [ha] at h
  | some bb =>
    cases bb with
    | true =>
      simp only [ha] at h
      cases hs : tb.size t with
      | none => simp [hs] at h
      | some k =>
        simp only [hs] at h
        cases hc : cut c off k with
        | none => simp [hc] at h
        | some r =>
          simp [hc] at h
          subst h
          obtain ⟨rfl, hl⟩ := cut_some hc
          have hlen : ((xs.drop off).take k).length = k := by rw [((hx.drop off).take k).length, hl]
          refine ⟨.agg ((xs.drop off).take k).toArray, ?_, _, (hx.drop off).take k, rfl⟩
          have hld := run_loadCells_list (P := P) w ⟨b, off, none⟩ ((xs.drop off).take k) (fun j y hj => by
            rw [add_off, cell_of h1]
            have hj' : j < k := by
              have := (List.getElem?_eq_some_iff.1 hj).1
              omega
            rw [List.getElem?_take, if_pos hj', List.getElem?_drop] at hj
            rw [← Array.getElem?_toList, hrc, List.getElem?_append_left (List.getElem?_eq_some_iff.1 hj).1]
            exact hj)
          rw [hlen] at hld
          simp [loadVar, isAgg_run hT ha, size_run hT hs, hld]
    | false =>
      simp only [ha] at h
      obtain ⟨x, hx1, hx2⟩ := hx.get h
      refine ⟨x, ?_, hx2⟩
      have : w.cell? ⟨b, off, none⟩ = some x := by
        rw [cell_of h1, ← Array.getElem?_toList, hrc, List.getElem?_append_left (List.getElem?_eq_some_iff.1 hx1).1]
        exact hx1
      simp [loadVar, isAgg_run hT ha, this]
theorem load_ok {g : H} {t n off : Nat} {v : V} {i : Info} (h : load tb g t n off = some v) (hr : Rel E g.get w) (hi : E.at_ n = some i) :
    ∃ x, (loadVar t ⟨i.blk, off, none⟩).run P w = .ok x w ∧ VR E v x := by
  unfold load at h
  split at h
  · rename_i hg
    obtain ⟨i', hi', hu, rc, fr, h1, h2, h3, h4⟩ := hr.obj n _ hg
    rw [hi] at hi'; cases hi'
    exact partld_ok hT h h1 h4
  · cases h
omit hT in
structure GR (tb : Tab) (E : Env) (w : World) : Prop where
  glob : ∀ n c, tb.glob n = some c → ∃ i rc e fr, E.at_ n = some i ∧ w.heap[i.blk]? = some (.cells rc e fr) ∧ CellsR E c rc
  ld : ∀ ty i v, tb.ldS ty i = some v → ∃ ad cs xs, E.sym i = .pointer (some ad) ∧ ((tb.isAgg ty = some true ∧ tb.size ty = some cs.length ∧ v = .agg cs) ∨ (tb.isAgg ty = some false ∧ cs = [v])) ∧ VRL E cs xs ∧ ∀ j y, xs[j]? = some y → w.cell? (ad.add j) = some y
theorem loadG_ok {g : H} {t n off : Nat} {v : V} {i : Info} (h : loadG tb g t n off = some v) (hr : Rel E g.get w) (hG : GR tb E w) (hi : E.at_ n = some i) :
    ∃ x, (loadVar t ⟨i.blk, off, none⟩).run P w = .ok x w ∧ VR E v x := by
  unfold loadG at h
  split at h
  · rename_i hg
    obtain ⟨i', hi', hu, rc, fr, h1, h2, h3, h4⟩ := hr.obj n _ hg
    rw [hi] at hi'; cases hi'
    exact partld_ok hT h h1 h4
  · cases h
  · split at h
    · rename_i c hc
      obtain ⟨j, rc, e, fr, hj, h1, h2⟩ := hG.glob n c hc
      rw [hi] at hj; cases hj
      exact partld_ok hT h h1 h2
    · cases h
end
section
variable {tb : Tab} {P : Program} (hT : TabOk tb P) {E : Env} {w : World}
include hT
theorem ldS_ok {ty i : Nat} {v : V} (h : tb.ldS ty i = some v) (hG : GR tb E w) : ∃ ad x, E.sym i = .pointer (some ad) ∧ (loadVar ty ad).run P w = .ok x w ∧ VR E v x := by
  obtain ⟨ad, cs, xs, e, hk, hx, hc⟩ := hG.ld ty i v h
  rcases hk with ⟨ha, hs, rfl⟩ | ⟨ha, rfl⟩
  · refine ⟨ad, .agg xs.toArray, e, ?_, xs, hx, rfl⟩
    have hld := run_loadCells_list (P := P) w ad xs hc
    rw [hx.length] at hld
    simp [loadVar, isAgg_run hT ha, size_run hT hs, hld]
  · obtain ⟨x, _, rfl, hv, _⟩ := hx
    have h0 := hc 0 x rfl
    rw [show ad.add 0 = ad from by simp [Addr.add]] at h0
    exact ⟨ad, x, e, by simp [loadVar, isAgg_run hT ha, h0], hv⟩
end
theorem abs0_ok {E : Env} {x : Value} {v : V} (h : abs0 x = some v) : VR E v x := by
  unfold abs0 at h
  split at h <;> simp at h <;> subst h <;> simp [VR]
theorem abs0L_ok {E : Env} : ∀ {xs : List Value} {vs : List V}, abs0L xs = some vs → VRL E vs xs
  | [], vs, h => by simp [abs0L] at h; subst h; rfl
  | x :: xs, vs, h => by
    simp only [abs0L] at h
    cases h1 : abs0 x with
    | none => simp [h1] at h
    | some y =>
      simp only [h1] at h
      cases h2 : abs0L xs with
      | none => simp [h2] at h
      | some ys =>
        simp [h2] at h
        subst h
        exact ⟨x, xs, rfl, abs0_ok h1, abs0L_ok h2⟩
theorem abs_ok {E : Env} {x : Value} {v : V} (h : abs x = some v) : VR E v x := by
  unfold abs at h
  split at h
  · rename_i cs
    cases h1 : abs0L cs.toList with
    | none => simp [h1] at h
    | some ys => simp [h1] at h; subst h; exact ⟨_, abs0L_ok h1, by simp⟩
  · rename_i cs
    cases h1 : abs0L cs.toList with
    | none => simp [h1] at h
    | some ys => simp [h1] at h; subst h; exact ⟨_, abs0L_ok h1, by simp⟩
  · exact abs0_ok h
theorem ev_ok {E : Env} {t : T V} {a : Act} (ht : TR E t a.tmps) (hg : GlobOk E) {x : Operand} {v : V} (h : ev t x = some v) : VR E v (a.eval x) := by
  cases x with
  | tmp i =>
    obtain ⟨y, hy, hv⟩ := ht i v h
    have : a.eval (.tmp i) = y := by simp [Act.eval, Array.getD_eq_getD_getElem?, hy]
    rw [this]; exact hv
  | const c => exact abs_ok h
  | global g =>
    simp only [ev] at h
    cases hb : Nat.blt g 32 with
    | false => simp [hb] at h
    | true =>
      simp [hb] at h
      subst h
      obtain ⟨i, hi, hb'⟩ := hg g (nblt_lt hb)
      exact ⟨i, hi, by rw [hb']; rfl⟩
  | func f => simp [ev] at h; subst h; exact ⟨[], [], rfl, rfl, rfl⟩
theorem evL_ok {E : Env} {t : T V} {a : Act} (ht : TR E t a.tmps) (hg : GlobOk E) : ∀ {xs : List Operand} {vs : List V}, evL t xs = some vs → VRL E vs (xs.map a.eval)
  | [], vs, h => by simp [evL] at h; subst h; rfl
  | x :: xs, vs, h => by
    simp only [evL] at h
    cases h1 : ev t x with
    | none => simp [h1] at h
    | some y =>
      simp only [h1] at h
      cases h2 : evL t xs with
      | none => simp [h2] at h
      | some ys =>
        simp [h2] at h
        subst h
        exact ⟨a.eval x, _, rfl, ev_ok ht hg h1, evL_ok ht hg h2⟩
end Ev
namespace Ev
open Go
theorem bytesEq_iff : ∀ {a b : List UInt8}, bytesEq a b = (a == b)
  | [], [] => rfl
  | [], _ :: _ => rfl
  | _ :: _, [] => rfl
  | a :: x, b :: y => by
    simp only [bytesEq]
    by_cases h : a = b
    · subst h
      have : Nat.beq a.toNat a.toNat = true := Nat.beq_refl _
      rw [this, cond_true, bytesEq_iff]; simp
    · have : Nat.beq a.toNat b.toNat = false := nbeq_false fun e => h (UInt8.toNat_inj.1 e)
      rw [this, cond_false]
      simp [h]
theorem bytesLess_eq : ∀ {a b : List UInt8}, bytesLess a b = Op.bytesLess a b
  | [], [] => rfl
  | [], _ :: _ => rfl
  | _ :: _, [] => rfl
  | a :: x, b :: y => by
    simp only [bytesLess, Op.bytesLess, bytesLess_eq]
    congr 1
    · rw [Bool.eq_iff_iff, decide_eq_true_iff, UInt8.lt_iff_toNat_lt]
      exact ⟨fun h => nblt_lt h, fun h => Nat.ble_eq_true_of_le h⟩
    · congr 1
      rw [Bool.eq_iff_iff]
      constructor
      · intro h; simpa using UInt8.toNat_inj.1 (nbeq_true h)
      · intro h; have : a = b := by simpa using h
        subst this; exact Nat.beq_refl _
theorem kindEq_iff {j k : IntKind} : kindEq j k = true ↔ j = k := by cases j <;> cases k <;> simp [kindEq]
theorem intEq_iff {a b : Int} : intEq a b = true ↔ a = b := by
  cases a <;> cases b <;> simp [intEq]
  exact Int.ofNat_inj.symm
theorem toList_mk (s : List UInt8) : (⟨s.toArray⟩ : ByteArray).toList = s := by rw [ByteArray.toList_eq]
section
variable {tb : Tab} {P : Program} (hT : TabOk tb P) {E : Env} {w : World}
include hT
theorem eqFields_ok {eq : Nat → V → V → Option Bool} {d : Nat} (heq : ∀ t x y b rx ry, eq t x y = some b → VR E x rx → VR E y ry → (Op.equalIn d t rx ry).run P w = .ok b w)
    {xs ys : List V} {rxs rys : List Value} (hx : VRL E xs rxs) (hy : VRL E ys rys) : ∀ {fs : List Field} {b : Bool}, eqFields tb eq xs ys fs = some b →
      (Op.eqFields d rxs.toArray rys.toArray fs).run P w = .ok b w
  | [], b, h => by simp [eqFields] at h; subst h; simp [Op.eqFields]
  | f :: fs, b, h => by
    simp only [eqFields] at h
    by_cases hn : f.name = "_"
    · rw [if_pos hn] at h
      simp only [Op.eqFields, hn, ne_eq, not_true_eq_false, if_false]
      exact eqFields_ok heq hx hy h
    · rw [if_neg hn] at h
      cases h1 : part tb f.type xs f.offset with
      | none => simp [h1] at h
      | some a =>
        simp only [h1] at h
        cases h2 : part tb f.type ys f.offset with
        | none => simp [h2] at h
        | some c =>
          simp only [h2] at h
          obtain ⟨ra, hra, va⟩ := part_ok hT h1 hx w
          obtain ⟨rc, hrc, vc⟩ := part_ok hT h2 hy w
          cases h3 : eq f.type a c with
          | none => simp [h3] at h
          | some r =>
            have he := heq _ _ _ _ _ _ h3 va vc
            simp only [Op.eqFields, ne_eq, hn, not_false_eq_true, if_true, Sem.run_bind, hra, hrc, he, Result.andThen_ok]
            cases r with
            | false => simp [h3] at h; subst h; simp
            | true =>
              simp only [h3] at h
              simpa using eqFields_ok heq hx hy h
theorem eqElems_ok {eq : Nat → V → V → Option Bool} {d e sz : Nat} (heq : ∀ t x y b rx ry, eq t x y = some b → VR E x rx → VR E y ry → (Op.equalIn d t rx ry).run P w = .ok b w)
    {xs ys : List V} {rxs rys : List Value} (hx : VRL E xs rxs) (hy : VRL E ys rys) : ∀ (n i : Nat) {b : Bool}, eqElems tb eq e sz xs ys n i = some b →
      (Op.eqItems d e sz rxs.toArray rys.toArray (List.range' i n)).run P w = .ok b w
  | 0, i, b, h => by simp [eqElems] at h; subst h; simp [Op.eqItems]
  | n + 1, i, b, h => by
    simp only [eqElems] at h
    cases h1 : part tb e xs (i * sz) with
    | none => simp [h1] at h
    | some a =>
      simp only [h1] at h
      cases h2 : part tb e ys (i * sz) with
      | none => simp [h2] at h
      | some c =>
        simp only [h2] at h
        obtain ⟨ra, hra, va⟩ := part_ok hT h1 hx w
        obtain ⟨rc, hrc, vc⟩ := part_ok hT h2 hy w
        cases h3 : eq e a c with
        | none => simp [h3] at h
        | some r =>
          have he := heq _ _ _ _ _ _ h3 va vc
          simp only [List.range'_succ, Op.eqItems, Sem.run_bind, hra, hrc, he, Result.andThen_ok]
          cases r with
          | false => simp [h3] at h; subst h; simp
          | true =>
            simp only [h3] at h
            simpa using eqElems_ok heq hx hy n (i + 1) h
variable [hS : SR tb P E]
theorem eqAt_ok (w : World) : ∀ (d t : Nat) (x y : V) (b : Bool) (rx ry : Value), eqAt tb d t x y = some b → VR E x rx → VR E y ry → ∀ m, (Op.equalIn (d + m) t rx ry).run P w = .ok b w := by
  intro d
  induction d with
  | zero => intro t x y b rx ry h; simp [eqAt] at h
  | succ d ih =>
    intro t x y b rx ry h vx vy m
    have hdm : d + 1 + m = (d + m) + 1 := by omega
    rw [hdm]
    unfold eqAt at h
    cases hd : tb.und t with
    | none => simp [hd] at h
    | some td =>
      have hu := hT.und t td hd
      simp only [hd] at h
      have hru := run_underlying hu w
      cases td with
      | bool =>
        cases x <;> cases y <;> simp at h <;> simp [VR] at vx vy
        subst vx; subst vy; subst h
        exact run_equalIn_bool w _ _ _ _ hu
      | int k =>
        simp only at h
        split at h
        · rename_i j a j' a'
          simp only [VR] at vx vy
          subst vx; subst vy
          cases hk : kindEq j j' with
          | false => simp [hk] at h
          | true =>
            obtain rfl := kindEq_iff.1 hk
            simp [hk] at h
            subst h
            exact run_equalIn_int w _ _ _ _ _ _ hu
        · obtain ⟨k', m', n', rfl, rfl, rfl⟩ := hS.eqi _ _ _ h _ _ vx vy
          exact run_equalIn_int w _ _ _ _ _ _ hu
      | string =>
        simp only at h
        split at h
        · simp only [VR] at vx vy
          simp only [Option.some.injEq] at h
          subst vx; subst vy; subst h
          rw [run_equalIn_string w _ _ _ _ hu, toList_mk, toList_mk, bytesEq_iff]
        · obtain ⟨s, u, rfl, rfl, rfl⟩ := hS.eqs _ _ _ h _ _ vx vy
          rw [run_equalIn_string w _ _ _ _ hu]
      | pointer e =>
        by_cases hp : ∃ n o m p, x = .ptr n o ∧ y = .ptr m p
        · obtain ⟨n, o, m, p, rfl, rfl⟩ := hp
          simp only at h
          cases hb : (Nat.beq n m && Nat.beq o p) with
          | false => rw [hb] at h; cases h
          | true =>
            rw [hb, cond_true] at h
            simp only [Bool.and_eq_true] at hb
            cases hi : tb.inf e with
            | none => rw [hi] at h; cases h
            | some inf =>
              have hpi := hT.inf e inf hi
              rw [hi] at h
              cases h
              obtain ⟨i, hi, rfl⟩ := vx
              obtain ⟨j, hj, rfl⟩ := vy
              rw [nbeq_true hb.1, hj] at hi
              cases hi
              rw [nbeq_true hb.2]
              simp [Op.equalIn, hru, Go.sizeOf, typeInfo, hpi, run_sameAddr_same]
        cases x <;> cases y <;> simp at h <;> (try exact absurd ⟨_, _, _, _, rfl, rfl⟩ hp) <;> subst h <;> simp [VR] at vx vy
        · obtain ⟨i, hi, rfl⟩ := vx; subst vy; simp [Op.equalIn, hru]
        · obtain ⟨i, hi, rfl⟩ := vy; subst vx; simp [Op.equalIn, hru]
        · subst vx; subst vy; simp [Op.equalIn, hru]
      | interface ms =>
        cases x <;> cases y <;> simp at h <;> subst h <;> simp [VR] at vx vy
        · obtain ⟨i, hi, rfl⟩ := vx; subst vy; simp [Op.equalIn, hru]
        · obtain ⟨i, hi, rfl⟩ := vy; subst vx; simp [Op.equalIn, hru]
        · subst vx; subst vy; simp [Op.equalIn, hru]
      | slice e =>
        cases x <;> cases y <;> simp at h <;> subst h <;> simp [VR] at vx vy
        · obtain ⟨i, hi, rfl⟩ := vx; subst vy; simp [Op.equalIn, hru]
        · obtain ⟨i, hi, rfl⟩ := vy; subst vx; simp [Op.equalIn, hru]
        · subst vx; subst vy; simp [Op.equalIn, hru]
      | map a e =>
        cases x <;> cases y <;> simp at h <;> subst h <;> simp [VR] at vx vy
        · obtain ⟨i, hi, rfl⟩ := vx; subst vy; simp [Op.equalIn, hru]
        · obtain ⟨i, hi, rfl⟩ := vy; subst vx; simp [Op.equalIn, hru]
        · subst vx; subst vy; simp [Op.equalIn, hru]
      | func a e f =>
        cases x <;> cases y <;> simp at h <;> subst h <;> simp [VR] at vx vy
        · obtain ⟨xs, hxs, ys, hys, rfl⟩ := vx; subst vy; simp [Op.equalIn, hru]
        · obtain ⟨xs, hxs, ys, hys, rfl⟩ := vy; subst vx; simp [Op.equalIn, hru]
        · subst vx; subst vy; simp [Op.equalIn, hru]
      | struct fs =>
        cases x <;> cases y <;> simp at h
        obtain ⟨xs, hxs, rfl⟩ := vx
        obtain ⟨ys, hys, rfl⟩ := vy
        cases hh : tb.held t with
        | true => simp [hh] at h
        | false =>
          simp [hh] at h
          have hf : P.fieldsOf t = fs := by simp [Program.fieldsOf, hu]
          rw [run_equalIn_struct w _ t _ _ (by rw [hf]; exact hu) (hT.held t hh), hf]
          exact eqFields_ok hT (fun t x y b rx ry he hx hy => ih t x y b rx ry he hx hy m) hxs hys h
      | array n e =>
        cases x <;> cases y <;> simp at h
        obtain ⟨xs, hxs, rfl⟩ := vx
        obtain ⟨ys, hys, rfl⟩ := vy
        cases hs : tb.size e with
        | none => simp [hs] at h
        | some sz =>
          simp only [hs] at h
          unfold Tab.size at hs
          cases hi : tb.inf e with
          | none => simp [hi] at hs
          | some inf =>
            have hpi := hT.inf e inf hi
            have hc : P.cellsOf e = sz := by simp [hi] at hs; simp [Program.cellsOf, hpi, hs]
            rw [run_equalIn_array w _ _ _ hu hpi, hc, List.range_eq_range']
            exact eqElems_ok hT (fun t x y b rx ry he hx hy => ih t x y b rx ry he hx hy m) hxs hys n 0 h
      | _ => simp at h
end
end Ev
namespace Ev
open Go
theorem natsEq_eq : ∀ {a b : List Nat}, natsEq a b = true → a = b
  | [], [], _ => rfl
  | [], _ :: _, h => by cases h
  | _ :: _, [], h => by cases h
  | a :: x, b :: y, h => by
    simp only [natsEq] at h
    cases hb : Nat.beq a b with
    | false => rw [hb] at h; cases h
    | true => rw [hb, cond_true] at h; rw [nbeq_true hb, natsEq_eq h]
theorem bytesEq_eq {a b : List UInt8} (h : bytesEq a b = true) : a = b := by rw [bytesEq_iff] at h; simpa using h
mutual
theorem V.eq_eq : ∀ (a b : V), V.eq a b = true → a = b
  | .bool a, b, h => by
    replace h : eqBool a b = true := h
    cases b <;> simp [eqBool] at h; rw [h]
  | .int j a, b, h => by
    replace h : eqInt j a b = true := h
    cases b <;> simp only [eqInt] at h <;> try (cases h; done)
    rw [Bool.and_eq_true] at h
    rw [kindEq_iff.1 h.1, intEq_iff.1 h.2]
  | .str a, b, h => by
    replace h : eqStr a b = true := h
    cases b <;> simp only [eqStr] at h <;> try (cases h; done)
    rw [bytesEq_eq h]
  | .ptr a c, b, h => by
    replace h : eqPtr a c b = true := h
    cases b <;> simp only [eqPtr] at h <;> try (cases h; done)
    rw [Bool.and_eq_true] at h
    rw [nbeq_true h.1, nbeq_true h.2]
  | .nilp, b, h => by
    replace h : eqNilp b = true := h
    cases b <;> simp [eqNilp] at h <;> rfl
  | .slice a c d e, b, h => by
    replace h : eqSlice a c d e b = true := h
    cases b <;> simp only [eqSlice] at h <;> try (cases h; done)
    simp only [Bool.and_eq_true] at h
    rw [nbeq_true h.1.1.1, nbeq_true h.1.1.2, nbeq_true h.1.2, nbeq_true h.2]
  | .nils, b, h => by
    replace h : eqNils b = true := h
    cases b <;> simp [eqNils] at h <;> rfl
  | .map a, b, h => by
    replace h : eqMap a b = true := h
    cases b <;> simp only [eqMap] at h <;> try (cases h; done)
    rw [nbeq_true h]
  | .nilm, b, h => by
    replace h : eqNilm b = true := h
    cases b <;> simp [eqNilm] at h <;> rfl
  | .fn f x y, b, h => by
    replace h : eqFn f (V.eqL x) (V.eqL y) b = true := h
    cases b <;> simp only [eqFn] at h <;> try (cases h; done)
    simp only [Bool.and_eq_true] at h
    rw [nbeq_true h.1.1, V.eqL_eq _ _ h.1.2, V.eqL_eq _ _ h.2]
  | .yld a, b, h => by
    replace h : eqYld a b = true := h
    cases b <;> simp only [eqYld] at h <;> try (cases h; done)
    rw [nbeq_true h]
  | .nilf, b, h => by
    replace h : eqNilf b = true := h
    cases b <;> simp [eqNilf] at h <;> rfl
  | .iface t v, b, h => by
    replace h : eqIface t (V.eq v) b = true := h
    cases b <;> simp only [eqIface] at h <;> try (cases h; done)
    rw [Bool.and_eq_true] at h
    rw [nbeq_true h.1, V.eq_eq _ _ h.2]
  | .nili, b, h => by
    replace h : eqNili b = true := h
    cases b <;> simp [eqNili] at h <;> rfl
  | .agg x, b, h => by
    replace h : eqAgg (V.eqL x) b = true := h
    cases b <;> simp only [eqAgg] at h <;> try (cases h; done)
    rw [V.eqL_eq _ _ h]
  | .tup x, b, h => by
    replace h : eqTup (V.eqL x) b = true := h
    cases b <;> simp only [eqTup] at h <;> try (cases h; done)
    rw [V.eqL_eq _ _ h]
  | .sym a, b, h => by
    replace h : eqSym a b = true := h
    cases b <;> simp only [eqSym] at h <;> try (cases h; done)
    rw [nbeq_true h]
theorem V.eqL_eq : ∀ (a b : List V), V.eqL a b = true → a = b
  | [], [], _ => rfl
  | [], _ :: _, h => by cases h
  | _ :: _, [], h => by cases h
  | a :: x, b :: y, h => by
    replace h : cond (V.eq a b) (V.eqL x y) false = true := h
    cases hb : V.eq a b with
    | false => rw [hb] at h; cases h
    | true => rw [hb, cond_true] at h; rw [V.eq_eq _ _ hb, V.eqL_eq _ _ h]
end
end Ev
namespace Ev
open Go
section
variable {tb : Tab} {P : Program} (hT : TabOk tb P) {E : Env} {w : World}
theorem strOp_ok {op : BinOp} {a b : List UInt8} {v : V} (h : strOp op a b = some v) (w : World) : ∃ x, (Op.stringOp op ⟨a.toArray⟩ ⟨b.toArray⟩).run P w = .ok x w ∧ VR E v x := by
  cases op <;> simp [strOp] at h
  ·
    cases hl : Nat.ble (a.length + b.length) 1000000 with
    | false => simp [hl] at h
    | true =>
      simp [hl] at h
      subst h
      have hle := nble_le hl
      refine ⟨.string ⟨(a ++ b).toArray⟩, ?_, rfl⟩
      have hs : ¬ ((((⟨a.toArray⟩ : ByteArray).size + (⟨b.toArray⟩ : ByteArray).size : Nat) : Int) > IntKind.i64.max) := by
        rw [IntKind.max_i64]
        simp only [ByteArray.size, List.size_toArray]
        omega
      simp only [Op.stringOp, if_neg hs, Sem.run_pure]
      rw [show (⟨a.toArray⟩ : ByteArray) ++ ⟨b.toArray⟩ = ⟨(a ++ b).toArray⟩ from ByteArray.ext (by simp)]
  all_goals (subst h; refine ⟨_, rfl, ?_⟩; simp [VR, bytesEq_iff, bytesLess_eq])
theorem intOp_ok {op : BinOp} {k : IntKind} {t : TypeId} {a b : Int} {v : V} (h : intOp op k a b = some v) (w : World) (hop : op ≠ .shl ∧ op ≠ .shr) :
    ∃ x, (Go.binOp op t (.int k a) (.int k b)).run P w = .ok x w ∧ VR E v x := by
  cases op <;> simp [intOp] at h <;> simp at hop
  all_goals first
    | (subst h; exact ⟨_, by simp [Go.binOp, Op.intArith, Op.intBits, Op.intCmp], rfl⟩)
    | (cases hb : intEq b 0 with
       | true => simp [hb] at h
       | false =>
         simp [hb] at h
         subst h
         have hb0 : b ≠ 0 := by intro e; rw [intEq_iff.2 e] at hb; cases hb
         exact ⟨_, by simp [Go.binOp, Op.intDiv, hb0], rfl⟩)
theorem shiftOp_ok {op : BinOp} {k j : IntKind} {t : TypeId} {a b : Int} {v : V} (h : shiftOp op k a b = some v) (w : World) :
    ∃ x, (Go.binOp op t (.int k a) (.int j b)).run P w = .ok x w ∧ VR E v x := by
  cases b with
  | negSucc n => cases op <;> simp [shiftOp] at h
  | ofNat n =>
    have hn : ¬ (Int.ofNat n < 0) := Int.not_lt.2 (Int.natCast_nonneg n)
    cases op <;> simp [shiftOp] at h
    all_goals
      subst h
      refine ⟨_, ?_, rfl⟩
      simp only [Go.binOp, Op.shift, if_neg hn]
      rfl
theorem agg_of_VR {a : V} {cs : Array Value} (h : VR E a (.agg cs)) : (∃ l, a = .agg l) ∨ ∃ i, a = .sym i := by
  cases a <;> simp [VR] at h
  · exact .inl ⟨_, rfl⟩
  · exact .inr ⟨_, rfl⟩
theorem nili_of_VR {a : V} (h : VR E a .nilIface) : a = .nili ∨ ∃ i, a = .sym i := by
  cases a <;> simp [VR] at h
  · exact .inl rfl
  · exact .inr ⟨_, rfl⟩
theorem guard_other {op : BinOp} {t : TypeId} {x y : Operand} {ra rb : Value} (h1 : op ≠ .eql) (h2 : op ≠ .neq) (w : World) : (eqGuard op t x y ra rb).run P w = .ok () w := by
  cases op <;> simp at h1 h2 <;> rfl
inductive Plain : Value → Prop
  | bool (b : Bool) : Plain (.bool b)
  | pointer (p : Option Addr) : Plain (.pointer p)
  | slice (a : Option Addr) (l c : Nat) : Plain (.slice a l c)
  | map (r : Option Nat) : Plain (.map r)
  | func (f : Fn) (a b : Array Value) : Plain (.func f a b)
  | nilFunc : Plain .nilFunc
  | iface (t : TypeId) (v : Value) : Plain (.iface t v)
  | nilIface : Plain .nilIface
  | agg (c : Array Value) : Plain (.agg c)
  | tuple (c : Array Value) : Plain (.tuple c)
theorem plain_of_VR {a : V} {ra : Value} (hi : ∀ k n, a ≠ .int k n) (hs : ∀ s, a ≠ .str s) (hy : ∀ i, a ≠ .sym i) (h : VR E a ra) : Plain ra := by
  cases a with
  | int k n => exact absurd rfl (hi k n)
  | str s => exact absurd rfl (hs s)
  | sym i => exact absurd rfl (hy i)
  | bool b => rw [show ra = _ from h]; exact .bool b
  | nilp => rw [show ra = _ from h]; exact .pointer _
  | nils => rw [show ra = _ from h]; exact .slice _ _ _
  | nilm => rw [show ra = _ from h]; exact .map _
  | nilf => rw [show ra = _ from h]; exact .nilFunc
  | nili => rw [show ra = _ from h]; exact .nilIface
  | ptr n o => obtain ⟨i, _, rfl⟩ := h; exact .pointer _
  | slice n o l c => obtain ⟨i, _, rfl⟩ := h; exact .slice _ _ _
  | map n => obtain ⟨i, _, rfl⟩ := h; exact .map _
  | yld l => obtain ⟨i, _, rfl⟩ := h; exact .func _ _ _
  | fn f x y => obtain ⟨xs, ys, _, _, rfl⟩ := h; exact .func _ _ _
  | iface t v => obtain ⟨y, _, rfl⟩ := h; exact .iface _ _
  | agg cs => obtain ⟨xs, _, rfl⟩ := h; exact .agg _
  | tup cs => obtain ⟨xs, _, rfl⟩ := h; exact .tuple _
theorem eql_plain {t : TypeId} {ra rb : Value} (h : Plain ra) : Go.binOp .eql t ra rb = (do pure (.bool (← Op.equal t ra rb))) := by
  cases h <;> first | rfl | (cases rb <;> rfl)
theorem neq_plain {t : TypeId} {ra rb : Value} (h : Plain ra) : Go.binOp .neq t ra rb = (do pure (.bool (!(← Op.equal t ra rb)))) := by
  cases h <;> first | rfl | (cases rb <;> rfl)
theorem guard_ok (hT : TabOk tb P) {op : BinOp} {t : TypeId} {x y : Operand} {a b : V} {ra rb : Value} (hi : ∀ k n, a ≠ .int k n) (hs : ∀ s, a ≠ .str s)
    (h : guardOk tb t a b (Region.isConst x || Region.isConst y) = true) (va : VR E a ra) (vb : VR E b rb) (w : World) :
    (eqGuard op t x y ra rb).run P w = .ok () w := by
  by_cases hop : op = .eql ∨ op = .neq
  case neg => exact guard_other (fun e => hop (.inl e)) (fun e => hop (.inr e)) w
  have hs1 : ∀ i, a ≠ .sym i := by rintro i rfl; cases b <;> simp [guardOk] at h
  have hs2 : ∀ i, b ≠ .sym i := by rintro i rfl; cases a <;> simp [guardOk] at h
  have he : eqGuard op t x y ra rb = eqGuard .eql t x y ra rb := by rcases hop with rfl | rfl <;> rfl
  rw [he]
  have hp := plain_of_VR hi hs hs1 va
  cases hp with
  | nilIface =>
    by_cases hb : rb = .nilIface
    · subst hb
      have h1 := (nili_of_VR va).resolve_right fun ⟨i, e⟩ => hs1 i e
      have h2 := (nili_of_VR vb).resolve_right fun ⟨i, e⟩ => hs2 i e
      subst h1; subst h2
      simp only [guardOk] at h
      cases x <;> cases y <;> simp [Region.isConst] at h <;> rfl
    · cases rb <;> first | rfl | exact absurd rfl hb
  | agg c =>
    by_cases hb : ∃ c', rb = .agg c'
    · obtain ⟨c', rfl⟩ := hb
      obtain ⟨l1, rfl⟩ := (agg_of_VR va).resolve_right fun ⟨i, e⟩ => hs1 i e
      obtain ⟨l2, rfl⟩ := (agg_of_VR vb).resolve_right fun ⟨i, e⟩ => hs2 i e
      have hg : tb.guard t = false := by simpa [guardOk] using h
      exact run_eqGuard_agg w .eql t x y c c' (hT.guard t hg)
    · cases rb <;> first | rfl | exact absurd ⟨_, rfl⟩ hb
  | _ => first | rfl | (cases rb <;> rfl)
variable [hS : SR tb P E]
theorem eqOp_ok (hT : TabOk tb P) {op : BinOp} {t : TypeId} {x y : Operand} {a b v : V} {ra rb : Value} (hi : ∀ k n, a ≠ .int k n) (hs : ∀ s, a ≠ .str s)
    (h : eqOp tb op t a b (Region.isConst x || Region.isConst y) = some v) (va : VR E a ra) (vb : VR E b rb) (w : World) :
    ∃ r, (do eqGuard op t x y ra rb; Go.binOp op t ra rb : Sem Value).run P w = .ok r w ∧ VR E v r := by
  have key : ∃ (f : Bool → Bool) (e : Bool), guardOk tb t a b (Region.isConst x || Region.isConst y) = true ∧ eqAt tb 50 t a b = some e ∧ v = .bool (f e) ∧
      ((op = .eql ∧ f = id) ∨ (op = .neq ∧ f = fun b => !b)) := by
    cases op <;> simp only [eqOp] at h <;> try (cases h; done)
    all_goals
      cases hg : guardOk tb t a b (Region.isConst x || Region.isConst y) with
      | false => rw [hg] at h; cases h
      | true =>
        rw [hg, cond_true] at h
        cases he : eqAt tb 50 t a b with
        | none => rw [he] at h; cases h
        | some e =>
          rw [he] at h
          first
            | exact ⟨id, e, rfl, rfl, (Option.some.inj h).symm, .inl ⟨rfl, rfl⟩⟩
            | exact ⟨fun b => !b, e, rfl, rfl, (Option.some.inj h).symm, .inr ⟨rfl, rfl⟩⟩
  obtain ⟨f, e, hg, he, rfl, hop⟩ := key
  have hguard := guard_ok hT (op := op) hi hs hg va vb w
  have hsym : ∀ i, a ≠ .sym i := by rintro i rfl; cases b <;> simp [guardOk] at hg
  have heq : (Op.equal t ra rb).run P w = .ok e w := eqAt_ok hT w 50 t a b e ra rb he va vb 9950
  refine ⟨.bool (f e), ?_, rfl⟩
  simp only [Sem.run_bind, hguard, Result.andThen_ok]
  have hp := plain_of_VR hi hs hsym va
  rcases hop with ⟨rfl, rfl⟩ | ⟨rfl, rfl⟩
  · rw [eql_plain hp]; simp [heq]
  · rw [neq_plain hp]; simp [heq]
theorem binOp_ok (hT : TabOk tb P) {op : BinOp} {t : TypeId} {x y : Operand} {a b v : V} {ra rb : Value} (h : binOp tb op t a b (Region.isConst x || Region.isConst y) = some v) (va : VR E a ra) (vb : VR E b rb) (w : World) :
    ∃ r, (do eqGuard op t x y ra rb; Go.binOp op t ra rb : Sem Value).run P w = .ok r w ∧ VR E v r := by
  unfold binOp at h
  split at h
  · rename_i j n
    split at h
    · rename_i k m
      simp only [VR] at va vb
      subst va; subst vb
      have hint : (eqGuard op t x y (.int j n) (.int k m)).run P w = .ok () w := by unfold eqGuard; split <;> rfl
      have : ∃ r, (Go.binOp op t (.int j n) (.int k m)).run P w = .ok r w ∧ VR E v r := by
        by_cases hsh : op = .shl ∨ op = .shr
        · refine shiftOp_ok (op := op) ?_ w
          rcases hsh with rfl | rfl <;> exact h
        · have h' : (bif kindEq j k then intOp op j n m else none) = some v := by
            unfold intBin at h
            split at h
            · exact absurd (.inl rfl) hsh
            · exact absurd (.inr rfl) hsh
            · exact h
          cases hk : kindEq j k with
          | false => simp [hk] at h'
          | true =>
            obtain rfl := kindEq_iff.1 hk
            simp only [hk, cond_true] at h'
            exact intOp_ok h' w ⟨fun e => hsh (.inl e), fun e => hsh (.inr e)⟩
      obtain ⟨r, hr, hv⟩ := this
      exact ⟨r, by simp [hint, hr], hv⟩
    · exact hS.bin _ _ _ _ h _ _ va vb _ _ _ w
  · rename_i s
    split at h
    · rename_i u
      simp only [VR] at va vb
      subst va; subst vb
      have hstr : (eqGuard op t x y (.string ⟨s.toArray⟩) (.string ⟨u.toArray⟩)).run P w = .ok () w := by unfold eqGuard; split <;> rfl
      obtain ⟨r, hr, hv⟩ := strOp_ok (P := P) (E := E) h w
      refine ⟨r, ?_, hv⟩
      have : Go.binOp op t (.string ⟨s.toArray⟩) (.string ⟨u.toArray⟩) = Op.stringOp op ⟨s.toArray⟩ ⟨u.toArray⟩ := by cases op <;> rfl
      simp [hstr, this, hr]
    · exact hS.bin _ _ _ _ h _ _ va vb _ _ _ w
  · exact hS.bin _ _ _ _ h _ _ va vb _ _ _ w
  · rename_i h1 h2 h3
    exact eqOp_ok hT (fun k n e => h1 k n e) (fun s e => h2 s e) h va vb w
theorem unOp_ok {op : UnOp} {a v : V} {ra : Value} (h : unOp op a = some v) (va : VR E a ra) (w : World) : ∃ r, (Op.unary op ra).run P w = .ok r w ∧ VR E v r := by
  cases op <;> cases a <;> simp only [unOp] at h <;> first
    | (cases h; done)
    | (cases h; rw [show ra = _ from va]; exact ⟨_, rfl, rfl⟩)
end
end Ev
namespace Ev
open Go
section
variable {tb : Tab} {P : Program} (hT : TabOk tb P) {E : Env} {w : World}
include hT
theorem convert_ok [hS : SR tb P E] {src dst : TypeId} {a v : V} {ra : Value} (h : convert tb src dst a = some v) (va : VR E a ra) (w : World) : ∃ r, (Go.convert src dst ra).run P w = .ok r w ∧ VR E v r := by
  unfold convert at h
  cases hs : tb.und src with
  | none => simp [hs] at h
  | some sd =>
    simp only [hs] at h
    have hus := hT.und _ _ hs
    split at h
    · rename_i k j n hd
      cases h
      rw [show ra = _ from va]
      have hud := hT.und _ _ hd
      refine ⟨_, ?_, rfl⟩
      simp only [Go.convert, Sem.run_bind, run_underlying hus, run_underlying hud, Result.andThen_ok]
      cases sd <;> rfl
    · rename_i s hd
      cases h
      rw [show ra = _ from va]
      have hud := hT.und _ _ hd
      refine ⟨_, ?_, rfl⟩
      simp only [Go.convert, Sem.run_bind, run_underlying hus, run_underlying hud, Result.andThen_ok]
      cases sd <;> rfl
    · exact hS.conv _ _ _ _ h _ va w
    · cases h
theorem index_ok {t : TypeId} {a i v : V} {ra ri : Value} (h : index tb t a i = some v) (va : VR E a ra) (vi : VR E i ri) (w : World) : ∃ r, (Instr.index t ra ri).run P w = .ok r w ∧ VR E v r := by
  unfold index at h
  split at h
  case h_2 => cases h
  rename_i k n
  rw [show ri = _ from vi]
  split at h
  · rename_i len e cs hd
    have hu := hT.und _ _ hd
    obtain ⟨xs, hx, rfl⟩ := va
    cases hb : Nat.blt n len with
    | false => rw [hb] at h; cases h
    | true =>
      rw [hb, cond_true] at h
      cases hs : tb.size e with
      | none => simp [hs] at h
      | some sz =>
        simp [hs] at h
        obtain ⟨r, hr, hv⟩ := part_ok hT h hx w
        refine ⟨r, ?_, hv⟩
        have hin : (0 : Int) ≤ Int.ofNat n ∧ Int.ofNat n < (len : Int) := ⟨Int.natCast_nonneg n, Int.ofNat_lt.2 (nblt_lt hb)⟩
        simp only [Instr.index, asIntOf, Sem.run_bind, Sem.run_pure, Result.andThen_ok, run_underlying hu, if_pos hin, size_run hT hs]
        exact hr
  · rename_i s hd
    have hu := hT.und _ _ hd
    rw [show ra = _ from va]
    cases hb : s[n]? with
    | none => simp [hb] at h
    | some b =>
      simp only [hb, Option.some.injEq] at h
      subst h
      refine ⟨_, ?_, rfl⟩
      have hin : (0 : Int) ≤ Int.ofNat n := Int.natCast_nonneg n
      have hb' : (⟨s.toArray⟩ : ByteArray)[(Int.ofNat n).toNat]? = some b := by
        show (⟨s.toArray⟩ : ByteArray)[n]? = some b
        have hlt : n < s.length := (List.getElem?_eq_some_iff.1 hb).1
        have he : s[n] = b := (List.getElem?_eq_some_iff.1 hb).2
        rw [getElem?_pos (⟨s.toArray⟩ : ByteArray) n (by simpa [ByteArray.size] using hlt)]
        congr 1
      simp only [Instr.index, asIntOf, Sem.run_bind, Sem.run_pure, Result.andThen_ok, run_underlying hu, if_pos hin, hb']
      rfl
  · cases h
theorem indexAddr_ok {t : TypeId} {a i v : V} {ra ri : Value} (h : indexAddr tb t a i = some v) (va : VR E a ra) (vi : VR E i ri) (w : World) : ∃ r, (Instr.indexAt t ra ri).run P w = .ok r w ∧ VR E v r := by
  unfold indexAddr at h
  split at h
  case h_2 => cases h
  rename_i k n
  rw [show ri = _ from vi]
  split at h
  · rename_i len e m off hd
    have hu := hT.und _ _ hd
    obtain ⟨inf, hi, rfl⟩ := va
    cases hb : Nat.blt n len with
    | false => rw [hb] at h; cases h
    | true =>
      rw [hb, cond_true] at h
      cases hs : tb.size e with
      | none => simp [hs] at h
      | some sz =>
        simp [hs] at h
        subst h
        refine ⟨_, ?_, inf, hi, rfl⟩
        have hin : (0 : Int) ≤ Int.ofNat n ∧ Int.ofNat n < (len : Int) := ⟨Int.natCast_nonneg n, Int.ofNat_lt.2 (nblt_lt hb)⟩
        simp only [Instr.indexAt, asIntOf, Instr.sureAddr, Sem.run_bind, Sem.run_pure, Result.andThen_ok, run_underlying hu, if_pos hin, size_run hT hs]
        rw [add_off]; rfl
  · rename_i e m off len c hd
    have hu := hT.und _ _ hd
    obtain ⟨inf, hi, rfl⟩ := va
    cases hb : Nat.blt n len with
    | false => rw [hb] at h; cases h
    | true =>
      rw [hb, cond_true] at h
      cases hs : tb.size e with
      | none => simp [hs] at h
      | some sz =>
        simp [hs] at h
        subst h
        refine ⟨_, ?_, inf, hi, rfl⟩
        have hin : (0 : Int) ≤ Int.ofNat n ∧ Int.ofNat n < (len : Int) := ⟨Int.natCast_nonneg n, Int.ofNat_lt.2 (nblt_lt hb)⟩
        simp only [Instr.indexAt, asIntOf, Sem.run_bind, Sem.run_pure, Result.andThen_ok, run_underlying hu, if_pos hin, size_run hT hs]
        rw [add_off]; rfl
  · cases h
theorem fieldAddr_ok {t f : Nat} {a v : V} {ra : Value} (h : fieldAddr tb t a f = some v) (va : VR E a ra) (w : World) : ∃ r, (Instr.fieldAt t ra f).run P w = .ok r w ∧ VR E v r := by
  unfold fieldAddr at h
  split at h
  · rename_i fs m off hd
    have hu := hT.und _ _ hd
    obtain ⟨inf, hi, rfl⟩ := va
    cases hf : fs[f]? with
    | none => simp [hf] at h
    | some fd =>
      simp only [hf] at h
      split at h
      · rename_i sz hs
        cases h
        refine ⟨_, ?_, inf, hi, rfl⟩
        simp only [Instr.fieldAt, Instr.sureAddr, Sem.run_bind, Sem.run_pure, Result.andThen_ok, run_underlying hu, hf, fieldPlace, size_run hT hs, if_neg (Nat.succ_ne_zero sz)]
        rw [add_off]
      · cases h
  · cases h
theorem field_ok {t f : Nat} {a v : V} {ra : Value} (h : field tb t a f = some v) (va : VR E a ra) (w : World) : ∃ r, (Instr.field t ra f).run P w = .ok r w ∧ VR E v r := by
  unfold field at h
  split at h
  · rename_i fs cs hd
    have hu := hT.und _ _ hd
    obtain ⟨xs, hx, rfl⟩ := va
    cases hf : fs[f]? with
    | none => simp [hf] at h
    | some fd =>
      simp only [hf] at h
      obtain ⟨r, hr, hv⟩ := part_ok hT h hx w
      refine ⟨r, ?_, hv⟩
      simp only [Instr.field, Sem.run_bind, Result.andThen_ok, run_underlying hu, hf, asAgg, Sem.run_pure, hr]
  · cases h
end
def OVR (E : Env) : Option V → Option Value → Prop
  | none, none => True
  | some a, some x => VR E a x
  | _, _ => False
theorem bound_ok {E : Env} {P : Program} {v : V} {x : Value} {d top n : Nat} (h : sliceBnd (some v) d top = some n) (hv : VR E v x) (code : BoundsCode) {top' : Nat} (ht : top ≤ top') (w : World) :
    (Instr.sliceBound x top' code).run P w = .ok n w ∧ n ≤ top := by
  cases v <;> simp only [sliceBnd] at h <;> try (cases h; done)
  rename_i k i
  cases i with
  | negSucc i => cases h
  | ofNat i =>
    simp only at h
    cases hb : Nat.ble i top with
    | false => rw [hb] at h; cases h
    | true =>
      rw [hb] at h
      cases h
      rw [show x = _ from hv]
      have hle := nble_le hb
      have hin : (0 : Int) ≤ Int.ofNat n ∧ Int.ofNat n ≤ (top' : Int) := ⟨Int.natCast_nonneg n, Int.ofNat_le.2 (Nat.le_trans hle ht)⟩
      refine ⟨?_, hle⟩
      simp only [Instr.sliceBound, asIntOf, Sem.run_bind, Sem.run_pure, Result.andThen_ok, if_pos hin]
      rfl
theorem capOf_even {i : Info} {off c : Nat} : capOf i off (2 * c) = c := by simp [capOf]
theorem capOf_odd {i : Info} {off c : Nat} : capOf i off (2 * c + 1) = max c ((i.size - off) / i.unit) := by
  have h1 : (2 * c + 1) % 2 = 1 := by omega
  have h2 : (2 * c + 1) / 2 = c := by omega
  simp [capOf, h1, h2]
theorem le_capOf {i : Info} {off cap : Nat} : cap / 2 ≤ capOf i off cap := by
  unfold capOf; split
  · exact Nat.le_refl _
  · exact Nat.le_max_left _ _
def bndO (x : Option Value) (d top : Nat) (code : BoundsCode) : Sem Nat :=
  match x with
  | some v => Instr.sliceBound v top code
  | none => pure d
theorem opt_ok {E : Env} {P : Program} {v : Option V} {x : Option Value} {d top n : Nat} (h : sliceBnd v d top = some n) (hv : OVR E v x) (code : BoundsCode) {top' : Nat} (ht : top ≤ top') (w : World) :
    (bndO x d top' code).run P w = .ok n w ∧ (n ≤ top ∨ (v = none ∧ n = d)) := by
  cases v with
  | none =>
    cases x with
    | some x => exact hv.elim
    | none => simp only [sliceBnd] at h; cases h; exact ⟨rfl, .inr ⟨rfl, rfl⟩⟩
  | some v =>
    cases x with
    | none => exact hv.elim
    | some x =>
      obtain ⟨h1, h2⟩ := bound_ok h hv code ht w
      exact ⟨h1, .inl h2⟩
theorem reslice_ok {E : Env} {P : Program} {n off len cap sz : Nat} {lo hi mx : Option V} {rlo rhi rmx : Option Value} {fits isSlice : Bool} {v : V} {i : Info} (h : reslice n off len cap sz lo hi mx fits = some v)
    (hi' : E.at_ n = some i) (hf : fits = true → i.unit = sz) (hlo : OVR E lo rlo) (hhi : OVR E hi rhi) (hmx : OVR E mx rmx) (w : World) :
    ∃ l h m, (Instr.sliceBounds isSlice len (capOf i off cap) rlo rhi rmx).run P w = .ok (l, h, m) w ∧
      VR E v (.slice (some (if m = l then ⟨i.blk, off, none⟩ else (⟨i.blk, off, none⟩ : Addr).add (l * sz))) (h - l) (m - l)) := by
  unfold reslice at h
  simp only at h
  cases mx with
  | some vm =>
    cases rmx with
    | none => exact hmx.elim
    | some xm =>
      simp only at h
      cases h1 : sliceBnd (some vm) (cap / 2) (cap / 2) with
      | none => simp [h1] at h
      | some m =>
        simp only [h1] at h
        cases hi with
        | none => cases h
        | some vh =>
          cases rhi with
          | none => exact hhi.elim
          | some xh =>
            simp only at h
            cases h2 : sliceBnd (some vh) m m with
            | none => simp [h2] at h
            | some hh =>
              simp only [h2] at h
              cases h3 : sliceBnd lo 0 hh with
              | none => simp [h3] at h
              | some l =>
                simp only [h3, Option.some.injEq] at h
                subst h
                obtain ⟨r1, _⟩ := bound_ok (P := P) h1 hmx (if isSlice then .slice3Acap else .slice3Alen) (le_capOf (i := i) (off := off) (cap := cap)) w
                obtain ⟨r2, _⟩ := bound_ok (P := P) h2 hhi .slice3B (Nat.le_refl m) w
                obtain ⟨r3, _⟩ := opt_ok (P := P) h3 hlo .slice3C (Nat.le_refl hh) w
                refine ⟨l, hh, m, ?_, i, hi', ?_⟩
                · cases rlo <;> simp only [bndO, Sem.run_pure, Result.ok.injEq, and_true] at r3 <;> simp only [Instr.sliceBounds, Sem.run_bind, r1, r2, Result.andThen_ok, Option.isSome_some, if_true, r3, Sem.run_pure]
                · rw [capOf_even]
                  by_cases hm : m = l
                  · subst hm
                    rw [if_pos rfl, Nat.beq_refl]; rfl
                  · rw [if_neg hm, nbeq_false hm, add_off]; rfl
  | none =>
    cases rmx with
    | some x => exact hmx.elim
    | none =>
      simp only at h
      cases h2 : sliceBnd hi len (cap / 2) with
      | none => simp [h2] at h
      | some hh =>
        simp only [h2] at h
        cases h3 : sliceBnd lo 0 hh with
        | none => simp [h3] at h
        | some l =>
          simp only [h3] at h
          obtain ⟨r2, _⟩ := opt_ok (P := P) h2 hhi (if isSlice then .sliceAcap else .sliceAlen) (le_capOf (i := i) (off := off) (cap := cap)) w
          obtain ⟨r3, _⟩ := opt_ok (P := P) h3 hlo .sliceB (Nat.le_refl hh) w
          have hrun : (Instr.sliceBounds isSlice len (capOf i off cap) rlo rhi none).run P w = .ok (l, hh, capOf i off cap) w := by
            cases rhi <;> cases rlo <;> simp only [bndO, Sem.run_pure, Result.ok.injEq, and_true] at r2 r3 <;>
              simp only [Instr.sliceBounds, Sem.run_bind, Sem.run_pure, Result.andThen_ok, r2, Option.isSome_none, Bool.false_eq_true, if_false, r3]
          cases hk : Nat.beq (cap % 2) 0 with
          | true =>
            simp only [hk, cond_true, Option.some.injEq] at h
            subst h
            have hc : capOf i off cap = cap / 2 := by unfold capOf; rw [if_pos (nbeq_true hk)]
            refine ⟨l, hh, capOf i off cap, hrun, i, hi', ?_⟩
            rw [hc, capOf_even]
            by_cases hm : cap / 2 = l
            · rw [if_pos hm, hm, Nat.beq_refl]; rfl
            · rw [if_neg hm, nbeq_false hm, add_off]; rfl
          | false =>
            simp only [hk, cond_false] at h
            cases hl : (Nat.beq l 0 || (Nat.blt l (cap / 2) && fits)) with
            | false => rw [hl] at h; cases h
            | true =>
              rw [hl, cond_true] at h
              cases h
              refine ⟨l, hh, capOf i off cap, hrun, i, hi', ?_⟩
              have hc : capOf i off cap = max (cap / 2) ((i.size - off) / i.unit) := by unfold capOf; rw [if_neg (nbeq_ne hk)]
              rw [capOf_odd, hc]
              rw [Bool.or_eq_true, Bool.and_eq_true] at hl
              rcases hl with hl | ⟨hl1, hl2⟩
              · have := nbeq_true hl
                subst this
                simp [Addr.add]
              · have hlt := nblt_lt hl1
                have hu := hf hl2
                have hne : ¬ max (cap / 2) ((i.size - off) / i.unit) = l := by omega
                rw [if_neg hne, add_off]
                have e1 : (i.size - (off + l * sz)) / i.unit = (i.size - off) / i.unit - l := by
                  rw [hu, ← Nat.sub_sub, Nat.mul_comm, Nat.sub_mul_div]
                rw [e1]
                congr 1
                omega
section
variable {tb : Tab} {P : Program} (hT : TabOk tb P) {E : Env} {w : World}
include hT
theorem slice_ok {g : H} {t : TypeId} {a v : V} {ra : Value} {lo hi mx : Option V} {rlo rhi rmx : Option Value} (h : slice tb g t a lo hi mx = some v) (va : VR E a ra) (hr : Rel E g.get w)
    (hlo : OVR E lo rlo) (hhi : OVR E hi rhi) (hmx : OVR E mx rmx) : ∃ r, (Instr.sliceAt t ra rlo rhi rmx).run P w = .ok r w ∧ VR E v r := by
  unfold slice at h
  split at h
  ·
    rename_i s hd
    have hu := hT.und _ _ hd
    rw [show ra = _ from va]
    cases mx with
    | some x => cases h
    | none =>
      cases rmx with
      | some x => exact hmx.elim
      | none =>
        simp only at h
        cases h2 : sliceBnd hi s.length s.length with
        | none => simp [h2] at h
        | some hh =>
          simp only [h2] at h
          cases h3 : sliceBnd lo 0 hh with
          | none => simp [h3] at h
          | some l =>
            simp only [h3, Option.some.injEq] at h
            subst h
            obtain ⟨r2, _⟩ := opt_ok (P := P) h2 hhi .sliceAlen (Nat.le_refl s.length) w
            obtain ⟨r3, _⟩ := opt_ok (P := P) h3 hlo .sliceB (Nat.le_refl hh) w
            have hsz : (⟨s.toArray⟩ : ByteArray).size = s.length := by simp [ByteArray.size]
            refine ⟨.string ((⟨s.toArray⟩ : ByteArray).extract l hh), ?_, ?_⟩
            · cases rhi <;> cases rlo <;> simp only [bndO, Sem.run_pure, Result.ok.injEq, and_true] at r2 r3 <;>
                simp only [Instr.sliceAt, Instr.slice, Instr.sliceBounds, Sem.run_bind, run_underlying hu, Result.andThen_ok, Option.isSome_none, Bool.false_eq_true, if_false, Sem.run_pure, hsz, r2, r3]
            · show _ = _
              congr 1
              apply ByteArray.ext
              rw [ByteArray.data_extract]
              simp [List.drop_take]
  ·
    rename_i n e m off hd
    have hu := hT.und _ _ hd
    obtain ⟨i, hi', rfl⟩ := va
    cases hs : tb.size e with
    | none => simp [hs] at h
    | some sz =>
      simp only [hs, Option.bind_some] at h
      obtain ⟨l, hh, mm, hrun, hv⟩ := reslice_ok (P := P) (isSlice := false) h hi' (by simp) hlo hhi hmx w
      rw [capOf_even] at hrun
      refine ⟨_, ?_, hv⟩
      simp only [Instr.sliceAt, Instr.sureAddr, Sem.run_bind, run_underlying hu, Result.andThen_ok, Sem.run_pure, hrun, size_run hT hs]
  ·
    rename_i e m off len cap hd
    have hu := hT.und _ _ hd
    obtain ⟨i, hi', rfl⟩ := va
    cases hs : tb.size e with
    | none => simp [hs] at h
    | some sz =>
      simp only [hs, Option.bind_some] at h
      have hfits : fitsAt g m sz = true → i.unit = sz := by
        intro hf
        unfold fitsAt at hf
        split at hf
        · rename_i c e' u fz hg
          obtain ⟨j, hj, hju, _⟩ := hr.obj m _ hg
          rw [hi'] at hj; cases hj
          rw [hju]; exact nbeq_true hf
        · cases hf
      obtain ⟨l, hh, mm, hrun, hv⟩ := reslice_ok (P := P) (isSlice := true) h hi' hfits hlo hhi hmx w
      refine ⟨_, ?_, hv⟩
      simp only [Instr.sliceAt, Instr.slice, Sem.run_bind, run_underlying hu, Result.andThen_ok, Sem.run_pure, hrun, size_run hT hs]
      congr 2
      split <;> rfl
  ·
    rename_i e hd
    have hu := hT.und _ _ hd
    rw [show ra = _ from va]
    split at h
    · rename_i sz hs
      cases rmx with
      | some x => exact hmx.elim
      | none =>
        cases h2 : sliceBnd hi 0 0 with
        | none => simp [h2] at h
        | some hh =>
          simp only [h2] at h
          cases h3 : sliceBnd lo 0 0 with
          | none => simp [h3] at h
          | some l =>
            simp only [h3, Option.some.injEq] at h
            subst h
            obtain ⟨r2, h2'⟩ := opt_ok (P := P) h2 hhi .sliceAcap (Nat.le_refl 0) w
            have hh0 : hh = 0 := by rcases h2' with h | ⟨_, h⟩ <;> omega
            subst hh0
            obtain ⟨r3, h3'⟩ := opt_ok (P := P) h3 hlo .sliceB (Nat.le_refl 0) w
            have hl0 : l = 0 := by rcases h3' with h | ⟨_, h⟩ <;> omega
            subst hl0
            refine ⟨.slice none 0 0, ?_, rfl⟩
            cases rhi <;> cases rlo <;> simp only [bndO, Sem.run_pure] at r2 r3 <;>
              simp only [Instr.sliceAt, Instr.slice, Instr.sliceBounds, Sem.run_bind, run_underlying hu, Result.andThen_ok, Option.isSome_none, Bool.false_eq_true, if_false, if_true, Sem.run_pure, r2, r3, size_run hT hs] <;> rfl
    · cases h
  ·
    rename_i arr m off hd
    have hu := hT.und _ _ hd
    obtain ⟨i, hi', rfl⟩ := va
    split at h
    · rename_i n e hd2
      have hu2 := hT.und _ _ hd2
      cases hs : tb.size e with
      | none => simp [hs] at h
      | some sz =>
        simp only [hs, Option.bind_some] at h
        obtain ⟨l, hh, mm, hrun, hv⟩ := reslice_ok (P := P) (isSlice := false) h hi' (by simp) hlo hhi hmx w
        rw [capOf_even] at hrun
        refine ⟨_, ?_, hv⟩
        simp only [Instr.sliceAt, Instr.slice, asAddr, Sem.run_bind, run_underlying hu, run_underlying hu2, Result.andThen_ok, Sem.run_pure, hrun, size_run hT hs]
    · cases h
  · cases h
end
end Ev
namespace Ev
open Go
theorem one_of_sym (E : Env) (i : Nat) : (E.sym i).oneCell' = true := by
  have := E.one i
  cases h : E.sym i <;> simp [h, oneV, Value.oneCell'] at this ⊢
theorem one_of_leaf {E : Env} {v : V} {x : Value} (h : VR E v x) (hl : leafV v = true) : x.oneCell' = true := by
  cases v with
  | agg _ => cases hl
  | tup _ => cases hl
  | sym i => rw [show x = _ from h]; exact one_of_sym E i
  | ptr _ _ => obtain ⟨_, _, rfl⟩ := h; rfl
  | slice _ _ _ _ => obtain ⟨_, _, rfl⟩ := h; rfl
  | map _ => obtain ⟨_, _, rfl⟩ := h; rfl
  | yld _ => obtain ⟨_, _, rfl⟩ := h; rfl
  | fn _ _ _ => obtain ⟨_, _, _, _, rfl⟩ := h; rfl
  | iface _ _ => obtain ⟨_, _, rfl⟩ := h; rfl
  | _ => rw [show x = _ from h]; rfl
theorem cells_of_one {x : Value} (h : x.oneCell' = true) : x.cells = #[x] := by cases x <;> simp [Value.oneCell'] at h <;> rfl
theorem one_of_leaves {E : Env} : ∀ {vs : List V} {xs : List Value}, VRL E vs xs → vs.all leafV = true → ∀ x ∈ xs, x.oneCell' = true
  | [], _, hx, _, x, hm => by rw [show _ = _ from hx] at hm; cases hm
  | v :: vs, _, ⟨y, ys, e, hy, hs⟩, hl, x, hm => by
    rw [List.all_cons, Bool.and_eq_true] at hl
    rw [e] at hm
    rcases List.mem_cons.1 hm with rfl | hm
    · exact one_of_leaf hy hl.1
    · exact one_of_leaves hs hl.2 x hm
theorem cells_ok {E : Env} {v : V} {vs : List V} {x : Value} (h : cellsOf v = some vs) (hv : VR E v x) : ∃ xs, x.cells = xs.toArray ∧ VRL E vs xs ∧ (∀ y ∈ xs, y.oneCell' = true) ∧ vs.all leafV = true := by
  by_cases hl : leafV v = true
  · have h' : vs = [v] := by cases v <;> simp [leafV] at hl <;> simp [cellsOf] at h <;> exact h.symm
    subst h'
    have h1 := one_of_leaf hv hl
    exact ⟨[x], cells_of_one h1, ⟨x, [], rfl, hv, rfl⟩, by simpa using h1, by simpa using hl⟩
  · cases v <;> simp [leafV] at hl
    · rename_i cs
      obtain ⟨xs, hx, rfl⟩ := hv
      simp only [cellsOf] at h
      cases hb : cs.all leafV with
      | false => rw [hb] at h; cases h
      | true =>
        rw [hb] at h
        cases h
        exact ⟨xs, rfl, hx, one_of_leaves hx hb, hb⟩
    · simp [cellsOf] at h
theorem putCells_ok {E : Env} : ∀ {c vs c' : List V} {xs ys : List Value}, putCells c vs = some c' → VRL E c xs → VRL E vs ys → VRL E c' (ys ++ xs.drop ys.length) ∧ vs.length ≤ c.length
  | c, [], c', xs, ys, h, hx, hy => by
    simp [putCells] at h; subst h
    rw [show ys = [] from hy]; simpa using hx
  | [], v :: vs, c', xs, ys, h, hx, hy => by simp [putCells] at h
  | a :: c, v :: vs, c', xs, ys, h, hx, hy => by
    obtain ⟨x, xs', rfl, hx1, hx2⟩ := hx
    obtain ⟨y, ys', rfl, hy1, hy2⟩ := hy
    simp only [putCells] at h
    cases h1 : putCells c vs with
    | none => simp [h1] at h
    | some d =>
      simp [h1] at h
      subst h
      obtain ⟨h2, h3⟩ := putCells_ok h1 hx2 hy2
      exact ⟨⟨y, _, rfl, hy1, by simpa using h2⟩, by simp; exact h3⟩
theorem putAt_ok {E : Env} : ∀ {n : Nat} {c vs c' : List V} {xs ys : List Value}, putAt n c vs = some c' → VRL E c xs → VRL E vs ys →
    VRL E c' (xs.take n ++ ys ++ xs.drop (n + ys.length)) ∧ n + vs.length ≤ c.length
  | 0, c, vs, c', xs, ys, h, hx, hy => by simpa using putCells_ok h hx hy
  | n + 1, [], vs, c', xs, ys, h, hx, hy => by simp [putAt] at h
  | n + 1, a :: c, vs, c', xs, ys, h, hx, hy => by
    obtain ⟨x, xs', rfl, hx1, hx2⟩ := hx
    simp only [putAt] at h
    cases h1 : putAt n c vs with
    | none => simp [h1] at h
    | some d =>
      simp [h1] at h
      subst h
      obtain ⟨h2, h3⟩ := putAt_ok h1 hx2 hy
      refine ⟨⟨x, _, rfl, hx1, ?_⟩, by simp; omega⟩
      have e : n + 1 + ys.length = (n + ys.length) + 1 := by omega
      rw [e]
      simpa using h2
theorem foldl_set (off : Nat) : ∀ (ys : List Value) (k : Nat) (cells : Array Value), off + k + ys.length ≤ cells.size →
    ((ys.zipIdx k).foldl (fun cs p => cs.setIfInBounds (off + p.2) p.1) cells).toList = cells.toList.take (off + k) ++ ys ++ cells.toList.drop (off + k + ys.length)
  | [], k, cells, _ => by simp
  | y :: ys, k, cells, h => by
    simp only [List.zipIdx_cons, List.foldl_cons]
    have hl : off + (k + 1) + ys.length ≤ (cells.setIfInBounds (off + k) y).size := by simp at h ⊢; omega
    rw [foldl_set off ys (k + 1) _ hl]
    have e := list_seg_step cells.toList (off + k) y ys (by simp at h ⊢; omega)
    simpa [Array.toList_setIfInBounds, Nat.add_assoc] using e
def PR (E : Env) : List (Nat × V) → List (Nat × Value) → Prop
  | [], qs => qs = []
  | p :: ps, qs => ∃ y r, qs = (p.1, y) :: r ∧ VR E p.2 y ∧ PR E ps r
theorem fill_ok {E : Env} {place : Nat → Option (Nat × Nat)} : ∀ {ps : List (Nat × V)} {rps : List (Nat × Value)} {c c' : List V} {xs : List Value}, fill place c ps = some c' → VRL E c xs →
    PR E ps rps → ∃ ys, Instr.fill place xs.toArray rps = some ys.toArray ∧ VRL E c' ys
  | [], _, c, c', xs, h, hx, hp => by
    rw [show _ = _ from hp]
    simp [fill] at h; subst h
    exact ⟨xs, rfl, hx⟩
  | (i, v) :: ps, _, c, c', xs, h, hx, hp => by
      obtain ⟨rv, rps, rfl, hv, hps⟩ := hp
      simp only at hv
      simp only [fill] at h
      cases h1 : place i with
      | none => simp [h1] at h
      | some os =>
        obtain ⟨off, size⟩ := os
        simp only [h1] at h
        cases h2 : cellsOf v with
        | none => simp [h2] at h
        | some vs =>
          simp only [h2] at h
          cases h3 : Nat.beq vs.length size with
          | false => rw [h3] at h; cases h
          | true =>
            rw [h3, cond_true] at h
            cases h4 : putAt off c vs with
            | none => simp [h4] at h
            | some d =>
              simp only [h4] at h
              obtain ⟨zs, hz1, hz2, _, _⟩ := cells_ok h2 hv
              obtain ⟨hd, hle⟩ := putAt_ok h4 hx hz2
              obtain ⟨ys, hys, hv'⟩ := fill_ok h hd hps
              refine ⟨ys, ?_, hv'⟩
              have hlz : zs.length = size := by rw [hz2.length]; exact nbeq_true h3
              have hlx : xs.length = c.length := hx.length
              have hle' : off + zs.length ≤ xs.length := by rw [hlx, hz2.length]; exact hle
              have hcond : ¬ ((rv.cells.size ≠ size || off + rv.cells.size > xs.toArray.size) = true) := by
                rw [hz1]; simp [hlz]; rw [← hlz]; exact hle'
              simp only [Instr.fill, h1]
              rw [if_neg (by simpa using hcond), hz1]
              rw [← hys]
              congr 1
              apply Array.ext'
              rw [← Array.foldl_toList]
              have := foldl_set off zs 0 xs.toArray (by simpa using hle')
              simpa using this
theorem evParts_ok {E : Env} {t : T V} {a : Act} (ht : TR E t a.tmps) (hg : GlobOk E) : ∀ {ps : List (Nat × Operand)} {vs : List (Nat × V)}, evParts t ps = some vs →
    PR E vs (ps.map fun p => (p.1, a.eval p.2))
  | [], vs, h => by simp [evParts] at h; subst h; rfl
  | (i, x) :: ps, vs, h => by
    simp only [evParts] at h
    cases h1 : ev t x with
    | none => simp [h1] at h
    | some v =>
      simp only [h1] at h
      cases h2 : evParts t ps with
      | none => simp [h2] at h
      | some r =>
        simp [h2] at h
        subst h
        exact ⟨_, _, rfl, ev_ok ht hg h1, evParts_ok ht hg h2⟩
section
variable {tb : Tab} {P : Program} (hT : TabOk tb P) {E : Env} {w : World}
include hT
theorem zeros_ok {t : TypeId} {z : List V} (h : zerosOf tb t = some z) (w : World) : ∃ rz xs, (zeroValue t).run P w = .ok rz w ∧ rz.cells = xs.toArray ∧ VRL E z xs ∧ (∀ x ∈ xs, x.oneCell' = true) ∧ z.all leafV = true := by
  unfold zerosOf zeroOf at h
  cases hi : tb.inf t with
  | none => simp [hi] at h
  | some i =>
    simp only [hi] at h
    cases hz : i.zero with
    | none => simp [hz] at h
    | some rz =>
      simp only [hz] at h
      cases ha : abs rz with
      | none => simp [ha] at h
      | some v =>
        simp only [ha, Option.bind_some] at h
        obtain ⟨xs, h1, h2, h3, h4⟩ := cells_ok (E := E) h (abs_ok ha)
        refine ⟨rz, xs, ?_, h1, h2, h3, h4⟩
        simp [zeroValue, typeInfo, hT.inf t i hi, hz]
theorem zero_ok {t : TypeId} {v : V} (h : zeroOf tb t = some v) (w : World) : ∃ rz, (zeroValue t).run P w = .ok rz w ∧ VR E v rz := by
  unfold zeroOf at h
  cases hi : tb.inf t with
  | none => simp [hi] at h
  | some i =>
    simp only [hi] at h
    cases hz : i.zero with
    | none => simp [hz] at h
    | some rz =>
      simp only [hz] at h
      exact ⟨rz, by simp [zeroValue, typeInfo, hT.inf t i hi, hz], abs_ok h⟩
theorem places_ok : ∀ {fs : List Field} {pl : List (Nat × Nat)}, places tb fs = some pl → ∀ w : World, (fs.mapM (fun f => do pure (f.offset, ← Go.sizeOf f.type) : Field → Sem (Nat × Nat))).run P w = .ok pl w
  | [], pl, h, w => by simp [places] at h; subst h; simp
  | f :: fs, pl, h, w => by
    simp only [places] at h
    cases h1 : tb.size f.type with
    | none => simp [h1] at h
    | some n =>
      simp only [h1] at h
      cases h2 : places tb fs with
      | none => simp [h2] at h
      | some r =>
        simp [h2] at h
        subst h
        simp only [List.mapM_cons, Sem.run_bind, size_run hT h1, Result.andThen_ok, Sem.run_pure, places_ok h2]
theorem build_ok {t : TypeId} {ps : List (Nat × V)} {rps : List (Nat × Value)} {v : V} (h : build tb t ps = some v) (hp : PR E ps rps) (w : World) :
    ∃ r, (Instr.build t rps.toArray).run P w = .ok r w ∧ VR E v r := by
  unfold build at h
  cases hz : zerosOf tb t with
  | none => simp [hz] at h
  | some z =>
    simp only [hz] at h
    obtain ⟨rz, xs, hrz, hcells, hx, _, _⟩ := zeros_ok (E := E) hT hz w
    split at h
    · rename_i fs hd
      have hu := hT.und _ _ hd
      cases hpl : places tb fs.toList with
      | none => simp [hpl] at h
      | some pl =>
        simp only [hpl] at h
        cases hf : fill (pl[·]?) z ps with
        | none => simp [hf] at h
        | some c =>
          simp [hf] at h
          subst h
          obtain ⟨ys, hys, hv⟩ := fill_ok hf hx hp
          refine ⟨.agg ys.toArray, ?_, ys, hv, rfl⟩
          have hm := places_ok hT hpl w
          have hm' : (fs.mapM (fun f => do pure (f.offset, ← Go.sizeOf f.type) : Field → Sem (Nat × Nat))).run P w = .ok pl.toArray w := by
            rw [Array.mapM_eq_mapM_toList]
            simp only [Sem.run_map, hm, Result.andThen_ok]
          have hys' : Instr.fill (fun x => pl.toArray[x]?) xs.toArray rps = some ys.toArray := by simpa using hys
          simp only [Instr.build, Sem.run_bind, hrz, Result.andThen_ok, run_underlying hu, hm', hcells, hys', Sem.run_pure]
    · rename_i n e hd
      have hu := hT.und _ _ hd
      cases hs : tb.size e with
      | none => simp [hs] at h
      | some sz =>
        simp only [hs] at h
        cases hf : fill (fun i => some (i * sz, sz)) z ps with
        | none => simp [hf] at h
        | some c =>
          simp [hf] at h
          subst h
          obtain ⟨ys, hys, hv⟩ := fill_ok hf hx hp
          refine ⟨.agg ys.toArray, ?_, ys, hv, rfl⟩
          simp only [Instr.build, Sem.run_bind, hrz, Result.andThen_ok, run_underlying hu, size_run hT hs, hcells, hys, Sem.run_pure]
    · cases h
end
end Ev
