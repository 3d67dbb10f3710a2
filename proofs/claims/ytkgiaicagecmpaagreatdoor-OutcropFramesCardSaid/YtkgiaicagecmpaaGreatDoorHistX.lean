/-
  klippe/history.Check on events that are right: at most two of them, each a deposit of at most three units, a fault, a fold, a dike or a tilt.
-/
import Derived.Test.YtkgiaicagecmpaaGreatDoorCaseX
set_option linter.unusedSectionVars false
set_option linter.unusedVariables false
set_option linter.unusedSimpArgs false
namespace Go.Proofs.YtkgiaicagecmpaaGreatDoor
open Go Ev Klp
noncomputable def tmk {α : Type} : List (Nat × α) → T α
  | [] => .e
  | e :: r => (tmk r).set e.1 e.2
theorem tmk_mem {α : Type} : ∀ {l : List (Nat × α)} {f : Nat} {r : α}, (tmk l).get f = some r → (f, r) ∈ l
  | [], f, r, h => by rw [tmk, T.get_e] at h; cases h
  | e :: l, f, r, h => by
    rw [tmk, T.get_set] at h
    by_cases hf : f = e.1
    · subst hf
      simp at h
      subst h
      exact List.mem_cons_self ..
    · rw [if_neg hf] at h
      exact List.mem_cons_of_mem _ (tmk_mem h)
theorem tmk_prim {w0 : Base} {l : Memo} (hl : Memos Tryz.prog w0 l) {f : Nat} {args : List V} {v : V} (h : primOf (tmk l) f args = some v) : Contract Tryz.prog w0 f args v := by
  unfold primOf at h
  split at h
  · rename_i r hr
    exact hl _ (tmk_mem hr) _ (look_mem h)
  · cases h
theorem _root_.Ev.VRL.of_get {E : Env} : ∀ {vs : List V} {xs : List Value}, vs.length = xs.length → (∀ (l : Nat) (v : V) (x : Value), vs[l]? = some v → xs[l]? = some x → VR E v x) → VRL E vs xs
  | [], xs, h, _ => by
    cases xs with
    | nil => rfl
    | cons _ _ => simp at h
  | v :: vs, xs, h, hg => by
    cases xs with
    | nil => simp at h
    | cons x xs => exact ⟨x, xs, rfl, hg 0 v x rfl rfl, Ev.VRL.of_get (by simpa using h) fun l v' x' h1 h2 => hg (l + 1) v' x' (by simpa using h1) (by simpa using h2)⟩
structure Good (M : Mem) : Prop where
  pow : ∀ s st, Pow ⟨M, s, st⟩
  tabs : ∀ w : World, M.heap.size ≤ w.heap.size → (∀ b, b < M.heap.size → M.frz b → w.heap[b]? = M.heap[b]?) → PTab w
theorem Good.le {M M' : Mem} (h : Good M) (hl : M.Le M') : Good M' :=
  ⟨fun s st => by
    obtain ⟨⟨g1, z⟩, rc, e, fr, g2, g3⟩ := h.pow s st
    obtain ⟨z', e'⟩ := hl.same _ g1 z
    exact ⟨⟨Nat.lt_of_lt_of_le g1 hl.size, z'⟩, rc, e, fr, e'.trans g2, g3⟩, fun w g1 g2 => h.tabs w (Nat.le_trans hl.size g1) (hl.on g2)⟩
def shKind (sh : Nat) : Nat := cond (Nat.blt sh 3) 1 (sh - 1)
def u8 (n : Nat) : UInt8 := UInt8.ofNat n
def nameB (e : Nat) : List UInt8 := [101, u8 (48 + e)]
def dikeB (e sh : Nat) : List UInt8 := cond (Nat.beq sh 5) [107, u8 (48 + e)] []
def unitB (e j : Nat) : List UInt8 := [u8 (65 + e), u8 (49 + j)]
def unitsB (e sh : Nat) : List (List UInt8) := (List.range (sh + 1)).map (unitB e)
def leafS (e sh l : Nat) : V :=
  cond (Nat.beq l 0) (.int .i64 (Int.ofNat (shKind sh))) (cond (Nat.beq l 1) (.str (nameB e)) (cond (Nat.beq l 3) (cond (Nat.blt sh 3) (.slice (33 + e) 0 (sh + 1) (2 * (sh + 1) + 1)) .nils)
    (cond (Nat.beq l 24) (.str (dikeB e sh)) (.sym (32 * e + l)))))
def leafsS (e sh : Nat) : List V := (List.range 32).map (leafS e sh)
def strB (l : List UInt8) : Value := .string ⟨l.toArray⟩
structure EvRaw (M : Mem) (m : Value) (e sh : Nat) (ls : List Value) : Prop where
  len : ls.length = 32
  one : ∀ x ∈ ls, oneV x
  kind : ls[0]? = some (.int .i64 (Int.ofNat (shKind sh)))
  name : ls[1]? = some (strB (nameB e))
  units : sh < 3 → ∃ b c rc t fr rest, ls[3]? = some (.slice (some ⟨b, 0, none⟩) (sh + 1) c) ∧ sh + 1 ≤ c ∧ M.frz b ∧ M.heap[b]? = some (.cells rc t fr) ∧ rc.toList = (unitsB e sh).map strB ++ rest
  nounits : ¬ sh < 3 → ls[3]? = some (.slice none 0 0)
  dike : ls[24]? = some (strB (dikeB e sh))
  chk : CallOk Tryz.prog M 119 [m, .agg ls.toArray] (.int .i64 0)
theorem EvRaw.le {M M' : Mem} (hl : M.Le M') {m : Value} {e sh : Nat} {ls : List Value} (h : EvRaw M m e sh ls) : EvRaw M' m e sh ls :=
  ⟨h.len, h.one, h.kind, h.name, fun hs => by
    obtain ⟨b, c, rc, t, fr, rest, g1, g2, z, g3, g4⟩ := h.units hs
    obtain ⟨z', e'⟩ := hl.same b (Array.getElem?_eq_some_iff.1 g3).1 z
    exact ⟨b, c, rc, t, fr, rest, g1, g2, z', e'.trans g3, g4⟩, h.nounits, h.dike, h.chk.le hl⟩
noncomputable def cxH : CX := ⟨T.ofList .e 0 ((List.range 66).map .opq), .e, [], [], []⟩
def meshH : List V := [.sym 64, .sym 65]
def evsH (l : List Nat) : V := match l with
  | [] => .nils
  | l => .slice 32 0 l.length (2 * l.length + 1)
def cellsH : Nat → List Nat → List V
  | _, [] => []
  | e, sh :: l => leafsS e sh ++ cellsH (e + 1) l
def memoE : Nat → List Nat → List (List V × V)
  | _, [] => []
  | e, sh :: l => ([.agg meshH, .agg (leafsS e sh)], .int .i64 0) :: memoE (e + 1) l
def unitsH : Nat → List Nat → List (Nat × List V)
  | _, [] => []
  | e, sh :: l => cond (Nat.blt sh 3) [(33 + e, (unitsB e sh).map .str)] [] ++ unitsH (e + 1) l
def memoH (l : List Nat) : Memo := [(45, [([.agg meshH], .int .i64 0)]), (119, memoE 0 l)]
def glH (l : List Nat) : List (Nat × List V) := (match l with | [] => [] | l => [(32, cellsH 0 l)]) ++ unitsH 0 l
noncomputable def kitH (l : List Nat) : Kit := ⟨cxH, [], [], .e, tmk (memoH l), .e, tmk (glH l), ⟨[], [], []⟩⟩
def argH (l : List Nat) : List V := [.agg (meshH ++ [.str [98, 97, 115, 101], evsH l])]
noncomputable def runH (l : List Nat) : Bool := memoOk (kitH l).tab 10000 60 63 (argH l) (.int .i64 0)
set_option maxRecDepth 100000
theorem run0 : runH [] = true := by kernel_rfl
theorem run1 : ((List.range 7).all fun a => runH [a]) = true := by kernel_rfl
theorem run2 : ((List.range 7).all fun a => (List.range 7).all fun b => runH [a, b]) = true := by kernel_rfl
theorem chkH (l : List Nat) : (kitH l).chk = true := rfl
end Go.Proofs.YtkgiaicagecmpaaGreatDoor
namespace Go.Proofs.YtkgiaicagecmpaaGreatDoor
open Go Ev Klp
def oH (m0 m1 : Value) (l : List (List Value)) (j : Nat) : Value := if j = 64 then m0 else if j = 65 then m1 else (((l[j / 32]?).getD [])[j % 32]?).getD .nilFunc
theorem symH {m0 m1 : Value} {l : List (List Value)} {j : Nat} (hj : j < 66) : symX (fun _ => 0) (oH m0 m1 l) cxH.tab j = oH m0 m1 l j := by
  unfold symX cxH
  simp only [T.get_ofList]
  rw [if_pos (by simp; omega)]
  simp [hj]
theorem oH_ev {m0 m1 : Value} {l : List (List Value)} {e j : Nat} {ls : List Value} (he : l[e]? = some ls) (h2 : e < 2) (hj : j < 32) : oH m0 m1 l (32 * e + j) = (ls[j]?).getD .nilFunc := by
  unfold oH
  rw [if_neg (by omega), if_neg (by omega), show (32 * e + j) / 32 = e from by omega, show (32 * e + j) % 32 = j from by omega, he]
  rfl
theorem leafs_ok {M : Mem} {m : Value} {e sh : Nat} {ls : List Value} (h : EvRaw M m e sh ls) {E : Env} (hs : ∀ j, j < 32 → E.sym (32 * e + j) = (ls[j]?).getD .nilFunc)
    (hu : ∀ b c, ls[3]? = some (.slice (some ⟨b, 0, none⟩) (sh + 1) c) → sh < 3 → ∃ i, E.at_ (33 + e) = some i ∧ i.blk = b ∧ capOf i 0 (2 * (sh + 1) + 1) = c) : VRL E (leafsS e sh) ls := by
  refine VRL.of_get (by simp [leafsS, h.len]) fun l v x h1 h2 => ?_
  have hl : l < 32 := by
    have := (List.getElem?_eq_some_iff.1 h2).1
    rw [h.len] at this; exact this
  have hv : v = leafS e sh l := by
    simp [leafsS, hl] at h1
    exact h1.symm
  subst hv
  unfold leafS
  by_cases c0 : l = 0
  · subst c0
    rw [show Nat.beq 0 0 = true from rfl, cond_true]
    rw [h.kind] at h2; cases h2; rfl
  rw [nbeq_false c0, cond_false]
  by_cases c1 : l = 1
  · subst c1
    rw [show Nat.beq 1 1 = true from rfl, cond_true]
    rw [h.name] at h2; cases h2; rfl
  rw [nbeq_false c1, cond_false]
  by_cases c3 : l = 3
  · subst c3
    rw [show Nat.beq 3 3 = true from rfl, cond_true]
    by_cases hsh : sh < 3
    · rw [show Nat.blt sh 3 = true from Nat.ble_eq_true_of_le hsh, cond_true]
      obtain ⟨b, c, rc, t, fr, rest, g1, g2, gz, g3, g4⟩ := h.units hsh
      rw [g1] at h2; cases h2
      obtain ⟨i, hi, hb, hc⟩ := hu b c g1 hsh
      exact ⟨i, hi, by rw [hb, hc]⟩
    · have : Nat.blt sh 3 = false := by rw [← Bool.not_eq_true]; exact fun hh => hsh (nblt_lt hh)
      rw [this, cond_false]
      rw [h.nounits hsh] at h2; cases h2; rfl
  rw [nbeq_false c3, cond_false]
  by_cases c24 : l = 24
  · subst c24
    rw [show Nat.beq 24 24 = true from rfl, cond_true]
    rw [h.dike] at h2; cases h2; rfl
  rw [nbeq_false c24, cond_false]
  show x = E.sym (32 * e + l)
  rw [hs l hl, h2]; rfl
def EvsRaw (M : Mem) (evs : List (Nat × List Value)) (sv : Value) : Prop :=
  (evs = [] ∧ sv = .slice none 0 0) ∨ (evs ≠ [] ∧ ∃ b c rc t fr rest, sv = .slice (some ⟨b, 0, none⟩) evs.length c ∧ evs.length ≤ c ∧ M.frz b ∧ M.heap[b]? = some (.cells rc t fr) ∧ rc.toList = (evs.map (·.2)).flatten ++ rest)
theorem memoE_mem {l : List Nat} {e : Nat} {p : List V × V} (h : p ∈ memoE e l) : ∃ k sh, l[k]? = some sh ∧ p = ([.agg meshH, .agg (leafsS (e + k) sh)], .int .i64 0) := by
  induction l generalizing e with
  | nil => cases h
  | cons x l ih =>
    rcases List.mem_cons.1 h with rfl | h
    · exact ⟨0, x, rfl, rfl⟩
    · obtain ⟨k, sh, h1, rfl⟩ := ih h
      exact ⟨k + 1, sh, by simpa using h1, by rw [show e + 1 + k = e + (k + 1) from by omega]⟩
theorem unitsH_mem {l : List Nat} {e : Nat} {p : Nat × List V} (h : p ∈ unitsH e l) : ∃ k sh, l[k]? = some sh ∧ sh < 3 ∧ p = (33 + (e + k), (unitsB (e + k) sh).map .str) := by
  induction l generalizing e with
  | nil => cases h
  | cons x l ih =>
    rcases List.mem_append.1 h with h | h
    · by_cases hx : x < 3
      · rw [show Nat.blt x 3 = true from Nat.ble_eq_true_of_le hx, cond_true] at h
        exact ⟨0, x, rfl, hx, List.mem_singleton.1 h⟩
      · have : Nat.blt x 3 = false := by rw [← Bool.not_eq_true]; exact fun hh => hx (nblt_lt hh)
        rw [this, cond_false] at h; cases h
    · obtain ⟨k, sh, h1, h2, rfl⟩ := ih h
      exact ⟨k + 1, sh, by simpa using h1, h2, by rw [show e + 1 + k = e + (k + 1) from by omega]⟩
theorem cells_ok {E : Env} : ∀ {l : List (Nat × List Value)} {e : Nat}, (∀ (k : Nat) (p : Nat × List Value), l[k]? = some p → VRL E (leafsS (e + k) p.1) p.2) → VRL E (cellsH e (l.map (·.1))) ((l.map (·.2)).flatten)
  | [], _, _ => rfl
  | p :: l, e, h => by
    simp only [List.map_cons, cellsH, List.flatten_cons]
    exact (h 0 p rfl).append (cells_ok fun k q hq => by rw [show e + 1 + k = e + (k + 1) from by omega]; exact h (k + 1) q (by simpa using hq))
theorem strs_ok {E : Env} : ∀ l : List (List UInt8), VRL E (l.map .str) (l.map strB)
  | [] => rfl
  | x :: l => VRL.cons rfl (strs_ok l)
theorem unitInfo {M : Mem} {m : Value} {e sh : Nat} {ls : List Value} (h : EvRaw M m e sh ls) : ∃ i : Info, (∀ b c, ls[3]? = some (.slice (some ⟨b, 0, none⟩) (sh + 1) c) → sh < 3 → i.blk = b ∧ capOf i 0 (2 * (sh + 1) + 1) = c) := by
  by_cases hsh : sh < 3
  · obtain ⟨b, c, rc, t, fr, rest, g1, g2, gz, g3, g4⟩ := h.units hsh
    refine ⟨{ blk := b, size := c, unit := 1 }, fun b' c' h1 _ => ?_⟩
    rw [g1] at h1; cases h1
    refine ⟨rfl, ?_⟩
    unfold capOf
    rw [if_neg (by omega)]
    simp only [Nat.sub_zero, Nat.div_one]
    omega
  · exact ⟨{ blk := 0, size := 0, unit := 0 }, fun _ _ _ h => absurd h hsh⟩
theorem hist_ok {M : Mem} (hg : Good M) {m0 m1 : Value} (hm0 : oneV m0) (hm1 : oneV m1) (hm : CallOk Tryz.prog M 45 [.agg #[m0, m1]] (.int .i64 0)) {evs : List (Nat × List Value)} (hl : evs.length ≤ 2)
    (hsh : ∀ p ∈ evs, p.1 < 7) (he : ∀ (k : Nat) (p : Nat × List Value), evs[k]? = some p → EvRaw M (.agg #[m0, m1]) k p.1 p.2) {sv : Value} (hs : EvsRaw M evs sv) :
    CallOk Tryz.prog M 63 [.agg #[m0, m1, strB [98, 97, 115, 101], sv]] (.int .i64 0) := by
  have hinfo : ∀ k : Nat, ∃ i : Info, ∀ p : Nat × List Value, evs[k]? = some p → (∀ b c, p.2[3]? = some (.slice (some ⟨b, 0, none⟩) (p.1 + 1) c) → p.1 < 3 → i.blk = b ∧ capOf i 0 (2 * (p.1 + 1) + 1) = c) := by
    intro k
    cases hk : evs[k]? with
    | none => exact ⟨{ blk := 0, size := 0, unit := 0 }, (fun p hp => by cases hp)⟩
    | some p =>
      obtain ⟨i, hi⟩ := unitInfo (he k p hk)
      exact ⟨i, fun q hq => by cases hq; exact hi⟩
  have hinfo' := fun k => Classical.indefiniteDescription _ (hinfo k)
  have hei : ∃ i : Info, (evs = [] ∧ sv = .slice none 0 0) ∨ (evs ≠ [] ∧ sv = .slice (some ⟨i.blk, 0, none⟩) evs.length (capOf i 0 (2 * evs.length + 1)) ∧ ∃ rc t fr rest, M.frz i.blk ∧ M.heap[i.blk]? = some (.cells rc t fr) ∧ rc.toList = (evs.map (·.2)).flatten ++ rest) := by
    rcases hs with h | ⟨h0, b, c, rc, t, fr, rest, h1, h2, hz, h3, h4⟩
    · exact ⟨{ blk := 0, size := 0, unit := 0 }, .inl h⟩
    · refine ⟨{ blk := b, size := c, unit := 1 }, .inr ⟨h0, ?_, rc, t, fr, rest, hz, h3, h4⟩⟩
      rw [h1]
      unfold capOf
      rw [if_neg (by omega)]
      simp only [Nat.sub_zero, Nat.div_one]
      congr 1
      omega
  obtain ⟨iE, hE⟩ := hei
  let o := oH m0 m1 (evs.map (·.2))
  let st : Nat → Info := fun g => if g = 32 then iE else (hinfo' (g - 33)).1
  let w0 : Base := { toMem := M, sym := symX (fun _ => 0) o cxH.tab, stat := st }
  have ho : ∀ j, oneV (o j) := by
    intro j
    show oneV (oH _ _ _ j)
    unfold oH
    split
    · exact hm0
    · split
      · exact hm1
      · cases h1 : (evs.map (·.2))[j / 32]? with
        | none => simp; trivial
        | some ls =>
          rw [List.getElem?_map] at h1
          cases h2 : evs[j / 32]? with
          | none => rw [h2] at h1; cases h1
          | some p =>
            rw [h2] at h1
            cases h1
            simp only [Option.getD_some]
            cases h3 : p.2[j % 32]? with
            | none => trivial
            | some x => exact (he _ _ h2).one x (List.mem_of_getElem? h3)
  have hone : ∀ i, oneV (w0.sym i) := fun i => symX_one ho i
  have key : ∀ E, StatOk w0 E → (∀ (k : Nat) (p : Nat × List Value), evs[k]? = some p → VRL E (leafsS k p.1) p.2) ∧ VRL E meshH [m0, m1] := by
    intro E hE
    have sy : ∀ j, j < 66 → E.sym j = o j := fun j hj => by rw [hE.sym]; exact symH hj
    refine ⟨fun k p hk => ?_, ?_⟩
    · have hk2 : k < 2 := by have := (List.getElem?_eq_some_iff.1 hk).1; omega
      refine leafs_ok (he k p hk) (fun j hj => ?_) (fun b c h1 h2 => ?_)
      · rw [sy _ (by omega)]
        exact oH_ev (by rw [List.getElem?_map, hk]; rfl) hk2 hj
      · have h3 := (hinfo' k).2 p hk b c h1 h2
        refine ⟨st (33 + k), hE.stat _ (by omega) (by omega), ?_⟩
        show (if 33 + k = 32 then iE else (hinfo' (33 + k - 33)).1).blk = b ∧ capOf (if 33 + k = 32 then iE else (hinfo' (33 + k - 33)).1) 0 _ = c
        rw [if_neg (by omega), show 33 + k - 33 = k from by omega]
        exact h3
    · refine VRL.cons ?_ (VRL.cons ?_ VRL.nil)
      · show m0 = E.sym 64
        rw [sy 64 (by omega)]; rfl
      · show m1 = E.sym 65
        rw [sy 65 (by omega)]; rfl
  have hlist : runH (evs.map (·.1)) = true := by
    match evs, hl, hsh with
    | [], _, _ => exact run0
    | [p], _, hsh => exact List.all_eq_true.1 run1 p.1 (List.mem_range.2 (hsh p (by simp)))
    | [p, q], _, hsh => exact List.all_eq_true.1 (List.all_eq_true.1 run2 p.1 (List.mem_range.2 (hsh p (by simp)))) q.1 (List.mem_range.2 (hsh q (by simp)))
    | _ :: _ :: _ :: _, h, _ => exact absurd h (by simp)
  have hevK : ∀ E, StatOk w0 E → VRL E (cellsH 0 (evs.map (·.1))) ((evs.map (·.2)).flatten) := fun E hE => cells_ok fun k p hk => by rw [Nat.zero_add]; exact (key E hE).1 k p hk
  have h32 : 32 < 64 := by omega
  have hK : KitOk w0 (fun _ => 0) o (kitH (evs.map (·.1))) := by
    refine ⟨⟨(fun _ _ _ => rfl), (fun v => ?_), (fun f hf => by cases hf), (fun r hr => by cases hr), (fun p hp => by cases hp), ho, hg.pow _ _, hg.tabs⟩, (fun f args v hv => ?_), (fun f es he => ?_), (fun n cs hn => ?_), (fun p hp => by cases hp), (fun p hp => by cases hp), (fun p hp => by cases hp)⟩
    · show Iv.has ((T.get .e v).getD (0, 0)) 0
      rw [T.get_e]; exact ⟨Int.le_refl _, Int.le_refl _⟩
    · replace hv : primOf (tmk (memoH (evs.map fun x => x.1))) f args = some v := hv
      refine tmk_prim ?_ hv
      intro e hem p hp
      simp only [memoH, List.mem_cons, List.not_mem_nil, or_false] at hem
      rcases hem with rfl | rfl
      · rw [List.mem_singleton.1 hp]
        exact hm.contract (Mem.Le.refl _) (fun E hE => VRL.cons ⟨_, (key E hE).2, rfl⟩ VRL.nil) (fun E hE => rfl)
      · obtain ⟨k, sh, h1, rfl⟩ := memoE_mem hp
        rw [Nat.zero_add]
        rw [List.getElem?_map] at h1
        cases h2 : evs[k]? with
        | none => rw [h2] at h1; cases h1
        | some q =>
          rw [h2] at h1
          cases h1
          have hq := he k q h2
          refine hq.chk.contract (Mem.Le.refl _) (fun E hE => VRL.cons ⟨_, (key E hE).2, rfl⟩ (VRL.cons ⟨_, (key E hE).1 k q h2, rfl⟩ VRL.nil)) (fun E hE => rfl)
    · simp [kitH, T.get_e] at he
    · replace hn : (tmk (glH (evs.map fun x => x.1))).get n = some cs := hn
      have hmm := tmk_mem hn
      rcases List.mem_append.1 hmm with hmm | hmm
      · rcases hE with ⟨h0, _⟩ | ⟨_, _, rc, t, fr, rest, hz, h3, h4⟩
        · rw [h0] at hmm; cases hmm
        · have hmm : (n, cs) ∈ [(32, cellsH 0 (evs.map (·.1)))] := by
            cases he0 : evs.map (·.1) with
            | nil => rw [he0] at hmm; cases hmm
            | cons a b => rw [he0] at hmm; exact hmm
          cases List.mem_singleton.1 hmm
          have hst : w0.stat 32 = iE := rfl
          refine ⟨by omega, by omega, ?_, ?_, rc, t, fr, ?_, fun E hE => ⟨_, rest, hevK E hE, h4⟩⟩
          · rw [hst]; exact (Array.getElem?_eq_some_iff.1 h3).1
          · rw [hst]; exact hz
          · rw [hst]; exact h3
      · obtain ⟨k, sh, h1, h2, h3⟩ := unitsH_mem hmm
        cases h3
        rw [Nat.zero_add]
        rw [List.getElem?_map] at h1
        cases h4 : evs[k]? with
        | none => rw [h4] at h1; cases h1
        | some q =>
          rw [h4] at h1
          cases h1
          have hk2 : k < 2 := by have := (List.getElem?_eq_some_iff.1 h4).1; omega
          obtain ⟨b, c, rc, t, fr, rest, g1, g2, gz, g3, g4⟩ := (he k q h4).units h2
          obtain ⟨hb, _⟩ := (hinfo' k).2 q h4 b c g1 h2
          have hst : (w0.stat (33 + k)).blk = b := by
            show (if 33 + k = 32 then iE else (hinfo' (33 + k - 33)).1).blk = b
            rw [if_neg (by omega), show 33 + k - 33 = k from by omega]; exact hb
          refine ⟨by omega, by omega, ?_, ?_, rc, t, fr, ?_, fun E hE => ⟨_, rest, strs_ok _, g4⟩⟩
          · rw [hst]; exact (Array.getElem?_eq_some_iff.1 g3).1
          · rw [hst]; exact gz
          · rw [hst]; exact g3
  have hrun := Kit.run hK (chkH _) hlist
  have hE0 : StatOk w0 (baseE w0 hone) := base_stat
  refine hrun.callOk hE0 ?_ rfl
  refine VRL.cons ⟨[m0, m1] ++ [strB [98, 97, 115, 101], sv], (key _ hE0).2.append (VRL.cons rfl (VRL.cons ?_ VRL.nil)), rfl⟩ VRL.nil
  rcases hE with ⟨h0, rfl⟩ | ⟨h0, hsv, _⟩
  · subst h0; rfl
  · have e1 : evsH (evs.map (·.1)) = .slice 32 0 evs.length (2 * evs.length + 1) := by
      cases hev : evs with
      | nil => exact absurd hev h0
      | cons a b => simp [evsH]
    rw [e1]
    refine ⟨iE, ?_, hsv⟩
    have := hE0.stat 32 (by omega) (by omega)
    rw [this]
    rfl
end Go.Proofs.YtkgiaicagecmpaaGreatDoor
