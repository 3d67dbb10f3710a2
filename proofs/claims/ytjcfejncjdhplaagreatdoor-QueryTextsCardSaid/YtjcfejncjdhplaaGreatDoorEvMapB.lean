/-
  The abstract evaluator: maps are written and ranged over rightly.
-/
import Derived.Test.YtjcfejncjdhplaaGreatDoorEvQuietE
set_option linter.unusedSectionVars false
set_option linter.unusedVariables false
set_option linter.unusedSimpArgs false
namespace Ev
open Go
theorem forIn_quiet {α : Type} {P : Program} {w : World} {body : α → PUnit → Sem (ForInStep PUnit)} : ∀ (l : List α), (∀ x ∈ l, (body x ⟨⟩).run P w = .ok (.yield ⟨⟩) w) → (forIn l PUnit.unit body).run P w = .ok ⟨⟩ w
  | [], _ => by simp
  | x :: l, h => by
    rw [List.forIn_cons, Sem.run_bind, h x (List.mem_cons_self ..)]
    simp only [Result.andThen_ok]
    exact forIn_quiet l fun y hy => h y (List.mem_cons_of_mem _ hy)
section
variable {tb : Tab} {P : Program} (hT : TabOk tb P) {E : Env} {w : World}
include hT
omit hT in
theorem leaf_not [hS : SR tb P E] {k : V} {rk : Value} (h : tb.leafKey k = true) (vk : VR E k rk) : (∃ b, rk = .bool b) ∨ (∃ j n, rk = .int j n) ∨ (∃ s, rk = .string s) := by
  cases k <;> simp [Tab.leafKey] at h <;> simp [VR] at vk
  · exact .inl ⟨_, vk⟩
  · exact .inr (.inl ⟨_, _, vk⟩)
  · exact .inr (.inr ⟨_, vk⟩)
  · rw [vk]
    rcases hS.key _ h with ⟨k, n, e⟩ | ⟨s, e⟩
    · exact .inr (.inl ⟨k, n, e⟩)
    · exact .inr (.inr ⟨s, e⟩)
theorem check_plain {t : TypeId} {d : TypeDesc} (hd : tb.und t = some d) (hp : plainD d = true) {x : Value} (b : Bool) (n : Nat) : (Instr.checkKey b (n + 1) t x).run P w = .ok () w := by
  have hru := run_underlying (hT.und t d hd) w
  cases d <;> simp [plainD] at hp <;> simp [Instr.checkKey, hru]
omit hT in
theorem plain_agg {t : TypeId} {d : TypeDesc} (hd : tb.und t = some d) (hp : plainD d = true) : tb.isAgg t = some false := by
  unfold Tab.isAgg
  rw [hd]
  cases d <;> simp [plainD] at hp <;> rfl
theorem checkKey_ok {key : TypeId} {k : V} {rk : Value} (h : keyOk tb key k = true) (vk : VR E k rk) (b : Bool) : (Instr.checkKey b 10000 key rk).run P w = .ok () w := by
  rw [show (10000 : Nat) = 9998 + 1 + 1 from rfl]
  unfold keyOk at h
  split at h
  ·
    rename_i fs cs hu
    simp only [Bool.and_eq_true, List.all_eq_true] at h
    obtain ⟨xs, hx, rfl⟩ := vk
    have hru := run_underlying (hT.und _ _ hu) w
    rw [Instr.checkKey]
    simp only [Sem.run_bind, hru, Result.andThen_ok, ← Array.forIn_toList]
    rw [forIn_quiet _ fun f hf => ?_]
    · rfl
    have hpf := h.1 f hf
    unfold plainField at hpf
    split at hpf
    · rename_i d hd
      simp only [Bool.and_eq_true] at hpf
      obtain ⟨v, hv⟩ : ∃ v, part tb f.type cs f.offset = some v := by
        unfold part
        rw [plain_agg hd hpf.1]
        exact ⟨_, List.getElem?_eq_getElem (nblt_lt hpf.2)⟩
      obtain ⟨y, hy, _⟩ := part_ok hT hv hx w
      by_cases hn : f.name = "_"
      · simp [hn]
      · simp [hn, hy, check_plain hT hd hpf.1]
    · cases hpf
  ·
    rename_i n e cs hu
    split at h
    · rename_i d hd hs
      simp only [Bool.and_eq_true] at h
      obtain ⟨xs, hx, rfl⟩ := vk
      have hru := run_underlying (hT.und _ _ hu) w
      rw [Instr.checkKey]
      simp only [Sem.run_bind, hru, Result.andThen_ok, Std.Legacy.Range.forIn_eq_forIn_range', Std.Legacy.Range.size]
      rw [forIn_quiet _ fun i hi => ?_]
      · rfl
      have hi' : i < n := by
        simp [List.mem_range'] at hi
        omega
      have hlen := nble_le h.1.2
      obtain ⟨v, hv⟩ : ∃ v, part tb e cs (i * 1) = some v := by
        unfold part
        rw [plain_agg hd h.1.1]
        exact ⟨_, List.getElem?_eq_getElem (by omega)⟩
      obtain ⟨y, hy, _⟩ := part_ok hT hv hx w
      simp [size_run hT hs, hy, check_plain hT hd h.1.1]
      rw [Nat.mul_one] at hy
      simp [hy, check_plain hT hd h.1.1]
    · cases h
  · rename_i hu; exact check_plain hT hu rfl b _
  · rename_i hu; exact check_plain hT hu rfl b _
  · rename_i hu; exact check_plain hT hu rfl b _
  · cases h
omit hT in
def isKey (P : Program) (w : World) (key : TypeId) (rk : Value) (e : MapEntry) : Bool :=
  match (Op.equal key rk e.key).run P w with
  | .ok b _ => b
  | _ => false
def Told (P : Program) (w : World) (key : TypeId) (rk : Value) (e : MapEntry) : Prop := (Op.equal key rk e.key).run P w = .ok (isKey P w key rk e) w
theorem equal_ok [SR tb P E] {key : TypeId} {k a : V} {rk ra : Value} {b : Bool} (h : eqAt tb 50 key k a = some b) (vk : VR E k rk) (va : VR E a ra) : (Op.equal key rk ra).run P w = .ok b w := by
  have := eqAt_ok hT w 50 key k a b rk ra h vk va 9950
  exact this
theorem scan_ok [SR tb P E] {key : TypeId} {k : V} {rk : Value} (vk : VR E k rk) : ∀ {es : List (V × V)} {ms : List MapEntry} {vs : List V}, scanE tb key k es = some vs → EntR E es ms →
    (∀ m ∈ ms, Told P w key rk m) ∧ VRL E vs ((ms.filter (isKey P w key rk)).map (·.val))
  | [], ms, vs, h, he => by
    simp [scanE] at h
    subst h
    have he' : ms = [] := he
    subst he'
    exact ⟨fun m hm => (List.not_mem_nil hm).elim, rfl⟩
  | e :: es, ms, vs, h, he => by
    obtain ⟨m, rest, rfl, hk, hv, hr⟩ := he
    simp only [scanE] at h
    cases h1 : eqAt tb 50 key k e.1 with
    | none => simp [h1] at h
    | some b =>
      simp only [h1] at h
      cases h2 : scanE tb key k es with
      | none => simp [h2] at h
      | some r =>
        simp only [h2, Option.some.injEq] at h
        obtain ⟨ih1, ih2⟩ := scan_ok vk h2 hr
        have hq := equal_ok (w := w) hT h1 vk hk
        have hb : isKey P w key rk m = b := by simp [isKey, hq]
        refine ⟨fun m' hm' => ?_, ?_⟩
        · rcases List.mem_cons.1 hm' with rfl | hm'
          · unfold Told; rw [hb]; exact hq
          · exact ih1 m' hm'
        · rw [List.filter_cons, hb]
          cases b with
          | true => simp only [cond_true] at h; subst h; exact ⟨_, _, rfl, hv, ih2⟩
          | false => simp only [cond_false] at h; subst h; exact ih2
omit hT in
def findR (q : MapEntry → Bool) : List MapEntry → Nat → Option (Nat × Value)
  | [], _ => none
  | e :: es, i => cond (q e) (some (i, e.val)) (findR q es (i + 1))
omit hT in
theorem asking_ok {key : TypeId} {rk : Value} : ∀ (l : List MapEntry) (i : Nat), (∀ m ∈ l, Told P w key rk m) → (Instr.findAsking key rk l i).run P w = .ok (findR (isKey P w key rk) l i) w
  | [], i, _ => by simp [Instr.findAsking, findR]
  | e :: es, i, h => by
    have h1 := h e (List.mem_cons_self ..)
    unfold Told at h1
    simp only [Instr.findAsking, Sem.run_bind, h1, Result.andThen_ok, findR]
    cases isKey P w key rk e with
    | true => simp
    | false => simpa using asking_ok es (i + 1) fun m hm => h m (List.mem_cons_of_mem _ hm)
omit hT in
theorem same_ok {key : TypeId} {d : TypeDesc} (hd : P.underlying key = some d) {rk : Value} {e : MapEntry} {b : Bool} (h : Instr.sameNow d rk e.key = some b) : isKey P w key rk e = b := by
  unfold Instr.sameNow at h
  split at h
  · rename_i k a k' b' hk
    split at h
    · rename_i hkk
      subst hkk
      simp at h
      subst h
      unfold isKey Op.equal
      rw [hk, show Op.maxDepth = 9999 + 1 from rfl, run_equalIn_int w 9999 _ _ _ _ _ hd]
    · cases h
  · rename_i a b' hk
    simp only [Option.some.injEq] at h
    subst h
    unfold isKey Op.equal
    rw [hk, show Op.maxDepth = 9999 + 1 from rfl, run_equalIn_string w 9999 _ _ _ hd]
    simp [beq_toListBytes]
  · rename_i a b' hk
    simp only [Option.some.injEq] at h
    subst h
    unfold isKey Op.equal
    rw [hk, show Op.maxDepth = 9999 + 1 from rfl, run_equalIn_bool w 9999 _ _ _ hd]
  · cases h
omit hT in
theorem now_ok {key : TypeId} {d : TypeDesc} (hd : P.underlying key = some d) {rk : Value} : ∀ (l : List MapEntry) (i : Nat) {r : Option (Nat × Value)}, Instr.findNow d rk l i = some r → r = findR (isKey P w key rk) l i
  | [], i, r, h => by simp [Instr.findNow] at h; subst h; rfl
  | e :: es, i, r, h => by
    simp only [Instr.findNow] at h
    split at h
    · rename_i hs; simp at h; subst h; simp [findR, same_ok (w := w) hd hs]
    · rename_i hs; simp only [findR, same_ok (w := w) hd hs, cond_false]; exact now_ok hd es (i + 1) h
    · cases h
omit hT in
theorem findKey_ok {key : TypeId} {d : TypeDesc} (hd : P.underlying key = some d) {rk : Value} (l : List MapEntry) (h : ∀ m ∈ l, Told P w key rk m) : (Instr.findKey key rk l).run P w = .ok (findR (isKey P w key rk) l 0) w := by
  unfold Instr.findKey
  simp only [Sem.run_bind, run_underlying hd w, Result.andThen_ok]
  cases hn : Instr.findNow d rk l 0 with
  | some r => simp [now_ok (w := w) hd l 0 hn]
  | none => exact asking_ok l 0 h
omit hT in
theorem findR_none {q : MapEntry → Bool} : ∀ {l : List MapEntry} (i : Nat), l.filter q = [] → findR q l i = none
  | [], _, _ => rfl
  | e :: es, i, h => by
    rw [List.filter_cons] at h
    cases hq : q e with
    | true => simp [hq] at h
    | false => simp only [hq] at h; simp only [findR, hq, cond_false]; exact findR_none (i + 1) (by simpa using h)
omit hT in
theorem findR_one {q : MapEntry → Bool} {m : MapEntry} : ∀ {l : List MapEntry} (i : Nat), l.filter q = [m] → ∃ j, findR q l i = some (i + j, m.val) ∧ l[j]? = some m ∧ q m = true ∧ ∀ j' m', l[j']? = some m' → q m' = true → j' = j
  | [], _, h => by cases h
  | e :: es, i, h => by
    rw [List.filter_cons] at h
    cases hq : q e with
    | true =>
      simp only [hq, if_true, List.cons.injEq] at h
      obtain ⟨rfl, h⟩ := h
      refine ⟨0, by simp [findR, hq], rfl, hq, fun j' m' hj' hm' => ?_⟩
      cases j' with
      | zero => rfl
      | succ j' =>
        exfalso
        have : m' ∈ es.filter q := List.mem_filter.2 ⟨List.mem_of_getElem? hj', hm'⟩
        rw [h] at this; cases this
    | false =>
      simp only [hq] at h
      obtain ⟨j, h1, h2, h3, h4⟩ := findR_one (i + 1) (by simpa using h)
      refine ⟨j + 1, by simp only [findR, hq, cond_false, h1]; congr 2; omega, h2, h3, fun j' m' hj' hm' => ?_⟩
      cases j' with
      | zero => cases hj'; rw [hq] at hm'; cases hm'
      | succ j' => rw [h4 j' m' hj' hm']
omit hT in
theorem map_at {g : H} {n : Nat} {es : List (V × V)} {l : Option Nat} {i : Info} (h : g.get n = some (.map es l)) (hr : Rel E g.get w) (hi : E.at_ n = some i) :
    ∃ res clock, w.heap[i.blk]? = some (.map res clock) ∧ MapR E es res clock := by
  obtain ⟨i', hi', ho⟩ := hr.obj n _ h
  rw [hi] at hi'; cases hi'
  cases l with
  | none => exact ho
  | some r => obtain ⟨j, _, h1, h2⟩ := ho; exact ⟨_, _, h1, h2⟩
omit hT in
theorem EntR.length {E : Env} : ∀ {es : List (V × V)} {ms : List MapEntry}, EntR E es ms → ms.length = es.length
  | [], _, h => by rw [show _ = _ from h]; rfl
  | _ :: _, _, ⟨m, rest, e, _, _, hr⟩ => by rw [e]; simp [EntR.length hr]
omit hT in
theorem run_getObj_map {b : Nat} {res : Array MapEntry} {clock : Nat} (h : w.heap[b]? = some (.map res clock)) : (getObj b).run P w = .ok (.map res clock) w := by
  simp [getObj, Sem.run, h]
omit hT in
theorem lookup_run {ty key el : TypeId} {rm rk : Value} {ok : Bool} {res : Array MapEntry} {fr : Option (Nat × Value)} {y : Value} (hu : P.underlying ty = some (.map key el))
    (hrm : (rm = .map none ∧ res = #[]) ∨ ∃ b clock, rm = .map (some b) ∧ w.heap[b]? = some (.map res clock)) (hck : (Instr.checkKey res.isEmpty 10000 key rk).run P w = .ok () w)
    (hfk : (Instr.findKey key rk res.toList).run P w = .ok fr w)
    (hy : match fr with
      | some p => y = if ok then .tuple #[p.2, .bool true] else p.2
      | none => ∃ z, (zeroValue el).run P w = .ok z w ∧ y = if ok then .tuple #[z, .bool false] else z) : (Instr.lookup ty rm rk ok).run P w = .ok y w := by
  have hru := run_underlying hu w
  rcases hrm with ⟨rfl, rfl⟩ | ⟨b, clock, rfl, hw⟩
  · unfold Instr.lookup
    simp only [Sem.run_bind, hru, Result.andThen_ok, Sem.run_pure, hck, hfk]
    cases fr with
    | some p => subst hy; rfl
    | none =>
      obtain ⟨z, hz, rfl⟩ := hy
      simp only [Sem.run_bind, hz, Result.andThen_ok, Sem.run_pure]
  · unfold Instr.lookup
    simp only [Sem.run_bind, hru, Result.andThen_ok, Sem.run_pure, run_getObj_map hw, hck, hfk]
    cases fr with
    | some p => subst hy; rfl
    | none =>
      obtain ⟨z, hz, rfl⟩ := hy
      simp only [Sem.run_bind, hz, Result.andThen_ok, Sem.run_pure]
theorem lookup_ok [SR tb P E] {g : H} {ty : TypeId} {m k v : V} {rm rk : Value} {ok : Bool} (h : lookup tb g ty m k ok = some v) (vm : VR E m rm) (vk : VR E k rk) (hr : Rel E g.get w) :
    ∃ r, (Instr.lookup ty rm rk ok).run P w = .ok r w ∧ VR E v r := by
  unfold lookup at h
  split at h
  case h_2 => cases h
  rename_i key el hu
  cases hk : keyOk tb key k with
  | false => rw [hk] at h; cases h
  | true =>
    rw [hk, cond_true] at h
    obtain ⟨d, hd⟩ : ∃ d, P.underlying key = some d := by
      unfold keyOk at hk
      cases hd : tb.und key with
      | none => simp [hd] at hk
      | some d => exact ⟨d, hT.und _ _ hd⟩
    have hu' := hT.und _ _ hu
    have hes : ∀ es, (match m with | .nilm => some [] | .map n => (match g.get n with | some (.map es _) => some es | _ => none) | _ => none) = some es →
        ∃ res : Array MapEntry, ((rm = .map none ∧ res = #[]) ∨ ∃ b clock, rm = .map (some b) ∧ w.heap[b]? = some (.map res clock)) ∧ ∃ ms, EntR E es ms ∧ ms.Perm res.toList := by
      intro es he
      split at he
      · cases he
        exact ⟨#[], .inl ⟨vm, rfl⟩, [], rfl, List.Perm.nil⟩
      · rename_i n
        split at he
        · rename_i es' l hg
          cases he
          obtain ⟨i, hi, rfl⟩ := vm
          obtain ⟨res, clock, h1, h2⟩ := map_at hg hr hi
          exact ⟨res, .inr ⟨_, _, rfl, h1⟩, h2.1⟩
        · cases he
      · cases he
    split at h
    · cases h
    · rename_i es he
      obtain ⟨res, hrm, ms, hms, hp⟩ := hes es he
      have hck := checkKey_ok (w := w) hT hk vk res.isEmpty
      have fin : ∀ vs, scanE tb key k es = some vs → (Instr.findKey key rk res.toList).run P w = .ok (findR (isKey P w key rk) res.toList 0) w ∧ VRL E vs ((ms.filter (isKey P w key rk)).map (·.val)) := by
        intro vs hs
        obtain ⟨h1, h2⟩ := scan_ok (w := w) hT vk hs hms
        exact ⟨findKey_ok hd _ fun m hm => h1 m (hp.mem_iff.2 hm), h2⟩
      have hpf : (ms.filter (isKey P w key rk)).Perm (res.toList.filter (isKey P w key rk)) := hp.filter _
      split at h
      · rename_i v' hs
        obtain ⟨h1, y, ys, hy, hv, hn⟩ := fin _ hs
        rw [show ys = [] from hn] at hy
        obtain ⟨m0, hm0⟩ : ∃ m0, ms.filter (isKey P w key rk) = [m0] := by
          have : (ms.filter (isKey P w key rk)).length = 1 := by have := congrArg List.length hy; simpa using this
          exact List.length_eq_one_iff.1 this
        rw [hm0] at hy hpf
        have hf := List.singleton_perm.1 hpf
        simp only [List.map_cons, List.map_nil, List.cons.injEq, and_true] at hy
        obtain ⟨j, h3, _⟩ := findR_one 0 hf.symm
        rw [h3] at h1
        simp only [Option.some.injEq] at h
        subst h
        refine ⟨if ok then .tuple #[m0.val, .bool true] else m0.val, lookup_run hu' hrm hck h1 rfl, ?_⟩
        rw [hy]
        cases ok with
        | true => exact ⟨[y, .bool true], ⟨_, _, rfl, hv, _, _, rfl, rfl, rfl⟩, rfl⟩
        | false => exact hv
      · rename_i hs
        obtain ⟨h1, h2⟩ := fin _ hs
        have hf0 : ms.filter (isKey P w key rk) = [] := List.map_eq_nil_iff.1 h2
        rw [hf0] at hpf
        rw [findR_none 0 (List.nil_perm.1 hpf)] at h1
        cases hz : zeroOf tb el with
        | none => simp [hz] at h
        | some z =>
          simp only [hz, Option.map_some, Option.some.injEq] at h
          subst h
          obtain ⟨rz, hrz, vz⟩ := zero_ok (E := E) hT hz w
          refine ⟨if ok then .tuple #[rz, .bool false] else rz, lookup_run hu' hrm hck h1 ⟨rz, hrz, rfl⟩, ?_⟩
          cases ok with
          | true => exact ⟨[rz, .bool false], ⟨_, _, rfl, vz, _, _, rfl, rfl, rfl⟩, rfl⟩
          | false => exact vz
      · cases h
omit hT in
theorem find_born {l : List MapEntry} {e : MapEntry} (hp : l.Pairwise (fun a b => a.born ≠ b.born)) (he : e ∈ l) : l.find? (·.born == e.born) = some e := by
  induction l with
  | nil => cases he
  | cons x l ih =>
    rw [List.pairwise_cons] at hp
    rw [List.find?_cons]
    rcases List.mem_cons.1 he with rfl | he
    · simp
    · have : (x.born == e.born) = false := by simpa using hp.1 e he
      rw [this]
      exact ih hp.2 he
theorem entry_ok {g : H} {x v : V} {rx : Value} (h : entry g x = some v) (vx : VR E x rx) (hr : Rel E g.get w) : ∃ r, (Instr.entry rx).run P w = .ok r w ∧ VR E v r := by
  unfold entry at h
  split at h
  case h_2 => cases h
  rename_i r
  split at h
  case h_2 => cases h
  rename_i m left e hgr
  split at h
  case h_2 => cases h
  rename_i es k hgm
  cases hk : Nat.beq k r with
  | false => rw [hk] at h; cases h
  | true =>
    rw [hk, cond_true] at h
    obtain rfl := nbeq_true hk
    cases h
    obtain ⟨i, hi, rfl⟩ := vx
    obtain ⟨i', hi', j, seen, hj, hw, hit⟩ := hr.obj _ _ hgr
    rw [hi] at hi'; cases hi'
    obtain ⟨j', hj', i2, hi2, hwm, hmr⟩ := hr.obj _ _ hgm
    rw [hj] at hj'; cases hj'
    rw [hi] at hi2; cases hi2
    obtain ⟨_, hb, hpw, hlast⟩ := hit
    obtain ⟨e0, he0, hs0, hk0, hv0⟩ := hlast e rfl
    refine ⟨.tuple #[e0.key, e0.val], ?_, [e0.key, e0.val], ⟨_, _, rfl, hk0, _, _, rfl, hv0, rfl⟩, rfl⟩
    have hfind : i.snap.1.find? (·.born == e0.born) = some e0 := by
      rw [← Array.find?_toList]; exact find_born hpw he0
    unfold Instr.entry
    simp [getObj, Sem.run, hw, hs0, hwm, hfind]
theorem maplen_ok {g : H} {n : Nat} {es : List (V × V)} {l : Option Nat} {i : Info} (h : g.get n = some (.map es l)) (hr : Rel E g.get w) (hi : E.at_ n = some i) :
    ∃ res clock, w.heap[i.blk]? = some (.map res clock) ∧ res.size = es.length := by
  obtain ⟨res, clock, h1, ⟨ms, hms, hp⟩, _⟩ := map_at h hr hi
  refine ⟨res, clock, h1, ?_⟩
  have := hp.length_eq
  rw [hms.length] at this
  simpa using this.symm
end
end Ev
namespace Ev
open Go
section
variable {tb : Tab} {P : Program} (hT : TabOk tb P) {E : Env} {w : World}
include hT
theorem lenAt_ok [hS : SR tb P E] {g : H} {ty : TypeId} {x v : V} {rx : Value} (h : lenAt tb g ty x = some v) (vx : VR E x rx) (hr : Rel E g.get w) (rt : TypeId) (tys : Array TypeId) (h0 : tys[0]? = some ty) (rs : Array Value) (h1 : rs[0]? = some rx) :
    ∃ r, (Builtin.len_ tys rt rs).run P w = .ok r w ∧ VR E v r := by
  unfold lenAt at h
  split at h
  · rename_i s hd
    cases h
    rw [show rx = _ from vx] at h1
    exact ⟨_, by simp only [Builtin.len_, h0, h1, Sem.run_bind, run_underlying (hT.und _ _ hd), Result.andThen_ok, Sem.run_pure]; rfl, by simp [VR, goInt, ByteArray.size]⟩
  · rename_i n e hd
    cases h
    exact ⟨_, by simp only [Builtin.len_, h0, h1, Sem.run_bind, run_underlying (hT.und _ _ hd), Result.andThen_ok, Sem.run_pure]; rfl, rfl⟩
  · rename_i e n off len c hd
    cases h
    obtain ⟨i, _, rfl⟩ := vx
    exact ⟨_, by simp only [Builtin.len_, h0, h1, Sem.run_bind, run_underlying (hT.und _ _ hd), Result.andThen_ok, Sem.run_pure]; rfl, rfl⟩
  · rename_i e hd
    cases h
    rw [show rx = _ from vx] at h1
    exact ⟨_, by simp only [Builtin.len_, h0, h1, Sem.run_bind, run_underlying (hT.und _ _ hd), Result.andThen_ok, Sem.run_pure]; rfl, rfl⟩
  · rename_i e i hd
    cases hl : tb.lenS i with
    | none => simp [hl] at h
    | some n =>
      simp only [hl, Option.map_some, Option.some.injEq] at h
      subst h
      obtain ⟨b, c, e1⟩ := hS.len i n hl
      rw [show rx = _ from vx, e1] at h1
      exact ⟨_, by simp only [Builtin.len_, h0, h1, Sem.run_bind, run_underlying (hT.und _ _ hd), Result.andThen_ok, Sem.run_pure]; rfl, rfl⟩
  · rename_i a b hd
    cases h
    rw [show rx = _ from vx] at h1
    exact ⟨_, by simp only [Builtin.len_, h0, h1, Sem.run_bind, run_underlying (hT.und _ _ hd), Result.andThen_ok, Sem.run_pure]; rfl, rfl⟩
  · rename_i a b n hd
    split at h
    · rename_i es l hg
      cases h
      obtain ⟨i, hi, rfl⟩ := vx
      obtain ⟨res, clock, h2, h3⟩ := maplen_ok hT hg hr hi
      have hobj : (getObj i.blk).run P w = .ok (.map res clock) w := by simp [getObj, Sem.run, h2]
      exact ⟨_, by simp only [Builtin.len_, h0, h1, Sem.run_bind, run_underlying (hT.und _ _ hd), Result.andThen_ok, hobj, Sem.run_pure]; rfl, by simp [VR, goInt, h3]⟩
    · cases h
  · cases h
theorem capAt_ok {ty : TypeId} {x v : V} {rx : Value} (h : capAt tb ty x = some v) (vx : VR E x rx) (rt : TypeId) (tys : Array TypeId) (h0 : tys[0]? = some ty) (rs : Array Value) (h1 : rs[0]? = some rx) (w : World) :
    ∃ r, (Builtin.cap_ tys rt rs).run P w = .ok r w ∧ VR E v r := by
  unfold capAt at h
  split at h
  · rename_i n e hd
    cases h
    exact ⟨_, by simp only [Builtin.cap_, h0, h1, Sem.run_bind, run_underlying (hT.und _ _ hd), Result.andThen_ok, Sem.run_pure]; rfl, rfl⟩
  · rename_i e n off len c hd
    cases hb : Nat.beq (c % 2) 0 with
    | false => rw [hb] at h; cases h
    | true =>
      rw [hb] at h
      cases h
      obtain ⟨i, _, rfl⟩ := vx
      refine ⟨_, by simp only [Builtin.cap_, h0, h1, Sem.run_bind, run_underlying (hT.und _ _ hd), Result.andThen_ok, Sem.run_pure]; rfl, ?_⟩
      simp [VR, goInt, capOf, nbeq_true hb]
  · rename_i e hd
    cases h
    rw [show rx = _ from vx] at h1
    exact ⟨_, by simp only [Builtin.cap_, h0, h1, Sem.run_bind, run_underlying (hT.und _ _ hd), Result.andThen_ok, Sem.run_pure]; rfl, rfl⟩
  · cases h
omit hT in
theorem maxOf_ok {b : Bool} {vs : List V} {v : V} {xs : List Value} (h : maxOf b vs = some v) (hx : VRL E vs xs) (tys : Array TypeId) (rt : TypeId) (w : World) :
    ∃ r, ((if b then Builtin.max_ tys rt xs.toArray else Builtin.min_ tys rt xs.toArray).run P w = .ok r w) ∧ VR E v r := by
  unfold maxOf at h
  split at h
  · rename_i k a j c
    cases h
    obtain ⟨x, xs', rfl, hx1, y, ys', rfl, hy1, hz⟩ := hx
    rw [show ys' = [] from hz, show x = _ from hx1, show y = _ from hy1]
    cases b
    · exact ⟨_, rfl, rfl⟩
    · exact ⟨_, rfl, rfl⟩
  · cases h
omit hT in
theorem bytesOf_ok {f : Value → ByteArray → Sem (ForInStep ByteArray)} (hf : ∀ n s, f (.int .u8 n) s = pure (.yield (s.push (UInt8.ofNat n.toNat)))) :
    ∀ {vs : List V} {s : List UInt8} {xs : List Value}, bytesOf vs = some s → VRL E vs xs → ∀ (acc : ByteArray) (w : World),
      (forIn xs.toArray acc f).run P w = .ok ⟨acc.data ++ s.toArray⟩ w
  | [], s, xs, h, hx, acc, w => by
    simp [bytesOf] at h; subst h
    rw [show xs = [] from hx]
    simp
  | v :: vs, s, xs, h, hx, acc, w => by
    obtain ⟨x, xs', rfl, hx1, hx2⟩ := hx
    have hv : ∃ n, v = .int .u8 n := by
      cases v with
      | int k n => cases k <;> first | exact ⟨n, rfl⟩ | (simp [bytesOf] at h)
      | _ => simp [bytesOf] at h
    obtain ⟨n, rfl⟩ := hv
    simp only [bytesOf] at h
    cases h1 : bytesOf vs with
    | none => simp [h1] at h
    | some s' =>
      simp [h1] at h
      subst h
      have ih := bytesOf_ok hf h1 hx2 (acc.push (UInt8.ofNat n.toNat)) w
      rw [show x = _ from hx1]
      rw [← Array.forIn_toList] at ih ⊢
      simp only [List.forIn_cons, Sem.run_bind, hf, Sem.run_pure, Result.andThen_ok]
      simp only at ih
      rw [ih]
      congr 2
      apply Array.ext'
      simp [ByteArray.push]
theorem bytesAt_ok {g : H} {s d : TypeId} {n off len cap : Nat} {v : V} {i : Info} (h : bytesAt tb g s d n off len = some v) (hr : Rel E g.get w) (hi : E.at_ n = some i) :
    ∃ r, (Go.convert s d (.slice (some ⟨i.blk, off, none⟩) len cap)).run P w = .ok r w ∧ VR E v r := by
  unfold bytesAt at h
  split at h
  · rename_i el hs hd
    have hus := hT.und _ _ hs
    have hud := hT.und _ _ hd
    split at h
    · rename_i c e u fz he hg
      have hue := hT.und _ _ he
      cases hc : cut c off len with
      | none => simp [hc] at h
      | some r =>
        simp only [hc, Option.bind_some] at h
        cases hb : bytesOf r with
        | none => simp [hb] at h
        | some bs =>
          simp [hb] at h
          subst h
          obtain ⟨rfl, hl⟩ := cut_some hc
          obtain ⟨i', hi', hu, rc, fr, h1, h2, h3, xs, rest, hx, hrc⟩ := hr.obj n _ hg
          rw [hi] at hi'; cases hi'
          have hlen : ((xs.drop off).take len).length = len := by rw [((hx.drop off).take len).length, hl]
          have hld := run_loadCells_list (P := P) w ⟨i.blk, off, none⟩ ((xs.drop off).take len) (fun j y hj => by
            rw [add_off, cell_of h1]
            have hj' : j < len := by
              have := (List.getElem?_eq_some_iff.1 hj).1
              omega
            rw [List.getElem?_take, if_pos hj', List.getElem?_drop] at hj
            rw [← Array.getElem?_toList, hrc, List.getElem?_append_left (List.getElem?_eq_some_iff.1 hj).1]
            exact hj)
          rw [hlen] at hld
          refine ⟨.string ⟨bs.toArray⟩, ?_, rfl⟩
          simp only [Go.convert, Sem.run_bind, run_underlying hus, run_underlying hud, Result.andThen_ok, run_underlying hue, Conv.bytesToString, hld]
          rw [bytesOf_ok (P := P) (fun _ _ => rfl) hb ((hx.drop off).take len) ByteArray.empty w]
          simp
    · cases h
  · cases h
omit hT in
theorem evO_ok {t : T V} {a : Act} (ht : TR E t a.tmps) (hg : GlobOk E) {x : Option Operand} {v : Option V} (h : evO t x = some v) : OVR E v (x.map a.eval) := by
  cases x with
  | none => simp [evO] at h; subst h; trivial
  | some x =>
    simp only [evO] at h
    cases h1 : ev t x with
    | none => simp [h1] at h
    | some y => simp [h1] at h; subst h; exact ev_ok ht hg h1
omit hT in
theorem cutSym_ok [hS : SR tb P E] {ty : TypeId} {a v : V} {ra : Value} {lo hi mx : Option V} {rlo rhi rmx : Option Value} (h : cutSym tb ty a lo hi mx = some v) (va : VR E a ra) (hlo : OVR E lo rlo) (hhi : OVR E hi rhi) (hmx : OVR E mx rmx) (w : World) :
    ∃ r, (Instr.sliceAt ty ra rlo rhi rmx).run P w = .ok r w ∧ VR E v r := by
  unfold cutSym at h
  split at h
  · rename_i i j k
    cases rlo with
    | some _ => exact hlo.elim
    | none =>
      cases rmx with
      | some _ => exact hmx.elim
      | none =>
        cases rhi with
        | none => exact hhi.elim
        | some r =>
          cases hk : Nat.blt k 1000 with
          | false => rw [hk] at h; cases h
          | true =>
            rw [hk, cond_true] at h
            have hk := nblt_lt hk
            have := hS.cut ty i k v h j w
            rw [show cutLo j k = none from if_pos hk, show cutHi j k = some (.int j (Int.ofNat k)) from if_pos hk] at this
            rw [show ra = E.sym i from va, show r = _ from hhi]
            exact this
  · rename_i i j k
    cases rhi with
    | some _ => exact hhi.elim
    | none =>
      cases rmx with
      | some _ => exact hmx.elim
      | none =>
        cases rlo with
        | none => exact hlo.elim
        | some r =>
          have := hS.cut ty i (1000 + k) v h j w
          rw [show cutLo j (1000 + k) = some (.int j (Int.ofNat k)) from by unfold cutLo; rw [if_neg (by omega), Nat.add_sub_cancel_left], show cutHi j (1000 + k) = none from if_neg (by omega)] at this
          rw [show ra = E.sym i from va, show r = _ from hlo]
          exact this
  · cases h
omit hT in
theorem adrSym_ok [hS : SR tb P E] {ty : TypeId} {a b v : V} {ra rb : Value} (h : adrSym tb ty a b = some v) (va : VR E a ra) (vb : VR E b rb) (w : World) :
    ∃ r, (Instr.indexAt ty ra rb).run P w = .ok r w ∧ VR E v r := by
  unfold adrSym at h
  split at h
  · rename_i i j k
    rw [show ra = E.sym i from va, show rb = _ from vb]
    exact hS.adr ty i k v h j w
  · cases h
theorem quiet_ok [SR tb P E] {t : T V} {g : H} {v : V} {a : Act} (o : Oper) (h : quiet tb o.op o.type t g = some v) (ht : TR E t a.tmps) (hg : GlobOk E) (hG : GR tb E w) (hr : Rel E g.get w) :
    ∃ x, (execOp a.eval o).run P w = .ok (.value x) w ∧ VR E v x := by
  have hev := fun {x : Operand} {v : V} (h : ev t x = some v) => ev_ok ht hg h
  have lift : ∀ (s : Sem Value), execOp a.eval o = (do pure (.value (← s))) → (∃ r, s.run P w = .ok r w ∧ VR E v r) → ∃ x, (execOp a.eval o).run P w = .ok (.value x) w ∧ VR E v x := by
    rintro s he ⟨r, hr, hv⟩
    exact ⟨r, by rw [he]; simp [hr], hv⟩
  obtain ⟨dst, op, type, pos, after, guard⟩ := o
  simp only at h lift ⊢
  cases op with
  | move x => exact ⟨_, rfl, hev h⟩
  | assign x => exact ⟨_, rfl, hev h⟩
  | pick c x y =>
    simp only [quiet] at h
    split at h
    · rename_i hc
      refine ⟨_, ?_, hev h⟩
      have := hev hc
      simp only [execOp, asBool, show a.eval c = _ from this, Sem.run_bind, Sem.run_pure, Result.andThen_ok, if_true]
    · rename_i hc
      refine ⟨_, ?_, hev h⟩
      have := hev hc
      simp only [execOp, asBool, show a.eval c = _ from this, Sem.run_bind, Sem.run_pure, Result.andThen_ok, Bool.false_eq_true, if_false]
    · cases h
  | build ty ps =>
    simp only [quiet] at h
    cases h1 : evParts t ps.toList with
    | none => simp [h1] at h
    | some vs =>
      simp only [h1, Option.bind_some] at h
      refine lift _ rfl ?_
      have := build_ok hT h (evParts_ok ht hg h1) w
      have e : (List.map (fun p => (p.fst, a.eval p.snd)) ps.toList).toArray = ps.map fun (i, x) => (i, a.eval x) := by apply Array.ext'; simp
      rw [e] at this
      exact this
  | load ty x =>
    simp only [quiet] at h
    split at h
    · rename_i n off hx
      obtain ⟨i, hi, he⟩ := hev hx
      obtain ⟨r, h1, h2⟩ := loadG_ok hT h hr hG hi
      refine lift _ rfl ⟨r, ?_, h2⟩
      simp only [Instr.loadAt, he, Instr.sureAddr, Sem.run_bind, Sem.run_pure, Result.andThen_ok, h1]
    · rename_i i hx
      obtain ⟨ad, r, e, h1, h2⟩ := ldS_ok (P := P) hT h hG
      refine lift _ rfl ⟨r, ?_, h2⟩
      have he : a.eval x = .pointer (some ad) := by rw [show a.eval x = E.sym i from hev hx, e]
      simp only [Instr.loadAt, he, Instr.sureAddr, Sem.run_bind, Sem.run_pure, Result.andThen_ok, h1]
    · cases h
  | nilCheck x =>
    simp only [quiet] at h
    split at h
    · rename_i n off hx
      cases h
      have hv := hev hx
      obtain ⟨i, hi, he⟩ := hv
      exact ⟨_, by simp only [execOp, he]; rfl, i, hi, rfl⟩
    · rename_i f b c hx
      cases h
      obtain ⟨xs, ys, h1, h2, he⟩ := hev hx
      exact ⟨_, by simp only [execOp, he]; rfl, xs, ys, h1, h2, rfl⟩
    · rename_i l hx
      cases h
      obtain ⟨i, hi, he⟩ := hev hx
      exact ⟨_, by simp only [execOp, he]; rfl, i, hi, rfl⟩
    · rename_i b c hx
      cases h
      obtain ⟨y, hy, he⟩ := hev hx
      exact ⟨_, by simp only [execOp, he]; rfl, y, hy, rfl⟩
    · cases h
  | binOp op ty x y yt =>
    simp only [quiet] at h
    cases h1 : ev t x with
    | none => simp [h1] at h
    | some b =>
      simp only [h1] at h
      cases h2 : ev t y with
      | none => simp [h2] at h
      | some c =>
        simp only [h2] at h
        exact lift _ rfl (binOp_ok hT h (hev h1) (hev h2) w)
  | unOp op ty x =>
    simp only [quiet] at h
    cases h1 : ev t x with
    | none => simp [h1] at h
    | some b =>
      simp only [h1, Option.bind_some] at h
      exact lift _ rfl (unOp_ok h (hev h1) w)
  | convert s d x =>
    simp only [quiet] at h
    split at h
    · cases h
    · rename_i n off len c hx
      obtain ⟨i, hi, he⟩ := hev hx
      refine lift _ rfl ?_
      rw [he]
      exact bytesAt_ok hT h hr hi
    · rename_i b _ hx
      exact lift _ rfl (convert_ok hT h (hev hx) w)
  | makeInterface ty x =>
    simp only [quiet] at h
    split at h
    · cases h
    · cases h
    · rename_i d hni hd
      cases h1 : ev t x with
      | none => simp [h1] at h
      | some b =>
        simp [h1] at h
        subst h
        refine lift _ rfl ⟨_, ?_, _, hev h1, rfl⟩
        simp only [Instr.makeInterface, Sem.run_bind, run_underlying (hT.und _ _ hd), Result.andThen_ok]
        rfl
  | makeFunc fn xs ys =>
    cases fn <;> simp only [quiet] at h <;> try (cases h; done)
    rename_i f
    cases h1 : evL t xs.toList with
    | none => simp [h1] at h
    | some as =>
      simp only [h1] at h
      cases h2 : evL t ys.toList with
      | none => simp [h2] at h
      | some bs =>
        simp [h2] at h
        subst h
        have e : ∀ zs : Array Operand, (List.map a.eval zs.toList).toArray = zs.map a.eval := by intro zs; apply Array.ext'; simp
        exact ⟨_, rfl, _, _, evL_ok ht hg h1, evL_ok ht hg h2, by rw [e, e]⟩
  | slice ty x lo hi mx =>
    simp only [quiet] at h
    cases h1 : ev t x with
    | none => simp [h1] at h
    | some b =>
      simp only [h1] at h
      cases h2 : evO t lo with
      | none => simp [h2] at h
      | some l =>
        simp only [h2] at h
        cases h3 : evO t hi with
        | none => simp [h3] at h
        | some hh =>
          simp only [h3] at h
          cases h4 : evO t mx with
          | none => simp [h4] at h
          | some m =>
            simp only [h4] at h
            split at h
            · rename_i r hr1
              cases h
              exact lift _ rfl (slice_ok hT hr1 (hev h1) hr (evO_ok ht hg h2) (evO_ok ht hg h3) (evO_ok ht hg h4))
            · exact lift _ rfl (cutSym_ok h (hev h1) (evO_ok ht hg h2) (evO_ok ht hg h3) (evO_ok ht hg h4) w)
  | fieldAddr ty x f =>
    simp only [quiet] at h
    cases h1 : ev t x with
    | none => simp [h1] at h
    | some b =>
      simp only [h1, Option.bind_some] at h
      exact lift _ rfl (fieldAddr_ok hT h (hev h1) w)
  | field ty x f =>
    simp only [quiet] at h
    cases h1 : ev t x with
    | none => simp [h1] at h
    | some b =>
      simp only [h1, Option.bind_some] at h
      exact lift _ rfl (field_ok hT h (hev h1) w)
  | indexAddr ty x i =>
    simp only [quiet] at h
    cases h1 : ev t x with
    | none => simp [h1] at h
    | some b =>
      simp only [h1] at h
      cases h2 : ev t i with
      | none => simp [h2] at h
      | some c =>
        simp only [h2] at h
        split at h
        · rename_i r hr1
          cases h
          exact lift _ rfl (indexAddr_ok hT hr1 (hev h1) (hev h2) w)
        · exact lift _ rfl (adrSym_ok h (hev h1) (hev h2) w)
  | index ty x i =>
    simp only [quiet] at h
    cases h1 : ev t x with
    | none => simp [h1] at h
    | some b =>
      simp only [h1] at h
      cases h2 : ev t i with
      | none => simp [h2] at h
      | some c =>
        simp only [h2] at h
        exact lift _ rfl (index_ok hT h (hev h1) (hev h2) w)
  | extract x i =>
    simp only [quiet] at h
    split at h
    · rename_i vs hx
      obtain ⟨xs, hxs, he⟩ := hev hx
      obtain ⟨y, hy, hv⟩ := hxs.get h
      refine lift _ rfl ⟨y, ?_, hv⟩
      simp [Instr.extract, he, hy]
    · cases h
  | lookup ty x k ok =>
    simp only [quiet] at h
    cases h1 : ev t x with
    | none => simp [h1] at h
    | some b =>
      simp only [h1] at h
      cases h2 : ev t k with
      | none => simp [h2] at h
      | some c =>
        simp only [h2] at h
        exact lift _ rfl (lookup_ok hT h (hev h1) (hev h2) hr)
  | entry x =>
    simp only [quiet] at h
    cases h1 : ev t x with
    | none => simp [h1] at h
    | some b =>
      simp only [h1, Option.bind_some] at h
      exact lift _ rfl (entry_ok hT h (hev h1) hr)
  | call c =>
    obtain ⟨callee, args, argTypes⟩ := c
    cases callee with
    | value f => simp [quiet] at h
    | invoke r m => simp [quiet] at h
    | builtin b =>
      cases b <;> simp only [quiet] at h <;> try (cases h; done)
      case len =>
        split at h
        · rename_i ty x h0 h1
          cases h2 : ev t x with
          | none => simp [h2] at h
          | some y =>
            simp only [h2, Option.bind_some] at h
            obtain ⟨r, hr1, hv⟩ := lenAt_ok hT h (hev h2) hr type argTypes h0 (args.map a.eval) (by simp [h1])
            exact ⟨r, by simp [execOp, resolve, invoke, builtin, hr1], hv⟩
        · cases h
      case cap =>
        split at h
        · rename_i ty x h0 h1
          cases h2 : ev t x with
          | none => simp [h2] at h
          | some y =>
            simp only [h2, Option.bind_some] at h
            obtain ⟨r, hr1, hv⟩ := capAt_ok hT h (hev h2) type argTypes h0 (args.map a.eval) (by simp [h1]) w
            exact ⟨r, by simp [execOp, resolve, invoke, builtin, hr1], hv⟩
        · cases h
      case max =>
        cases h1 : evL t args.toList with
        | none => simp [h1] at h
        | some vs =>
          simp only [h1, Option.bind_some] at h
          obtain ⟨r, hr1, hv⟩ := maxOf_ok (P := P) h (evL_ok ht hg h1) argTypes type w
          simp only [if_true] at hr1
          have e : (List.map a.eval args.toList).toArray = args.map a.eval := by apply Array.ext'; simp
          rw [e] at hr1
          exact ⟨r, by simp [execOp, resolve, invoke, builtin, hr1], hv⟩
      case min =>
        cases h1 : evL t args.toList with
        | none => simp [h1] at h
        | some vs =>
          simp only [h1, Option.bind_some] at h
          obtain ⟨r, hr1, hv⟩ := maxOf_ok (P := P) h (evL_ok ht hg h1) argTypes type w
          simp only [Bool.false_eq_true, if_false] at hr1
          have e : (List.map a.eval args.toList).toArray = args.map a.eval := by apply Array.ext'; simp
          rw [e] at hr1
          exact ⟨r, by simp [execOp, resolve, invoke, builtin, hr1], hv⟩
  | _ => simp [quiet] at h
end
end Ev
namespace Ev
open Go
def upd (g : G) (n : Nat) (o : O) : G := fun m => if m = n then some o else g m
def rem (g : G) (n : Nat) : G := fun m => if m = n then none else g m
theorem get_set_upd (h : H) (n : Nat) (o : O) : (h.set n o).get = upd h.get n o := by funext m; rw [T.get_set]; rfl
theorem get_del_rem (h : H) (n : Nat) : (h.del n).get = rem h.get n := by funext m; rw [T.get_del]; rfl
theorem lt_of_fresh {E : Env} {nx n : Nat} {i : Info} (hf : Fresh E nx) (h : E.at_ n = some i) : n < nx := by
  rcases Nat.lt_or_ge n nx with h' | h'
  · exact h'
  · rw [hf n h'] at h; cases h
theorem Rel.alloc {E : Env} {g : G} {w w' : World} {ν : Nat} {i : Info} {o : O} {ob : Obj} (hr : Rel E g w) (hν : E.at_ ν = none) (hi : i.blk = w.heap.size) (hw : w'.heap = w.heap.push ob)
    (ho : ObjR (E.add ν i) w' i o) : Rel (E.add ν i) (upd g ν o) w' := by
  have hold : ∀ b, b < w.heap.size → w'.heap[b]? = w.heap[b]? := fun b hb => by rw [hw, Array.getElem?_push, if_neg (Nat.ne_of_lt hb)]
  have hne : ∀ n p, g n = some p → n ≠ ν := by
    rintro n p hn rfl
    obtain ⟨j, hj, _⟩ := hr.obj _ _ hn
    rw [hν] at hj; cases hj
  have hle := Env.le_add (i := i) hν
  refine ⟨fun n p hn => ?_, fun n m p q j k hn hm hj hk hb => ?_⟩
  · by_cases h : n = ν
    · subst h
      simp only [upd, if_true, Option.some.injEq] at hn
      subst hn
      exact ⟨i, E.add_at n i, ho⟩
    · simp only [upd, if_neg h] at hn
      obtain ⟨j, hj, hoj⟩ := hr.obj n p hn
      exact ⟨j, hle.2 n j hj, hoj.mono hle (hold _ hoj.lt)⟩
  · by_cases h : n = ν <;> by_cases h' : m = ν
    · rw [h, h']
    · exfalso
      subst h
      rw [E.add_at] at hj; cases hj
      simp only [upd, if_neg h'] at hm
      obtain ⟨k', hk', hok⟩ := hr.obj m q hm
      rw [E.add_other n m i h'] at hk
      rw [hk'] at hk; cases hk
      have := hok.lt
      omega
    · exfalso
      subst h'
      rw [E.add_at] at hk; cases hk
      simp only [upd, if_neg h] at hn
      obtain ⟨j', hj', hoj⟩ := hr.obj n p hn
      rw [E.add_other m n i h] at hj
      rw [hj'] at hj; cases hj
      have := hoj.lt
      omega
    · simp only [upd, if_neg h] at hn
      simp only [upd, if_neg h'] at hm
      rw [E.add_other _ _ _ h] at hj
      rw [E.add_other _ _ _ h'] at hk
      exact hr.inj n m p q j k hn hm hj hk hb
theorem Step.alloc {E : Env} {g : G} {nx : Nat} {w w' : World} {i : Info} {o : O} {ob : Obj} (hr : Rel E g w) (hf : Fresh E nx) (hi : i.blk = w.heap.size) (hw : w'.heap = w.heap.push ob)
    (hgr : w'.tape = w.tape ∧ w'.os = w.os ∧ w'.output = w.output) (ho : ObjR (E.add nx i) w' i o) : Step E g nx w (E.add nx i) (upd g nx o) (nx + 1) w' := by
  have hν := hf nx (Nat.le_refl _)
  refine ⟨Env.le_add hν, fun n hn => E.add_other nx n i (Nat.ne_of_lt hn), Nat.le_succ _, fun n hn => ?_, hr.alloc hν hi hw ho, ⟨hgr.1, hgr.2.1, hgr.2.2, by simp [hw]⟩, ?_, ?_⟩
  · rw [E.add_other nx n i (by omega)]; exact hf n (by omega)
  · intro b hb _; rw [hw, Array.getElem?_push, if_neg (Nat.ne_of_lt hb)]
  · rintro b hb ⟨n, p, j, hn, hj, rfl⟩
    by_cases h : n = nx
    · subst h
      rw [E.add_at] at hj; cases hj
      omega
    · simp only [upd, if_neg h] at hn
      rw [E.add_other nx n i h] at hj
      exact ⟨n, p, j, hn, hj, rfl⟩
theorem Step.write {E : Env} {g : G} {nx n : Nat} {w w' : World} {i : Info} {o o0 : O} (hr : Rel E g w) (hf : Fresh E nx) (hn : g n = some o0) (hi : E.at_ n = some i)
    (hgr : Grew w w') (hw : ∀ b, b ≠ i.blk → w'.heap[b]? = w.heap[b]?) (ho : ObjR E w' i o) : Step E g nx w E (upd g n o) nx w' := by
  refine ⟨Env.Le.refl E, fun _ _ => rfl, Nat.le_refl _, hf, ⟨fun m p hm => ?_, fun m k p q a b hm hk ha hb he => ?_⟩, hgr, fun b hb hnf => ?_, ?_⟩
  · by_cases h : m = n
    · subst h
      simp only [upd, if_true, Option.some.injEq] at hm
      subst hm
      exact ⟨i, hi, ho⟩
    · simp only [upd, if_neg h] at hm
      obtain ⟨j, hj, hoj⟩ := hr.obj m p hm
      refine ⟨j, hj, hoj.mono (Env.Le.refl E) (hw _ fun e => h ?_)⟩
      exact hr.inj m n p o0 j i hm hn hj hi e
  · have key : ∀ m p, upd g n o m = some p → ∃ p', g m = some p' := by
      intro m p hm
      by_cases h : m = n
      · subst h; exact ⟨o0, hn⟩
      · simp only [upd, if_neg h] at hm; exact ⟨p, hm⟩
    obtain ⟨p', hp'⟩ := key m p hm
    obtain ⟨q', hq'⟩ := key k q hk
    exact hr.inj m k p' q' a b hp' hq' ha hb he
  · exact hw b fun e => hnf ⟨n, o0, i, hn, hi, e.symm⟩
  · rintro b hb ⟨m, p, j, hm, hj, rfl⟩
    by_cases h : m = n
    · subst h
      exact ⟨m, o0, j, hn, hj, rfl⟩
    · simp only [upd, if_neg h] at hm
      exact ⟨m, p, j, hm, hj, rfl⟩
theorem Step.consume {E : Env} {g : G} {nx n : Nat} {w w' : World} {i j : Info} {o o0 : O} (hr : Rel E g w) (hf : Fresh E nx) (hn : g n = some o0) (hi : E.at_ n = some i) (hj : j.blk = i.blk)
    (hgr : Grew w w') (hw : ∀ b, b ≠ i.blk → w'.heap[b]? = w.heap[b]?) (ho : ObjR (E.add nx j) w' j o) : Step E g nx w (E.add nx j) (upd (rem g n) nx o) (nx + 1) w' := by
  have hν := hf nx (Nat.le_refl _)
  have hle := Env.le_add (i := j) hν
  have hlt := lt_of_fresh hf hi
  have key : ∀ m p, m ≠ nx → upd (rem g n) nx o m = some p → g m = some p ∧ m ≠ n := by
    intro m p hm h
    simp only [upd, if_neg hm, rem] at h
    by_cases h' : m = n
    · simp [h'] at h
    · simp only [if_neg h'] at h; exact ⟨h, h'⟩
  refine ⟨hle, fun m hm => E.add_other nx m j (Nat.ne_of_lt hm), Nat.le_succ _, fun m hm => ?_, ⟨fun m p hm => ?_, fun m k p q a b hm hk ha hb he => ?_⟩, hgr, fun b hb hnf => ?_, ?_⟩
  · rw [E.add_other nx m j (by omega)]; exact hf m (by omega)
  · by_cases h : m = nx
    · subst h
      simp only [upd, if_true, Option.some.injEq] at hm
      subst hm
      exact ⟨j, E.add_at m j, ho⟩
    · obtain ⟨h1, h2⟩ := key m p h hm
      obtain ⟨k, hk, hok⟩ := hr.obj m p h1
      refine ⟨k, hle.2 m k hk, hok.mono hle (hw _ fun e => h2 ?_)⟩
      exact hr.inj m n p o0 k i h1 hn hk hi e
  · by_cases h : m = nx <;> by_cases h' : k = nx
    · rw [h, h']
    · exfalso
      subst h
      rw [E.add_at] at ha; cases ha
      obtain ⟨h1, h2⟩ := key k q h' hk
      rw [E.add_other m k j h'] at hb
      exact h2 (hr.inj k n q o0 b i h1 hn hb hi (he.symm.trans hj))
    · exfalso
      subst h'
      rw [E.add_at] at hb; cases hb
      obtain ⟨h1, h2⟩ := key m p h hm
      rw [E.add_other k m j h] at ha
      exact h2 (hr.inj m n p o0 a i h1 hn ha hi (he.trans hj))
    · obtain ⟨h1, _⟩ := key m p h hm
      obtain ⟨h3, _⟩ := key k q h' hk
      rw [E.add_other _ _ _ h] at ha
      rw [E.add_other _ _ _ h'] at hb
      exact hr.inj m k p q a b h1 h3 ha hb he
  · exact hw b fun e => hnf ⟨n, o0, i, hn, hi, e.symm⟩
  · rintro b hb ⟨m, p, k, hm, hk, rfl⟩
    by_cases h : m = nx
    · subst h
      rw [E.add_at] at hk; cases hk
      exact ⟨n, o0, i, hn, hi, hj.symm⟩
    · obtain ⟨h1, _⟩ := key m p h hm
      rw [E.add_other _ _ _ h] at hk
      exact ⟨m, p, k, h1, hk, rfl⟩
theorem Step.same {E : Env} {g g' : G} {nx : Nat} {w w' : World} (hr : Rel E g w) (hf : Fresh E nx) (hs : ∀ n o, g' n = some o → g n = some o) (hh : w'.heap = w.heap)
    (hgr : w'.tape = w.tape ∧ w'.os = w.os ∧ w'.output = w.output) : Step E g nx w E g' nx w' := by
  refine ⟨Env.Le.refl E, fun _ _ => rfl, Nat.le_refl _, hf, ⟨fun n o hn => ?_, fun n m o p i j hn hm => (hr.inj n m o p i j (hs n o hn) (hs m p hm))⟩, ⟨hgr.1, hgr.2.1, hgr.2.2, by rw [hh]; exact Nat.le_refl _⟩, fun b _ _ => by rw [hh], ?_⟩
  · obtain ⟨i, hi, ho⟩ := hr.obj n o (hs n o hn)
    exact ⟨i, hi, ho.mono (Env.Le.refl E) (by rw [hh])⟩
  · rintro b hb ⟨n, o, i, hn, hi, he⟩
    exact ⟨n, o, i, hs n o hn, hi, he⟩
theorem rep_ok {E : Env} {z : List V} {xs : List Value} (h : VRL E z xs) : ∀ n, VRL E (rep z n) (List.flatten (List.replicate n xs))
  | 0 => rfl
  | n + 1 => by simp only [rep, List.replicate_succ, List.flatten_cons]; exact h.append (rep_ok h n)
theorem flatten_get (xs : List Value) : ∀ (n i : Nat), i < n * xs.length → (List.flatten (List.replicate n xs))[i]? = xs[i % xs.length]?
  | 0, i, h => by simp at h
  | n + 1, i, h => by
    simp only [List.replicate_succ, List.flatten_cons]
    by_cases hi : i < xs.length
    · rw [List.getElem?_append_left hi, Nat.mod_eq_of_lt hi]
    · have hge : xs.length ≤ i := by omega
      rw [List.getElem?_append_right hge, flatten_get xs n (i - xs.length) (by rw [Nat.add_mul, Nat.one_mul] at h; omega)]
      congr 1
      rw [← Nat.mod_eq_sub_mod hge]
theorem zeros_eq (xs : List Value) (n k : Nat) (hk : k = n * xs.length) : (Array.range k).map (xs.toArray[· % xs.toArray.size]!) = (List.flatten (List.replicate n xs)).toArray := by
  subst hk
  apply Array.ext'
  apply List.ext_getElem?
  intro i
  by_cases hi : i < n * xs.length
  · have hx : 0 < xs.length := by
      rcases Nat.eq_zero_or_pos xs.length with h | h
      · rw [h] at hi; simp at hi
      · exact h
    have hm := Nat.mod_lt i hx
    rw [show (List.flatten (List.replicate n xs)).toArray.toList = List.flatten (List.replicate n xs) from rfl, flatten_get xs n i hi]
    simp [hi, hm]
  · have h1 : (List.flatten (List.replicate n xs)).length = n * xs.length := by simp
    rw [List.getElem?_eq_none (by simp; omega), List.getElem?_eq_none (by simp; omega)]
end Ev
namespace Ev
open Go
def Makes (E : Env) (ν : Nat) (w : World) (ob : O) (v : V) (x : Value) (w' : World) : Prop :=
  ∃ (i : Info) (rob : Obj), w'.heap = w.heap.push rob ∧ (w'.tape = w.tape ∧ w'.os = w.os ∧ w'.output = w.output) ∧ i.blk = w.heap.size ∧ ObjR (E.add ν i) w' i ob ∧ VR (E.add ν i) v x
theorem makes_row {E : Env} {ν : Nat} {w : World} {c : List V} {xs : List Value} {el : TypeId} (hν : E.at_ ν = none) (hx : VRL E c xs) :
    ∃ i : Info, i.blk = w.heap.size ∧ i.unit = 0 ∧ ObjR (E.add ν i) (w.alloc (.cells xs.toArray el)) i (.cells c el 0 false) := by
  refine ⟨⟨w.heap.size, xs.length, 0, (#[], 0)⟩, rfl, rfl, rfl, xs.toArray, (0, 0), ?_, by simp, fun _ => rfl, xs, [], VRL.mono (Env.le_add hν) c xs hx, by simp⟩
  exact heap_alloc_new w _
theorem freeze_push (hp : Array Obj) (arr : Array Value) (el cap : Nat) :
    ((hp.push (.cells arr el)).modify hp.size fun
      | .cells c elem (lo, hi) => .cells c elem (if lo == hi then (cap, cap + 1) else (min lo cap, max hi (cap + 1)))
      | o => o) = hp.push (.cells arr el (cap, cap + 1)) := by
  apply Array.ext
  · simp
  · intro j h1 h2
    simp only [Array.getElem_modify, Array.getElem_push]
    by_cases hj : j < hp.size
    · have : ¬ hp.size = j := by omega
      simp [hj, this]
    · have hj' : j = hp.size := by simp at h2; omega
      subst hj'
      simp
theorem wrap_small {n : Nat} (h : n < 9223372036854775808) : IntKind.i64.wrap (Int.ofNat n) = Int.ofNat n := by
  have hm : (Int.ofNat n) % (2 ^ IntKind.i64.bits : Int) = Int.ofNat n := by
    show (n : Int) % 18446744073709551616 = (n : Int)
    omega
  unfold IntKind.wrap
  simp only [hm]
  have hlt : ¬ ((IntKind.i64.signed && decide (Int.ofNat n ≥ (2 ^ (IntKind.i64.bits - 1) : Int))) = true) := by
    have : ¬ ((n : Int) ≥ 9223372036854775808) := by omega
    simp only [Bool.and_eq_true, decide_eq_true_eq, not_and]
    intro _
    exact this
  rw [if_neg hlt]
section
variable {tb : Tab} {P : Program} (hT : TabOk tb P) {E : Env} {w : World}
include hT
theorem makes_ok {t : T V} {ob : O} {mk : Nat → V} {a : Act} {ν : Nat} (o : Oper) (h : makes tb o.op t = some (ob, mk)) (ht : TR E t a.tmps) (hg : GlobOk E) (hν : E.at_ ν = none) :
    ∃ x w', (execOp a.eval o).run P w = .ok (.value x) w' ∧ Makes E ν w ob (mk ν) x w' := by
  have hev := fun {x : Operand} {v : V} (h : ev t x = some v) => ev_ok ht hg h
  obtain ⟨dst, op, type, pos, after, guard⟩ := o
  simp only at h ⊢
  cases op with
  | alloc el =>
    simp only [makes] at h
    cases h1 : zerosOf tb el with
    | none => simp [h1] at h
    | some z =>
      simp [h1] at h
      obtain ⟨rfl, rfl⟩ := h
      obtain ⟨rz, xs, hrz, hc, hx, _, _⟩ := zeros_ok (E := E) hT h1 w
      obtain ⟨i, hi, hu, ho⟩ := makes_row (w := w) (el := el) hν hx
      refine ⟨.pointer (some ⟨w.heap.size, 0, none⟩), w.alloc (.cells xs.toArray el), ?_, i, _, rfl, ⟨rfl, rfl, rfl⟩, hi, ho, i, E.add_at ν i, by rw [hi]⟩
      simp [execOp, Instr.alloc, hrz, newVar, newRow, hc]
  | box el x =>
    simp only [makes] at h
    cases h1 : ev t x with
    | none => simp [h1] at h
    | some v =>
      simp only [h1] at h
      cases h2 : cellsOf v with
      | none => simp [h2] at h
      | some z =>
        simp [h2] at h
        obtain ⟨rfl, rfl⟩ := h
        obtain ⟨xs, hc, hx, _, _⟩ := cells_ok h2 (hev h1)
        obtain ⟨i, hi, hu, ho⟩ := makes_row (w := w) (el := el) hν hx
        refine ⟨.pointer (some ⟨w.heap.size, 0, none⟩), w.alloc (.cells xs.toArray el), ?_, i, _, rfl, ⟨rfl, rfl, rfl⟩, hi, ho, i, E.add_at ν i, by rw [hi]⟩
        simp [execOp, Instr.box, newVar, newRow, hc]
  | buildSlice ty len ps =>
    simp only [makes] at h
    split at h
    · rename_i el hd
      have hu := hT.und _ _ hd
      cases hs : tb.size el with
      | none => simp [hs] at h
      | some sz =>
        simp only [hs] at h
        cases h1 : zerosOf tb el with
        | none => simp [h1] at h
        | some z =>
          simp only [h1] at h
          cases h2 : evParts t ps.toList with
          | none => simp [h2] at h
          | some vs =>
            simp only [h2] at h
            cases hb : (Nat.beq z.length sz && Nat.ble (len * sz) 10000) with
            | false => rw [hb] at h; cases h
            | true =>
              rw [hb, cond_true] at h
              rw [Bool.and_eq_true] at hb
              have hzl := nbeq_true hb.1
              have hle := nble_le hb.2
              cases h3 : fill (fun i => some (i * sz, sz)) (rep z len) vs with
              | none => simp [h3] at h
              | some c =>
                simp [h3] at h
                obtain ⟨rfl, rfl⟩ := h
                obtain ⟨rz, xs, hrz, hc, hx, _, _⟩ := zeros_ok (E := E) hT h1 w
                have hxl : xs.length = sz := by rw [hx.length, hzl]
                have hrep := rep_ok hx len
                obtain ⟨ys, hys, hyv⟩ := fill_ok h3 hrep (evParts_ok ht hg h2)
                have e : (List.map (fun p => (p.fst, a.eval p.snd)) ps.toList) = (ps.map fun (i, x) => (i, a.eval x)).toList := by simp
                rw [e] at hys
                obtain ⟨i, hi, hu', ho⟩ := makes_row (w := w) (el := el) hν hyv
                refine ⟨.slice (some ⟨w.heap.size, 0, none⟩) len len, w.alloc (.cells ys.toArray el), ?_, i, _, rfl, ⟨rfl, rfl, rfl⟩, hi, ho, i, E.add_at ν i, by rw [hi, capOf_even]⟩
                have hbig : ¬ (len * sz > 2 ^ 24) := by
                  have : (2 : Nat) ^ 24 = 16777216 := by decide
                  omega
                by_cases h0 : len * sz = 0
                · have hnil : List.flatten (List.replicate len xs) = [] := List.eq_nil_of_length_eq_zero (by simp [hxl, h0])
                  have hcells : (Array.range 0).map ((#[] : Array Value)[· % (#[] : Array Value).size]!) = (List.flatten (List.replicate len xs)).toArray := by rw [hnil]; simp
                  simp only [execOp, Instr.buildSlice, Sem.run_bind, run_underlying hu, Result.andThen_ok, size_run hT hs, if_neg hbig, if_pos h0, Sem.run_pure]
                  rw [h0, hcells, hys]
                  simp [newRow]
                · have hcells := zeros_eq xs len (len * sz) (by rw [hxl])
                  simp only [execOp, Instr.buildSlice, Sem.run_bind, run_underlying hu, Result.andThen_ok, size_run hT hs, if_neg hbig, if_neg h0, hrz, hc, Sem.run_pure]
                  rw [hcells, hys]
                  simp [newRow]
    · cases h
  | makeSlice ty l c =>
    simp only [makes] at h
    split at h
    · rename_i el k1 l' k2 c' hd hl hc
      have hu := hT.und _ _ hd
      have hel := hev hl
      have hec := hev hc
      cases hi : tb.inf el with
      | none => simp [hi] at h
      | some inf =>
        simp only [hi] at h
        have hpi := hT.inf _ _ hi
        cases h1 : zerosOf tb el with
        | none => simp [h1] at h
        | some z =>
          simp only [h1] at h
          cases hb : (Nat.beq z.length inf.size && Nat.ble l' c' && Nat.ble c' 10000 && Nat.ble inf.bytes 1000000) with
          | false => rw [hb] at h; cases h
          | true =>
            rw [hb, cond_true] at h
            cases h
            simp only [Bool.and_eq_true] at hb
            obtain ⟨⟨⟨hb1, hb2⟩, hb3⟩, hb4⟩ := hb
            have hzl := nbeq_true hb1
            have hlc := nble_le hb2
            have hc1 := nble_le hb3
            have hby := nble_le hb4
            obtain ⟨rz, xs, hrz, hcs, hx, _, _⟩ := zeros_ok (E := E) hT h1 w
            have hxl : xs.length = inf.size := by rw [hx.length, hzl]
            obtain ⟨i, hib, hu', ho⟩ := makes_row (w := w) (el := el) hν (rep_ok hx c')
            refine ⟨.slice (some ⟨w.heap.size, 0, none⟩) l' c', w.alloc (.cells (List.flatten (List.replicate c' xs)).toArray el), ?_, i, _, rfl, ⟨rfl, rfl, rfl⟩, hib, ho, i, E.add_at ν i, by rw [hib, capOf_even]⟩
            have hwl : IntKind.i64.wrap (l' : Int) = (l' : Int) := wrap_small (by omega)
            have hwc : IntKind.i64.wrap (c' : Int) = (c' : Int) := wrap_small (by omega)
            have hsmall : inf.bytes * c' ≤ 10000000000 := Nat.le_trans (Nat.mul_le_mul hby hc1) (by decide)
            have hc0 : ¬ ((c' : Int) < 0) := by omega
            have hcb : ¬ ((inf.bytes : Int) * (c' : Int) > 2 ^ 48) := by
              have : ((inf.bytes : Int) * (c' : Int)) = ((inf.bytes * c' : Nat) : Int) := by simp
              rw [this]
              have h48 : (2 : Int) ^ 48 = 281474976710656 := by decide
              omega
            have hlneg : ¬ ((l' : Int) < 0) := by omega
            have hlgt : ¬ ((l' : Int) > (c' : Int)) := by omega
            have hsz : (Go.sizeOf el).run P w = .ok inf.size w := by simp [Go.sizeOf, typeInfo, hpi]
            by_cases h0 : c' * inf.size = 0
            · have hnil : List.flatten (List.replicate c' xs) = [] := List.eq_nil_of_length_eq_zero (by simp [hxl, h0])
              have hcells : (Array.range 0).map ((#[] : Array Value)[· % (#[] : Array Value).size]!) = (List.flatten (List.replicate c' xs)).toArray := by rw [hnil]; simp
              simp only [execOp, Instr.makeSlice, Sem.run_bind, run_underlying hu, Result.andThen_ok, asInt, asIntOf, show a.eval l = _ from hel, show a.eval c = _ from hec, Sem.run_pure, typeInfo, run_program, hpi, hwl, hwc, hc0, hcb, hlneg, hlgt,
                decide_false, Bool.or_false, Bool.false_eq_true, if_false, run_askRoom, hsz, Int.ofNat_eq_natCast, Int.toNat_natCast, if_pos h0]
              rw [h0, hcells]
              simp [newRow]
            · have hcells := zeros_eq xs c' (c' * inf.size) (by rw [hxl])
              simp only [execOp, Instr.makeSlice, Sem.run_bind, run_underlying hu, Result.andThen_ok, asInt, asIntOf, show a.eval l = _ from hel, show a.eval c = _ from hec, Sem.run_pure, typeInfo, run_program, hpi, hwl, hwc, hc0, hcb, hlneg, hlgt,
                decide_false, Bool.or_false, Bool.false_eq_true, if_false, run_askRoom, hsz, Int.ofNat_eq_natCast, Int.toNat_natCast, if_neg h0, hrz, hcs]
              rw [hcells]
              simp [newRow]
    · cases h
  | convert s d x =>
    simp only [makes] at h
    split at h
    · rename_i sd el bs hs hd hx
      have hus := hT.und _ _ hs
      have hud := hT.und _ _ hd
      have hex := hev hx
      split at h
      · rename_i he
        have hue := hT.und _ _ he
        cases h
        have hsz : (⟨bs.toArray⟩ : ByteArray).size = bs.length := by simp [ByteArray.size]
        obtain ⟨cap, hcap⟩ : ∃ cap, cap = Question.cut (.appendCap bs.length 0 el) (w.tape w.drawn (.appendCap bs.length 0 el)) := ⟨_, rfl⟩
        have hge : bs.length ≤ cap := by rw [hcap]; simp [Question.cut]
        let arr : Array Value := (bs.map fun b => Value.int .u8 b.toNat).toArray ++ Array.replicate (cap - bs.length) (.int .u8 0)
        have harr : arr.size = cap := by simp [arr]; omega
        have hrun : (execOp a.eval ⟨dst, .convert s d x, type, pos, after, guard⟩).run P w = .ok (.value (.slice (some ⟨w.heap.size, 0, none⟩) bs.length cap)) ((w.drew.alloc (.cells arr el)).freeze ⟨w.heap.size, cap, none⟩ 1) := by
          have hconv : (Go.convert s d (.string ⟨bs.toArray⟩)).run P w = (Conv.stringToBytes el ⟨bs.toArray⟩).run P w := by
            simp only [Go.convert, Sem.run_bind, run_underlying hus, run_underlying hud, Result.andThen_ok, run_underlying hue]
          have hst : (Conv.stringToBytes el ⟨bs.toArray⟩).run P w = .ok (.slice (some ⟨w.heap.size, 0, none⟩) bs.length cap) ((w.drew.alloc (.cells arr el)).freeze ⟨w.heap.size, cap, none⟩ 1) := by
            have hsh : (w.drew.alloc (.cells arr el)).shape? w.heap.size = some (el, cap) := by
              simp only [World.shape?]
              rw [show (w.drew.alloc (.cells arr el)).heap[w.heap.size]? = some (.cells arr el) from heap_alloc_new w.drew _]
              simp [harr]
            have helems : (⟨bs.toArray⟩ : ByteArray).data.map (fun b => Value.int .u8 b.toNat) = (bs.map fun b => Value.int .u8 b.toNat).toArray := by apply Array.ext'; simp
            simp only [Conv.stringToBytes, Sem.run_bind, hsz, run_choose, Question.forced, Bool.false_eq_true, if_false, Result.andThen_ok, newRow, run_newObj, Sem.run_pure, markStringish, run_shape, ← hcap, helems, World.alloc_eq, World.drew_eq]
            rw [show (w.drew.heap.size) = w.heap.size from rfl, hsh]
            simp only [run_freeze, Result.andThen_ok]
            rfl
          simp only [execOp, show a.eval x = _ from hex, Sem.run_bind, hconv, hst, Result.andThen_ok, Sem.run_pure]
        refine ⟨_, _, hrun, ⟨w.heap.size, cap, 1, (#[], 0)⟩, .cells arr el (cap, cap + 1), ?_, ⟨rfl, rfl, rfl⟩, rfl, ?_, _, E.add_at ν _, ?_⟩
        · exact freeze_push w.heap arr el cap
        · have hheap : ((w.drew.alloc (.cells arr el)).freeze ⟨w.heap.size, cap, none⟩ 1).heap[w.heap.size]? = some (.cells arr el (cap, cap + 1)) := by
            rw [show ((w.drew.alloc (.cells arr el)).freeze ⟨w.heap.size, cap, none⟩ 1).heap = w.heap.push (.cells arr el (cap, cap + 1)) from freeze_push w.heap arr el cap]
            simp
          refine ⟨rfl, arr, (cap, cap + 1), hheap, harr, by simp, bs.map (fun b => Value.int .u8 b.toNat), List.replicate (cap - bs.length) (.int .u8 0), ?_, by simp [arr]⟩
          have : ∀ l : List UInt8, VRL (E.add ν ⟨w.heap.size, cap, 1, (#[], 0)⟩) (l.map fun b => V.int .u8 (Int.ofNat b.toNat)) (l.map fun b => Value.int .u8 b.toNat) := by
            intro l
            induction l with
            | nil => rfl
            | cons b l ih => exact ⟨_, _, rfl, rfl, ih⟩
          exact this bs
        · rw [capOf_odd]
          simp; omega
      · cases h
    · cases h
  | makeMap ty r =>
    have key : ob = .map [] none ∧ mk = (fun n => .map n) ∧ (Instr.makeMap ty (r.map a.eval)).run P w = .ok (.map (some w.heap.size)) (w.alloc (.map #[] 0)) := by
      cases r with
      | none => simp [makes] at h; exact ⟨h.1.symm, h.2.symm, by simp [Instr.makeMap]⟩
      | some r =>
        simp only [makes] at h
        split at h
        · rename_i k e j n hd hr
          cases h
          have := hev hr
          refine ⟨rfl, rfl, ?_⟩
          simp [Instr.makeMap, run_underlying (hT.und _ _ hd), asInt, asIntOf, show a.eval r = _ from this]
        · cases h
    obtain ⟨rfl, rfl, hrun⟩ := key
    refine ⟨.map (some w.heap.size), w.alloc (.map #[] 0), by simp [execOp, hrun], ⟨w.heap.size, 0, 0, (#[], 0)⟩, _, rfl, ⟨rfl, rfl, rfl⟩, rfl, ?_, _, E.add_at ν _, rfl⟩
    exact ⟨#[], 0, heap_alloc_new w _, ⟨[], rfl, by simp⟩, by simp, by simp⟩
  | _ => simp [makes] at h
end
end Ev
namespace Ev
open Go
def Left (E : Env) (g : G) (nx : Nat) (w : World) (v : V) (g' : G) (nx' : Nat) (x : Value) (w' : World) : Prop :=
  ∃ E', VR E' v x ∧ Step E g nx w E' g' nx' w'
theorem undef_VR (E : Env) : VR E undefV undef := ⟨[], rfl, rfl⟩
theorem write_row {P : Program} {E : Env} {g : G} {nx n off : Nat} {w : World} {i : Info} {c c' vs : List V} {ys : List Value} {e u : Nat} (hr : Rel E g w) (hf : Fresh E nx) (hn : g n = some (.cells c e u false)) (hi : E.at_ n = some i)
    (hp : putAt off c vs = some c') (hy : VRL E vs ys) (h1 : ∀ y ∈ ys, y.oneCell' = true) :
    ∃ w', (storeCells ⟨i.blk, off, none⟩ ys).run P w = .ok () w' ∧ Step E g nx w E (upd g n (.cells c' e u false)) nx w' := by
  obtain ⟨i', hi', hu, rc, fr, h2, h3, h4, xs, rest, hx, hrc⟩ := hr.obj n _ hn
  rw [hi] at hi'; cases hi'
  have hfr := h4 rfl
  subst hfr
  obtain ⟨hv, hle⟩ := putAt_ok hp hx hy
  have hyl := hy.length
  have hxl := hx.length
  have hrl : rc.size = xs.length + rest.length := by rw [← Array.length_toList, hrc]; simp
  have hst := run_storeCells_at P i.blk off e ys 0 rc w h2 (by omega) h1
  simp only [Nat.add_zero] at hst
  refine ⟨_, hst, Step.write hr hf hn hi ⟨rfl, rfl, rfl, by simp [World.setRow]⟩ (fun b hb => setRow_other w i.blk b _ hb) ?_⟩
  refine ⟨hu, _, (0, 0), setRow_heap w i.blk rc _ e (0, 0) h2, ?_, fun _ => rfl, _, rest, hv, ?_⟩
  · simp
    omega
  · simp only [hrc]
    rw [List.take_append_of_le_length (by omega), List.drop_append_of_le_length (by omega)]
    simp
section
variable {tb : Tab} {P : Program} (hT : TabOk tb P) {E : Env} {w : World}
include hT
theorem store_ok {t : T V} {g : H} {nx ty : Nat} {ad xo : Operand} {n off sz : Nat} {v : V} {vs c c' : List V} {e u : Nat} {a : Act} (ht : TR E t a.tmps) (hg : GlobOk E) (hr : Rel E g.get w) (hf : Fresh E nx)
    (h1 : ev t ad = some (.ptr n off)) (h2 : ev t xo = some v) (h3 : g.get n = some (.cells c e u false)) (h4 : cellsOf v = some vs) (h5 : tb.size ty = some sz) (h6 : vs.length = sz) (h7 : putAt off c vs = some c') :
    ∃ w', (Instr.storeAt ty (a.eval ad) (a.eval xo)).run P w = .ok () w' ∧ Step E g.get nx w E (g.set n (.cells c' e u false)).get nx w' := by
  obtain ⟨i, hi, he⟩ := ev_ok ht hg h1
  obtain ⟨ys, hc, hy, ho, _⟩ := cells_ok h4 (ev_ok ht hg h2)
  obtain ⟨w', hst, hs⟩ := write_row (P := P) hr hf h3 hi h7 hy ho
  refine ⟨w', ?_, by rw [get_set_upd]; exact hs⟩
  have hsz : ¬ ((a.eval xo).cells.size ≠ sz) := by rw [hc]; simp [hy.length, h6]
  simp only [Instr.storeAt, he, Instr.sureAddr, storeVar, Sem.run_bind, Sem.run_pure, Result.andThen_ok, size_run hT h5, if_neg hsz]
  rw [hc]
  exact hst
end
end Ev
namespace Ev
open Go
theorem growBy_le (n : Nat) : ∀ r c, Builtin.growBy n r c ≤ max c (2 * n + 768)
  | 0, c => by simp [Builtin.growBy]; omega
  | r + 1, c => by
    unfold Builtin.growBy
    split
    · omega
    · have := growBy_le n r (c + (c + 768) / 4)
      omega
theorem next_le (need cap : Nat) (h1 : need ≤ 200000) (h2 : cap ≤ 200000) : Builtin.nextslicecap need cap ≤ 401000 := by
  unfold Builtin.nextslicecap
  split
  · omega
  · split
    · omega
    · have := growBy_le need 4 cap
      omega
section
variable {tb : Tab} {P : Program} (hT : TabOk tb P) {E : Env} {w : World}
include hT
omit hT in
theorem cells_read {g : G} {n off k : Nat} {c r : List V} {e u : Nat} {fz : Bool} {i : Info} (hr : Rel E g w) (hn : g n = some (.cells c e u fz)) (hi : E.at_ n = some i) (hc : cut c off k = some r) :
    ∃ xs, (loadCells ⟨i.blk, off, none⟩ k).run P w = .ok xs.toArray w ∧ VRL E r xs := by
  obtain ⟨i', hi', hu, rc, fr, h1, h2, h3, xs, rest, hx, hrc⟩ := hr.obj n _ hn
  rw [hi] at hi'; cases hi'
  obtain ⟨rfl, hl⟩ := cut_some hc
  have hlen : ((xs.drop off).take k).length = k := by rw [((hx.drop off).take k).length, hl]
  have hld := run_loadCells_list (P := P) w ⟨i.blk, off, none⟩ ((xs.drop off).take k) (fun j y hj => by
    rw [add_off, cell_of h1]
    have hj' : j < k := by
      have := (List.getElem?_eq_some_iff.1 hj).1
      omega
    rw [List.getElem?_take, if_pos hj', List.getElem?_drop] at hj
    rw [← Array.getElem?_toList, hrc, List.getElem?_append_left (List.getElem?_eq_some_iff.1 hj).1]
    exact hj)
  rw [hlen] at hld
  exact ⟨_, hld, (hx.drop off).take k⟩
omit hT in
theorem cells_readG {n off k : Nat} {c r : List V} {i : Info} (hG : GR tb E w) (hn : tb.glob n = some c) (hi : E.at_ n = some i) (hc : cut c off k = some r) :
    ∃ xs, (loadCells ⟨i.blk, off, none⟩ k).run P w = .ok xs.toArray w ∧ VRL E r xs := by
  obtain ⟨i', rc, e, fr, hi', h1, xs, rest, hx, hrc⟩ := hG.glob n c hn
  rw [hi] at hi'; cases hi'
  obtain ⟨rfl, hl⟩ := cut_some hc
  have hlen : ((xs.drop off).take k).length = k := by rw [((hx.drop off).take k).length, hl]
  have hld := run_loadCells_list (P := P) w ⟨i.blk, off, none⟩ ((xs.drop off).take k) (fun j y hj => by
    rw [add_off, cell_of h1]
    have hj' : j < k := by
      have := (List.getElem?_eq_some_iff.1 hj).1
      omega
    rw [List.getElem?_take, if_pos hj', List.getElem?_drop] at hj
    rw [← Array.getElem?_toList, hrc, List.getElem?_append_left (List.getElem?_eq_some_iff.1 hj).1]
    exact hj)
  rw [hlen] at hld
  exact ⟨_, hld, (hx.drop off).take k⟩
omit hT in
theorem _root_.Ev.GR.sameHeap {w' : World} (hG : GR tb E w) (h : w'.heap = w.heap) : GR tb E w' := ⟨fun n c hc => by
  obtain ⟨i, rc, e, fr, h1, h2, h3⟩ := hG.glob n c hc
  exact ⟨i, rc, e, fr, h1, by rw [h]; exact h2, h3⟩, fun ty i v hv => by
  obtain ⟨ad, cs, xs, h1, h2, h5, h6⟩ := hG.ld ty i v hv
  exact ⟨ad, cs, xs, h1, h2, h5, fun j y hj => by rw [← h6 j y hj]; simp only [World.cell?, h]⟩⟩
omit hT in
theorem src_ok {g : H} {sz k : Nat} {x : V} {r : List V} {rx : Value} (h : srcCells tb g sz x k = some r) (hG : GR tb E w) (hr : Rel E g.get w) (vx : VR E x rx) :
    ∃ ys, (Builtin.firstCells sz k rx).run P w = .ok ys.toArray w ∧ VRL E r ys := by
  unfold srcCells at h
  split at h
  · rename_i n off len cap k'
    obtain ⟨i, hi, rfl⟩ := vx
    split at h
    · rename_i c e u fz hg
      obtain ⟨xs, h1, h2⟩ := cells_read (P := P) hr hg hi h
      exact ⟨xs, by simpa [Builtin.firstCells] using h1, h2⟩
    · cases h
    · split at h
      · rename_i c hc
        obtain ⟨xs, h1, h2⟩ := cells_readG (P := P) hG hc hi h
        exact ⟨xs, by simpa [Builtin.firstCells] using h1, h2⟩
      · cases h
  · cases h
    rw [show rx = _ from vx]
    exact ⟨[], rfl, rfl⟩
  · rename_i k' s
    cases h
    rw [show rx = _ from vx]
    refine ⟨(s.take k).map fun b => Value.int .u8 b.toNat, ?_, ?_⟩
    · simp only [Builtin.firstCells, Sem.run_pure]
      congr 1
      apply Array.ext'
      rw [Array.toList_map, ByteArray.data_extract]
      simp
    · have : ∀ l : List UInt8, VRL E (l.map fun b => V.int .u8 (Int.ofNat b.toNat)) (l.map fun b => Value.int .u8 b.toNat) := by
        intro l
        induction l with
        | nil => rfl
        | cons b l ih => exact ⟨_, _, rfl, rfl, ih⟩
      exact this _
  · cases h
omit hT in
theorem lenOf_ok {x : V} {k : Nat} {rx : Value} (h : lenOf x = some k) (vx : VR E x rx) (w : World) : (Builtin.lenOf rx).run P w = .ok k w := by
  cases x <;> simp [lenOf] at h
  · rw [show rx = _ from vx]; subst h; simp [Builtin.lenOf, ByteArray.size]
  · obtain ⟨i, _, rfl⟩ := vx; subst h; simp [Builtin.lenOf]
  · rw [show rx = _ from vx]; subst h; simp [Builtin.lenOf]
omit hT in
theorem _root_.Ev.Rel.sameHeap {g : G} {w' : World} (hr : Rel E g w) (h : w'.heap = w.heap) : Rel E g w' :=
  ⟨fun n o hn => let ⟨i, hi, ho⟩ := hr.obj n o hn; ⟨i, hi, ho.mono (Env.Le.refl E) (by rw [h])⟩, hr.inj⟩
theorem append_run {ty xty el k : Nat} {xd : TypeDesc} {inf : TypeInfo} {g : H} {x : V} {rx : Value} {new z : List V} {tys : Array TypeId} {rt : TypeId} {rs : Array Value} {base : Option Addr} {sLen sCap : Nat}
    (h1 : tb.und ty = some (.slice el)) (h2 : tb.und xty = some xd) (h3 : tb.inf el = some inf) (hz0 : zerosOf tb el = some z) (hzl0 : z.length = inf.size) (hn : newCells tb el inf.size xd x g = some (k, new))
    (hk : k ≤ 100000) (hb : inf.bytes ≤ 100000) (vx : VR E x rx) (hG : GR tb E w) (hr : Rel E g.get w)
    (t0 : tys[0]? = some ty) (t1 : tys[1]? = some xty) (r0 : rs[0]? = some (.slice base sLen sCap)) (r1 : rs[1]? = some rx) :
    ∃ ys, VRL E new ys ∧
      (sLen + k ≤ sCap → ∀ w', (match base with | some a => (storeCells (a.add (sLen * inf.size)) ys).run P w = .ok () w' | none => w' = w) →
        (Builtin.append_ tys rt rs).run P w = .ok (.slice base (sLen + k) sCap) w') ∧
      (¬ sLen + k ≤ sCap → sCap ≤ 200000 → sLen ≤ 100000 → ∀ olds : List Value, (Builtin.firstCells inf.size sLen (.slice base sLen sCap)).run P w.drew = .ok olds.toArray w.drew →
        ∃ (newCap : Nat) (zs : List Value), sLen + k ≤ newCap ∧ zs.length = (newCap - (sLen + k)) * inf.size ∧
          (Builtin.append_ tys rt rs).run P w = .ok (.slice (some ⟨w.heap.size, 0, none⟩) (sLen + k) newCap) (w.drew.alloc (.cells (olds ++ ys ++ zs).toArray el))) := by
  have hgrow : ∀ need : Nat, need ≤ Question.cut (.appendCap need sCap el) (w.tape w.drawn (.appendCap need sCap el)) := by intro need; simp [Question.cut]
  have hzs : ∀ n, ∃ zs : List Value, zs.length = n * inf.size ∧ ∀ w' : World, ∃ rz, (zeroValue el).run P w' = .ok rz w' ∧ Builtin.zeroCells rz.cells n = zs.toArray := by
    intro n
    obtain ⟨rz, xs, hrz, hcs, hx, _, _⟩ := zeros_ok (E := E) hT hz0 w
    have hxl : xs.length = inf.size := by rw [hx.length, hzl0]
    refine ⟨List.flatten (List.replicate n xs), by simp [hxl], fun w' => ?_⟩
    obtain ⟨rz', xs', hrz', hcs', hx', _, _⟩ := zeros_ok (E := E) hT hz0 w'
    have := VRL.det z xs xs' hx hx'
    subst this
    refine ⟨rz', hrz', ?_⟩
    simp only [Builtin.zeroCells, hcs']
    rw [zeros_eq xs n _ (by simp)]
  have hmax : ¬ (((sLen + k : Nat) : Int) > IntKind.i64.max) ∨ ¬ sLen ≤ 100000 := by
    by_cases hl : sLen ≤ 100000
    · left; rw [IntKind.max_i64]; omega
    · exact .inr hl
  have hnext : sCap ≤ 200000 → sLen ≤ 100000 → ¬ (Builtin.nextslicecap (sLen + k) sCap * inf.bytes > 2 ^ 48) := by
    intro hc hl
    have := next_le (sLen + k) sCap (by omega) hc
    have h2 : Builtin.nextslicecap (sLen + k) sCap * inf.bytes ≤ 401000 * 100000 := Nat.mul_le_mul this hb
    have h48 : (2 : Nat) ^ 48 = 281474976710656 := by decide
    omega
  have hu1 := run_underlying (hT.und _ _ h1) w
  have hu2 := run_underlying (hT.und _ _ h2) w
  have hinf := hT.inf _ _ h3
  have hsz : (Go.sizeOf el).run P w = .ok inf.size w := by simp [Go.sizeOf, typeInfo, hinf]
  unfold newCells at hn
  split at hn
  ·
    rename_i ik
    split at hn
    · rename_i j k'
      cases hb1 : Nat.ble k' 100000 with
      | false => rw [hb1] at hn; cases hn
      | true =>
        rw [hb1, cond_true] at hn
        cases hz : zerosOf tb el with
        | none => simp [hz] at hn
        | some z =>
          simp only [hz] at hn
          cases hb2 : Nat.beq z.length inf.size with
          | false => rw [hb2] at hn; cases hn
          | true =>
            rw [hb2, cond_true] at hn
            simp only [Option.some.injEq, Prod.mk.injEq] at hn
            obtain ⟨rfl, rfl⟩ := hn
            have hzl := nbeq_true hb2
            obtain ⟨rz, xs, hrz, hcs, hx, _, _⟩ := zeros_ok (E := E) hT hz w
            have hxl : xs.length = inf.size := by rw [hx.length, hzl]
            have happ : ∀ w' : World, w'.heap = w.heap → (if k' * inf.size = 0 then pure #[] else do pure (Builtin.zeroCells (← zeroValue el).cells k') : Sem (Array Value)).run P w' = .ok (List.flatten (List.replicate k' xs)).toArray w' := by
              intro w' _
              split
              · rename_i h0
                have : List.flatten (List.replicate k' xs) = [] := List.eq_nil_of_length_eq_zero (by simp [hxl, h0])
                rw [this]; rfl
              · obtain ⟨rz', xs', hrz', hcs', hx', _, _⟩ := zeros_ok (E := E) hT hz w'
                have := VRL.det z xs xs' hx hx'
                subst this
                simp only [Sem.run_bind, hrz', Result.andThen_ok, Sem.run_pure, Builtin.zeroCells, hcs']
                rw [zeros_eq xs k' _ (by simp)]
            rw [show rx = _ from vx] at r1
            have hw64 : IntKind.i64.wrap (k' : Int) = (k' : Int) := wrap_small (by omega)
            have hneg : ¬ ((k' : Int) < 0) := by omega
            have hbig : ¬ ((k' : Int) * (inf.bytes : Int) > 2 ^ 48) := by
              have : ((k' : Int) * (inf.bytes : Int)) = ((k' * inf.bytes : Nat) : Int) := by simp
              rw [this]
              have h48 : (2 : Int) ^ 48 = 281474976710656 := by decide
              have : k' * inf.bytes ≤ 100000 * 100000 := Nat.mul_le_mul hk hb
              omega
            refine ⟨_, rep_ok hx k', fun hroom w' hst => ?_, fun hroom hc hl olds hold => ?_⟩
            · simp only [Builtin.append_, t0, t1, r0, r1, Sem.run_bind, hu1, hu2, hsz, Result.andThen_ok, Sem.run_pure, if_true, asInt, asIntOf, Int.ofNat_eq_natCast, hw64, if_neg hneg, typeInfo, run_program, hinf, if_neg hbig, Int.toNat_natCast,
                if_pos hroom, Bool.not_true, Bool.false_eq_true, if_false, happ w rfl]
              cases base with
              | none => subst hst; rfl
              | some a => simp only at hst; simp [hst]
            · obtain ⟨zs, hzs1, hzs2⟩ := hzs (Question.cut (.appendCap (sLen + k') sCap el) (w.tape w.drawn (.appendCap (sLen + k') sCap el)) - (sLen + k'))
              obtain ⟨rz', hz1, hz2⟩ := hzs2 w.drew
              refine ⟨_, zs, hgrow (sLen + k'), hzs1, ?_⟩
              have hm := hmax.resolve_right (fun h => h hl)
              simp only [Builtin.append_, t0, t1, r0, r1, Sem.run_bind, hu1, hu2, hsz, Result.andThen_ok, Sem.run_pure, if_true, asInt, asIntOf, Int.ofNat_eq_natCast, hw64, if_neg hneg, typeInfo, run_program, hinf, if_neg hbig, Int.toNat_natCast,
                if_neg hroom, hm, false_and, if_false, if_neg (hnext hc hl), run_choose, Question.forced, Bool.false_eq_true, World.drew_eq, run_askRoom, hold, Bool.not_true, happ w.drew rfl, hz1, hz2, newRow, run_newObj, World.alloc_eq]
              simp
    · cases hn
  ·
    rename_i hni
    cases hl' : lenOf x with
    | none => simp [hl'] at hn
    | some k' =>
      simp only [hl'] at hn
      cases hs : srcCells tb g inf.size x k' with
      | none => simp [hs] at hn
      | some r =>
        simp only [hs, Option.map_some, Option.some.injEq, Prod.mk.injEq] at hn
        obtain ⟨rfl, rfl⟩ := hn
        obtain ⟨ys, hys, hv⟩ := src_ok (P := P) hs hG hr vx
        have happ : ∀ w' : World, w'.heap = w.heap → (Builtin.firstCells inf.size k' rx).run P w' = .ok ys.toArray w' := by
          intro w' hw'
          obtain ⟨ys', hys', hv'⟩ := src_ok (P := P) (w := w') hs (hG.sameHeap hw') (hr.sameHeap hw') vx
          rw [hys', VRL.det _ _ _ hv hv']
        refine ⟨ys, hv, fun hroom w' hst => ?_, fun hroom hc hl olds hold => ?_⟩
        · simp only [Builtin.append_, t0, t1, r0, r1, Sem.run_bind, hu1, hu2, hsz, Result.andThen_ok, Sem.run_pure, Bool.false_eq_true, if_false, lenOf_ok (P := P) hl' vx w, if_pos hroom, Bool.not_false, if_true, happ w rfl]
          cases base with
          | none => subst hst; rfl
          | some a => simp only at hst; simp [hst]
        · obtain ⟨zs, hzs1, hzs2⟩ := hzs (Question.cut (.appendCap (sLen + k') sCap el) (w.tape w.drawn (.appendCap (sLen + k') sCap el)) - (sLen + k'))
          obtain ⟨rz', hz1, hz2⟩ := hzs2 w.drew
          refine ⟨_, zs, hgrow (sLen + k'), hzs1, ?_⟩
          have hm := hmax.resolve_right (fun h => h hl)
          simp only [Builtin.append_, t0, t1, r0, r1, Sem.run_bind, hu1, hu2, hsz, Result.andThen_ok, Sem.run_pure, lenOf_ok (P := P) hl' vx w, typeInfo, run_program, hinf,
            if_neg hroom, hm, false_and, if_false, if_neg (hnext hc hl), run_choose, Question.forced, Bool.false_eq_true, World.drew_eq, run_askRoom, hold, Bool.not_false, if_true, happ w.drew rfl, hz1, hz2, newRow, run_newObj, World.alloc_eq]
          simp
end
end Ev
namespace Ev
open Go
theorem grown_ok {E : Env} {g : G} {nx k el sz newCap : Nat} {w : World} {cs : List V} {olds ys zs : List Value} {news : List V} (hr : Rel E g w) (hf : Fresh E nx) (ho : VRL E cs olds) (hy : VRL E news ys)
    (hl : (cs ++ news).length = k * sz) (hz : zs.length = (newCap - k) * sz) (hk : k ≤ newCap) (hs : 1 ≤ sz) :
    Left E g nx w (.slice nx 0 k (2 * k + 1)) (upd g nx (.cells (cs ++ news) el sz false)) (nx + 1) (.slice (some ⟨w.heap.size, 0, none⟩) k newCap) (w.drew.alloc (.cells (olds ++ ys ++ zs).toArray el)) := by
  have hν := hf nx (Nat.le_refl _)
  let i : Info := ⟨w.heap.size, newCap * sz, sz, (#[], 0)⟩
  have hlen : (olds ++ ys).length = k * sz := by rw [List.length_append, ho.length, hy.length, ← List.length_append, hl]
  refine ⟨E.add nx i, ⟨i, E.add_at nx i, ?_⟩, Step.alloc hr hf rfl rfl ⟨rfl, rfl, rfl⟩ ?_⟩
  · rw [capOf_odd]
    have : (i.size - 0) / i.unit = newCap := by simp [i]; exact Nat.mul_div_cancel _ (by omega)
    rw [this, Nat.max_eq_right hk]
  · refine ⟨rfl, _, (0, 0), heap_alloc_new w.drew _, ?_, fun _ => rfl, olds ++ ys, zs, VRL.mono (Env.le_add hν) _ _ (ho.append hy), by simp⟩
    simp only [List.size_toArray, List.length_append, i] at *
    rw [hlen, hz, ← Nat.add_mul]
    congr 1
    omega
section
variable {tb : Tab} {P : Program} (hT : TabOk tb P) {E : Env} {w : World}
include hT
theorem append_ok {ty xty nx nx' : Nat} {g g' : H} {s x v : V} {rs0 rx : Value} {tys : Array TypeId} {rt : TypeId} {rs : Array Value} (h : append tb ty xty s x g nx = some (v, g', nx')) (vs : VR E s rs0) (vx : VR E x rx)
    (hG : GR tb E w) (hr : Rel E g.get w) (hf : Fresh E nx) (t0 : tys[0]? = some ty) (t1 : tys[1]? = some xty) (r0 : rs[0]? = some rs0) (r1 : rs[1]? = some rx) :
    ∃ r w', (Builtin.append_ tys rt rs).run P w = .ok r w' ∧ Left E g.get nx w v g'.get nx' r w' := by
  unfold append at h
  split at h
  case h_2 => cases h
  rename_i el h1
  split at h
  case h_1 => cases h
  rename_i xd h2
  split at h
  case h_1 => cases h
  rename_i inf h3
  split at h
  case h_1 => cases h
  rename_i z hz
  split at h
  case h_1 => cases h
  rename_i k new hn
  cases hb : (Nat.ble k 100000 && Nat.ble inf.bytes 100000 && Nat.ble 1 inf.size && Nat.beq z.length inf.size && new.all leafV && Nat.beq new.length (k * inf.size)) with
  | false => rw [hb] at h; cases h
  | true =>
    rw [hb, cond_true] at h
    simp only [Bool.and_eq_true] at hb
    obtain ⟨⟨⟨⟨⟨hb1, hb2⟩, hb3⟩, hb4⟩, hb5⟩, hb6⟩ := hb
    have hk := nble_le hb1
    have hby := nble_le hb2
    have hs1 := nble_le hb3
    have hzl := nbeq_true hb4
    have hnl := nbeq_true hb6
    split at h
    ·
      rw [show rs0 = _ from vs] at r0
      obtain ⟨ys, hy, hroom, hgrow⟩ := append_run (P := P) (w := w) (rt := rt) hT h1 h2 h3 hz hzl hn hk hby vx hG hr t0 t1 r0 r1
      cases hk0 : Nat.beq k 0 with
      | true =>
        rw [hk0] at h
        cases h
        have := nbeq_true hk0
        subst this
        exact ⟨_, w, hroom (by omega) w rfl, E, rfl, Step.refl hr hf⟩
      | false =>
        rw [hk0] at h
        simp only [cond_false, grown, Option.some.injEq, Prod.mk.injEq] at h
        obtain ⟨rfl, rfl, rfl⟩ := h
        have hk1 := nbeq_ne hk0
        obtain ⟨newCap, zs, hc1, hc2, hrun⟩ := hgrow (by omega) (by omega) (by omega) [] rfl
        have := grown_ok (el := el) (olds := []) (cs := []) hr hf rfl hy (k := 0 + k) (by simpa using hnl) hc2 hc1 hs1
        refine ⟨_, _, hrun, ?_⟩
        rw [get_set_upd]
        simpa using this
    · rename_i n off len cap
      obtain ⟨i, hi, rfl⟩ := vs
      obtain ⟨ys, hy, hroom, hgrow⟩ := append_run (P := P) (w := w) (rt := rt) hT h1 h2 h3 hz hzl hn hk hby vx hG hr t0 t1 r0 r1
      have hy1 := one_of_leaves hy hb5
      have copy : ∀ {c old : List V} {e u : Nat} {fz : Bool}, g.get n = some (.cells c e u fz) → cut c off (len * inf.size) = some old → len ≤ 100000 → capOf i off cap < len + k → capOf i off cap ≤ 200000 →
          ∃ r w', (Builtin.append_ tys rt rs).run P w = .ok r w' ∧ Left E g.get nx w (.slice nx 0 (len + k) (2 * (len + k) + 1)) (upd g.get nx (.cells (old ++ new) el inf.size false)) (nx + 1) r w' := by
        intro c old e u fz hg hc hl hlt hcap
        obtain ⟨olds, ho1, ho2⟩ := cells_read (P := P) (w := w.drew) (hr.sameHeap rfl) hg hi hc
        obtain ⟨newCap, zs, hc1, hc2, hrun⟩ := hgrow (by omega) hcap hl olds (by simpa [Builtin.firstCells] using ho1)
        refine ⟨_, _, hrun, grown_ok hr hf ho2 hy ?_ hc2 hc1 hs1⟩
        rw [List.length_append, (cut_some hc).2, hnl, ← Nat.add_mul]
      split at h
      · rename_i c e u hg
        cases hb7 : (Nat.ble len 100000 && Nat.ble (cap / 2) 100000) with
        | false => rw [hb7] at h; cases h
        | true =>
          rw [hb7, cond_true] at h
          rw [Bool.and_eq_true] at hb7
          have hl1 := nble_le hb7.1
          have hc1 := nble_le hb7.2
          cases hb8 : Nat.ble (len + k) (cap / 2) with
          | true =>
            rw [hb8, cond_true] at h
            split at h
            · cases h
            · rename_i c' hp
              simp only [Option.some.injEq, Prod.mk.injEq] at h
              obtain ⟨rfl, rfl, rfl⟩ := h
              obtain ⟨w', hst, hstep⟩ := write_row (P := P) hr hf hg hi hp hy hy1
              have hle : len + k ≤ capOf i off cap := Nat.le_trans (nble_le hb8) le_capOf
              refine ⟨_, w', hroom hle w' (by simp only; rw [add_off]; exact hst), E, ⟨i, hi, rfl⟩, ?_⟩
              rw [get_set_upd]
              exact hstep
          | false =>
            rw [hb8, cond_false] at h
            have hnle : ¬ len + k ≤ cap / 2 := by
              intro hh; rw [Nat.ble_eq_true_of_le hh] at hb8; cases hb8
            split at h
            · cases h
            · rename_i old hc
              cases hev : Nat.beq (cap % 2) 0 with
              | true =>
                rw [hev, cond_true] at h
                simp only [grown, Option.some.injEq, Prod.mk.injEq] at h
                obtain ⟨rfl, rfl, rfl⟩ := h
                have hcap : capOf i off cap = cap / 2 := by unfold capOf; rw [if_pos (nbeq_true hev)]
                rw [get_set_upd]
                exact copy hg hc hl1 (by omega) (by omega)
              | false =>
                rw [hev, cond_false] at h
                cases hb9 : (Nat.beq off 0 && Nat.beq u inf.size && Nat.beq e el) with
                | false => rw [hb9] at h; cases h
                | true =>
                  rw [hb9, cond_true] at h
                  simp only [Bool.and_eq_true] at hb9
                  obtain ⟨⟨h01, h02⟩, h03⟩ := hb9
                  have := nbeq_true h01
                  subst this
                  have := nbeq_true h02
                  subst this
                  have := nbeq_true h03
                  subst this
                  simp only [grown, Option.some.injEq, Prod.mk.injEq] at h
                  obtain ⟨rfl, rfl, rfl⟩ := h
                  have hcapv : capOf i 0 cap = max (cap / 2) ((i.size - 0) / i.unit) := by unfold capOf; rw [if_neg (nbeq_ne hev)]
                  rw [get_set_upd, get_del_rem]
                  by_cases hcase : len + k ≤ capOf i 0 cap
                  ·
                    obtain ⟨i', hi', hu, rc, fr, k2, k3, k4, xs, rest, hx, hrc⟩ := hr.obj n _ hg
                    rw [hi] at hi'; cases hi'
                    have hfr := k4 rfl
                    subst hfr
                    obtain ⟨hold, hol⟩ := cut_some hc
                    have hX : len + k ≤ i.size / i.unit := by rw [hcapv] at hcase; simp only [Nat.sub_zero] at hcase; omega
                    have hfit : (len + k) * inf.size ≤ i.size := by
                      have h5 := Nat.mul_le_mul_right i.unit hX
                      have h6 := Nat.div_mul_le_self i.size i.unit
                      rw [hu] at h5 h6
                      omega
                    have hyl : ys.length = k * inf.size := by rw [hy.length, hnl]
                    have hmul : (len + k) * inf.size = len * inf.size + k * inf.size := Nat.add_mul _ _ _
                    have hrl : rc.toList.length = xs.length + rest.length := by rw [hrc]; simp
                    have hcl : len * inf.size ≤ xs.length := by
                      rw [hx.length]
                      have : old.length ≤ c.length := by rw [hold]; simp; omega
                      omega
                    have hst := run_storeCells_at P i.blk (len * inf.size) e ys 0 rc w k2 (by simp only [Nat.add_zero]; omega) hy1
                    simp only [Nat.add_zero] at hst
                    let j : Info := ⟨i.blk, i.size, i.unit, (#[], 0)⟩
                    have hν := hf nx (Nat.le_refl _)
                    refine ⟨_, (w.setRow i.blk (List.take (len * inf.size) rc.toList ++ ys ++ List.drop (len * inf.size + ys.length) rc.toList).toArray), hroom hcase _ (by simp only; rw [add_off, Nat.zero_add]; exact hst), E.add nx j, ⟨j, E.add_at nx j, ?_⟩, Step.consume hr hf hg hi rfl ⟨rfl, rfl, rfl, by simp⟩ (fun b hb => setRow_other w i.blk b _ hb) ?_⟩
                    · rw [capOf_odd, hcapv]
                      simp only [j, Nat.sub_zero]
                      congr 1
                      omega
                    · refine ⟨hu, _, (0, 0), setRow_heap w i.blk rc _ e (0, 0) k2, ?_, fun _ => rfl, xs.take (len * inf.size) ++ ys, rc.toList.drop (len * inf.size + ys.length), ?_, ?_⟩
                      · simp only [List.size_toArray, List.length_append, List.length_take, List.length_drop, j, Array.length_toList]
                        omega
                      · refine VRL.mono (Env.le_add hν) _ _ (VRL.append ?_ hy)
                        rw [hold]
                        simpa using hx.take (len * inf.size)
                      · have : rc.toList.take (len * inf.size) = xs.take (len * inf.size) := by rw [hrc, List.take_append_of_le_length hcl]
                        rw [this]
                  ·
                    obtain ⟨r, w', hrun, E', hv', hstep⟩ := copy hg hc hl1 (by omega) (by omega)
                    refine ⟨r, w', hrun, E', hv', hstep.trans (Step.same hstep.rel hstep.fresh (fun m o hm => ?_) rfl ⟨rfl, rfl, rfl⟩)⟩
                    simp only [upd, rem] at hm ⊢
                    by_cases hmx : m = nx
                    · simpa [hmx] using hm
                    · simp only [if_neg hmx] at hm ⊢
                      by_cases hmn : m = n
                      · simp [hmn] at hm
                      · simpa [hmn] using hm
      · rename_i c e u hg
        cases hb7 : (Nat.ble len 100000 && Nat.ble (cap / 2) 100000 && Nat.beq (cap % 2) 0 && Nat.blt (cap / 2) (len + k)) with
        | false => rw [hb7] at h; cases h
        | true =>
          rw [hb7, cond_true] at h
          simp only [Bool.and_eq_true] at hb7
          obtain ⟨⟨⟨g1, g2⟩, g3⟩, g4⟩ := hb7
          have hcap : capOf i off cap = cap / 2 := by unfold capOf; rw [if_pos (nbeq_true g3)]
          have hlt := nblt_lt g4
          have hl1 := nble_le g1
          have hl2 := nble_le g2
          split at h
          · cases h
          · rename_i old hc
            simp only [grown, Option.some.injEq, Prod.mk.injEq] at h
            obtain ⟨rfl, rfl, rfl⟩ := h
            rw [get_set_upd]
            exact copy hg hc hl1 (by omega) (by omega)
      · rename_i hg
        cases hb7 : (Nat.ble len 100000 && Nat.ble (cap / 2) 100000 && Nat.beq (cap % 2) 0 && Nat.blt (cap / 2) (len + k)) with
        | false => rw [hb7] at h; cases h
        | true =>
          rw [hb7, cond_true] at h
          simp only [Bool.and_eq_true] at hb7
          obtain ⟨⟨⟨g1, g2⟩, g3⟩, g4⟩ := hb7
          have hcap : capOf i off cap = cap / 2 := by unfold capOf; rw [if_pos (nbeq_true g3)]
          have hlt := nblt_lt g4
          have hl1 := nble_le g1
          have hl2 := nble_le g2
          split at h
          · cases h
          · rename_i c hgc
            split at h
            · cases h
            · rename_i old hc
              simp only [grown, Option.some.injEq, Prod.mk.injEq] at h
              obtain ⟨rfl, rfl, rfl⟩ := h
              rw [get_set_upd]
              obtain ⟨olds, ho1, ho2⟩ := cells_readG (P := P) (w := w.drew) (hG.sameHeap rfl) hgc hi hc
              obtain ⟨newCap, zs, hc1, hc2, hrun⟩ := hgrow (by omega) (by omega) hl1 olds (by simpa [Builtin.firstCells] using ho1)
              refine ⟨_, _, hrun, grown_ok hr hf ho2 hy ?_ hc2 hc1 hs1⟩
              rw [List.length_append, (cut_some hc).2, hnl, ← Nat.add_mul]
      · cases h
    · cases h
end
end Ev
namespace Ev
open Go
theorem shape_of {w : World} {b : Nat} {rc : Array Value} {e : TypeId} {fr : Nat × Nat} (h : w.heap[b]? = some (.cells rc e fr)) : w.shape? b = some (e, rc.size) := by
  simp [World.shape?, h]
theorem depth_succ (P : Program) : ∃ d, P.depth = d + 1 := ⟨2 * (P.types.size + Made.depth) + 1, rfl⟩
theorem lies_same {P : Program} {e cells k : Nat} (hs : 0 < P.cellsOf e) (hk : k ≤ cells / P.cellsOf e) : liesAt P P.depth e (cells / P.cellsOf e) 0 e k = true := by
  obtain ⟨d, hd⟩ := depth_succ P
  have hfit : sameLayout P P.depth e e = true := by rw [hd]; simp [sameLayout]
  have hrow : rowAt P (sameLayout P P.depth · e) P.depth e (cells / P.cellsOf e) 0 k = true := by
    rw [hd]
    unfold rowAt
    have h0 : ¬ P.cellsOf e = 0 := by omega
    rw [← hd]
    simp only [h0, if_false, Nat.zero_div, Nat.zero_mod, Nat.zero_add, hfit, Bool.and_true, BEq.rfl, Bool.true_and]
    simp [hk]
  rw [hd]
  unfold liesAt
  rw [hrow]
  simp
section
variable {tb : Tab} {P : Program} (hT : TabOk tb P) {E : Env} {w : World}
theorem seen_ok {b off : Nat} {rc : Array Value} {e : TypeId} {fr : Nat × Nat} (h : w.heap[b]? = some (.cells rc e fr)) : (Conv.seenAt ⟨b, off, none⟩).run P w = .ok ⟨b, off, none⟩ w := by
  simp [Conv.seenAt, viewAt, shape_of h]
include hT
theorem toUnsafe_ok {s d el n off k : Nat} {c : List V} {e u : Nat} {fz : Bool} {g : G} {i : Info} (hs : tb.und s = some (.pointer el)) (hd : tb.und d = some .unsafePointer) (hr : Rel E g w) (hg : g n = some (.cells c e u fz)) (hi : E.at_ n = some i)
    (hsz : tb.size el = some (k + 1)) (hlt : off < c.length) : (Go.convert s d (.pointer (some ⟨i.blk, off, none⟩))).run P w = .ok (.pointer (some ⟨i.blk, off, none⟩)) w := by
  obtain ⟨i', hi', hu, rc, fr, h1, h2, h3, xs, rest, hx, hrc⟩ := hr.obj n _ hg
  rw [hi] at hi'; cases hi'
  have hlr : off < rc.size := by
    have : rc.toList.length = xs.length + rest.length := by rw [hrc]; simp
    have := hx.length
    simp at *; omega
  have hus := hT.und _ _ hs
  have hud := hT.und _ _ hd
  have hcells : (cellsIn i.blk).run P w = .ok (some rc.size) w := by simp [cellsIn, shape_of h1]
  have hno : ¬ (off ≥ rc.size) := by omega
  simp only [Go.convert, Sem.run_bind, run_underlying hus, run_underlying hud, Result.andThen_ok, Conv.unsafePointer, seen_ok h1, hcells, size_run hT hsz]
  simp [hno]
theorem ofUnsafe_ok {s d el n k : Nat} {c : List V} {u : Nat} {fz : Bool} {g : G} {i : Info} (hs : tb.und s = some .unsafePointer) (hd : tb.und d = some (.pointer el)) (hr : Rel E g w) (hg : g n = some (.cells c el u fz)) (hi : E.at_ n = some i)
    (hsz : tb.size el = some (k + 1)) (hle : k + 1 ≤ c.length) : (Go.convert s d (.pointer (some ⟨i.blk, 0, none⟩))).run P w = .ok (.pointer (some ⟨i.blk, 0, none⟩)) w := by
  obtain ⟨i', hi', hu, rc, fr, h1, h2, h3, xs, rest, hx, hrc⟩ := hr.obj n _ hg
  rw [hi] at hi'; cases hi'
  have hlr : k + 1 ≤ rc.size := by
    have : rc.toList.length = xs.length + rest.length := by rw [hrc]; simp
    have := hx.length
    simp at *; omega
  have hus := hT.und _ _ hs
  have hud := hT.und _ _ hd
  have hcz : P.cellsOf el = k + 1 := by
    unfold Tab.size at hsz
    cases hinf : tb.inf el with
    | none => simp [hinf] at hsz
    | some inf => simp [hinf] at hsz; simp [Program.cellsOf, hT.inf _ _ hinf, hsz]
  have hv : (variablesAt ⟨i.blk, 0, none⟩ el 1).run P w = .ok true w := by
    have hl := lies_same (P := P) (e := el) (cells := rc.size) (k := 1) (by omega) (by rw [hcz]; exact (Nat.le_div_iff_mul_le (by omega)).2 (by omega))
    simp [variablesAt, shape_of h1, hl]
  simp only [Go.convert, Sem.run_bind, run_underlying hus, run_underlying hud, Result.andThen_ok, Conv.unsafePointer, seen_ok h1, size_run hT hsz, hv]
  simp
omit hT in
theorem loadBytes_ok : ∀ (k off : Nat) {vs : List V} {s : List UInt8} {xs : List Value} {b : Nat} (acc : ByteArray), bytesOf vs = some s → VRL E vs xs → vs.length = k → (∀ j y, xs[j]? = some y → w.cell? ⟨b, off + j, none⟩ = some y) →
    (Go.loadBytes ⟨b, off, none⟩ acc k).run P w = .ok ⟨acc.data ++ s.toArray⟩ w
  | 0, off, vs, s, xs, b, acc, hb, hx, hl, hc => by
    have : vs = [] := List.eq_nil_of_length_eq_zero hl
    subst this
    simp [bytesOf] at hb
    subst hb
    simp [Go.loadBytes]
  | k + 1, off, [], s, xs, b, acc, hb, hx, hl, hc => by simp at hl
  | k + 1, off, v :: vs, s, xs, b, acc, hb, hx, hl, hc => by
    obtain ⟨x, xs', rfl, hx1, hx2⟩ := hx
    have hv : ∃ n, v = .int .u8 n := by
      cases v with
      | int k n => cases k <;> first | exact ⟨n, rfl⟩ | (simp [bytesOf] at hb)
      | _ => simp [bytesOf] at hb
    obtain ⟨n, rfl⟩ := hv
    simp only [bytesOf] at hb
    cases h1 : bytesOf vs with
    | none => simp [h1] at hb
    | some s' =>
      simp [h1] at hb
      subst hb
      have hcell : w.cell? ⟨b, off, none⟩ = some (.int .u8 n) := by
        have := hc 0 x rfl
        rw [show x = _ from hx1] at this
        simpa using this
      have ih := loadBytes_ok k (off + 1) (b := b) (acc.push n.toNat.toUInt8) h1 hx2 (by simpa using hl) (fun j y hj => by
        have := hc (j + 1) y (by simpa using hj)
        rw [show off + 1 + j = off + (j + 1) from by omega]; exact this)
      simp only [Go.loadBytes, Sem.run_bind, run_load, hcell, Result.andThen_ok, add_off, ih]
      congr 2
      apply Array.ext'
      simp [ByteArray.push, Nat.toUInt8]
theorem unsafeString_ok {pt rt n k el nx : Nat} {c bs : List V} {s : List UInt8} {u : Nat} {fz : Bool} {g : G} {i : Info} {ik : IntKind} {tys : Array TypeId} (h0 : tys[0]? = some pt) (hpt : tb.und pt = some (.pointer el)) (hr : Rel E g w) (hf : Fresh E nx)
    (hg : g n = some (.cells c el u fz)) (hi : E.at_ n = some i) (hsz : tb.size el = some 1) (hk : 0 < k) (hk' : k ≤ 1000000) (hc : cut c 0 k = some bs) (hb : bytesOf bs = some s) :
    ∃ w', (Builtin.unsafeString_ tys rt #[.pointer (some ⟨i.blk, 0, none⟩), .int ik (Int.ofNat k)]).run P w = .ok (.string ⟨s.toArray⟩) w' ∧ Step E g nx w E (upd g n (.cells c el u true)) nx w' := by
  obtain ⟨i', hi', hu, rc, fr, h1, h2, h3, xs, rest, hx, hrc⟩ := hr.obj n _ hg
  rw [hi] at hi'; cases hi'
  obtain ⟨hbs, hbl⟩ := cut_some hc
  have hrl : rc.toList.length = xs.length + rest.length := by rw [hrc]; simp
  have hkc : k ≤ xs.length := by
    rw [hx.length]
    have : bs.length ≤ c.length := by rw [hbs]; simp; omega
    omega
  have hcz : P.cellsOf el = 1 := by
    unfold Tab.size at hsz
    cases hinf : tb.inf el with
    | none => simp [hinf] at hsz
    | some inf => simp [hinf] at hsz; simp [Program.cellsOf, hT.inf _ _ hinf, hsz]
  have hv : (variablesAt ⟨i.blk, 0, none⟩ el k).run P w = .ok true w := by
    have hl := lies_same (P := P) (e := el) (cells := rc.size) (k := k) (by omega) (by rw [hcz]; simp at hrl ⊢; omega)
    simp [variablesAt, shape_of h1, hl]
  have hload := loadBytes_ok (P := P) (w := w) (b := i.blk) k 0 ByteArray.empty hb (E := E) (xs := xs.take k) (by rw [hbs]; simpa using hx.take k) hbl (fun j y hj => by
    rw [cell_of h1, Nat.zero_add]
    have hj' : j < k := by
      have := (List.getElem?_eq_some_iff.1 hj).1
      simp at this; omega
    rw [List.getElem?_take, if_pos hj'] at hj
    rw [← Array.getElem?_toList, hrc, List.getElem?_append_left (List.getElem?_eq_some_iff.1 hj).1]
    exact hj)
  have hel : (elemOf pt).run P w = .ok el w := by simp [elemOf, run_underlying (hT.und _ _ hpt)]
  refine ⟨w.freeze ⟨i.blk, 0, none⟩ k, ?_, Step.write hr hf hg hi ⟨?_, ?_, ?_, ?_⟩ ?_ ?_⟩
  · have n1 : ¬ ((k : Int) < 0) := by omega
    have n2 : ¬ ((k : Int) > IntKind.i64.max) := by rw [IntKind.max_i64]; omega
    have n3 : ¬ ((k : Int) = 0) := by omega
    rw [show Builtin.unsafeString_ tys rt #[.pointer (some ⟨i.blk, 0, none⟩), .int ik (Int.ofNat k)] = (asInt (.int ik (Int.ofNat k)) >>= _) from rfl]
    simp only [asInt, asIntOf, h0, Sem.run_bind, Sem.run_pure, Result.andThen_ok, Int.ofNat_eq_natCast, if_neg n1, if_neg n2, if_neg n3, hel, Int.toNat_natCast, hv, if_true, hload, run_freeze]
    simp
  · simp [World.freeze]; split <;> rfl
  · simp [World.freeze]; split <;> rfl
  · simp [World.freeze]; split <;> rfl
  · simp [World.freeze]; split <;> simp
  · intro b hb'
    simp only [World.freeze]
    split
    · rfl
    · simp [Array.getElem?_modify, Ne.symm hb']
  · have hk0 : ¬ k = 0 := by omega
    obtain ⟨fr', hfr'⟩ : ∃ fr', (w.freeze ⟨i.blk, 0, none⟩ k).heap[i.blk]? = some (.cells rc el fr') := by
      obtain ⟨lo, hh⟩ := fr
      simp only [World.freeze, if_neg hk0, Array.getElem?_modify, if_true, h1, Option.map_some]
      exact ⟨_, rfl⟩
    exact ⟨hu, rc, fr', hfr', h2, by simp, xs, rest, hx, hrc⟩
theorem clear_ok {ty rt el nx k : Nat} {g : H} {z c c' : List V} {n off cap : Nat} {e u : Nat} {i : Info} {tys : Array TypeId} (h0 : tys[0]? = some ty) (hty : tb.und ty = some (.slice el)) (hr : Rel E g.get w) (hf : Fresh E nx)
    (hz : zerosOf tb el = some z) (hl : z.all leafV = true) (hg : g.get n = some (.cells c e u false)) (hi : E.at_ n = some i) (hp : putAt off c (rep z (k + 1)) = some c') :
    ∃ w', (Builtin.clear_ tys rt #[.slice (some ⟨i.blk, off, none⟩) (k + 1) cap]).run P w = .ok (.tuple #[]) w' ∧ Step E g.get nx w E (upd g.get n (.cells c' e u false)) nx w' := by
  obtain ⟨rz, xs, hrz, hcs, hx, hone, _⟩ := zeros_ok (E := E) hT hz w
  have h1 : ∀ y ∈ List.flatten (List.replicate (k + 1) xs), y.oneCell' = true := by
    intro y hy
    obtain ⟨l, hl1, hl2⟩ := List.mem_flatten.1 hy
    rw [(List.mem_replicate.1 hl1).2] at hl2
    exact hone y hl2
  obtain ⟨w', hst, hstep⟩ := write_row (P := P) hr hf hg hi hp (rep_ok hx (k + 1)) h1
  refine ⟨w', ?_, hstep⟩
  have hzc : (Builtin.zeroCells rz.cells (k + 1)).toList = List.flatten (List.replicate (k + 1) xs) := by
    simp only [Builtin.zeroCells, hcs]
    rw [zeros_eq xs (k + 1) _ (by simp)]
  simp only [Builtin.clear_, h0, List.getElem?_toArray, List.getElem?_cons_zero, Sem.run_bind, run_underlying (hT.und _ _ hty), Result.andThen_ok, hrz, hzc, hst, Sem.run_pure]
theorem copy_ok {ty rt el nx k sz : Nat} {g : H} {src : V} {rsrc : Value} {new c c' : List V} {n off len cap b : Nat} {e u : Nat} {i : Info} {tys : Array TypeId} (h0 : tys[0]? = some ty) (hty : tb.und ty = some (.slice el)) (hG : GR tb E w) (hr : Rel E g.get w) (hf : Fresh E nx)
    (hsz : tb.size el = some sz) (hb : lenOf src = some b) (hk : k = min b len) (vs : VR E src rsrc) (hsrc : srcCells tb g sz src k = some new) (hl : new.all leafV = true) (hg : g.get n = some (.cells c e u false)) (hi : E.at_ n = some i)
    (hp : putAt off c new = some c') :
    ∃ w', (Builtin.copy_ tys rt #[.slice (some ⟨i.blk, off, none⟩) len cap, rsrc]).run P w = .ok (.int .i64 (Int.ofNat k)) w' ∧ Step E g.get nx w E (upd g.get n (.cells c' e u false)) nx w' := by
  subst hk
  obtain ⟨ys, hy, hv⟩ := src_ok (P := P) hsrc hG hr vs
  obtain ⟨w', hst, hstep⟩ := write_row (P := P) hr hf hg hi hp hv (one_of_leaves hv hl)
  refine ⟨w', ?_, hstep⟩
  have hmin : Nat.min b len = min b len := rfl
  simp only [Builtin.copy_, h0, List.getElem?_toArray, List.getElem?_cons_zero, List.getElem?_cons_succ, Sem.run_bind, run_underlying (hT.und _ _ hty), Result.andThen_ok, lenOf_ok (P := P) hb vs w, hmin, size_run hT hsz, hy]
  simp [hst, goInt]
end
end Ev
namespace Ev
open Go
theorem ins_ent {E : Env} {k v : V} {rk rv : Value} {born : Nat} (vk : VR E k rk) (vv : VR E v rv) : ∀ {es : List (V × V)} {ms : List MapEntry}, EntR E es ms → ∃ ms', EntR E (insE k v es) ms' ∧ ms'.Perm ({ key := rk, val := rv, born := born } :: ms)
  | [], ms, h => by
    rw [show ms = [] from h]
    exact ⟨[{ key := rk, val := rv, born := born }], ⟨_, _, rfl, vk, vv, rfl⟩, List.Perm.refl _⟩
  | e :: es, ms, h => by
    obtain ⟨m, rest, rfl, hk, hv, hr⟩ := h
    obtain ⟨a, b⟩ := e
    simp only [insE]
    cases keyLess k a with
    | true => exact ⟨_, ⟨_, _, rfl, vk, vv, _, _, rfl, hk, hv, hr⟩, List.Perm.refl _⟩
    | false =>
      obtain ⟨ms', h1, h2⟩ := ins_ent (born := born) vk vv hr
      exact ⟨m :: ms', ⟨_, _, rfl, hk, hv, h1⟩, (h2.cons m).trans (List.Perm.swap ..)⟩
section
variable {tb : Tab} {P : Program} (hT : TabOk tb P) {E : Env} {w : World}
include hT
theorem repl_ent [SR tb P E] {key : TypeId} {k v : V} {rk rv : Value} (vk : VR E k rk) (vv : VR E v rv) : ∀ {es es' : List (V × V)} {ms : List MapEntry}, replE tb key k v es = some es' → EntR E es ms →
    ∃ l1 m l2, ms = l1 ++ m :: l2 ∧ isKey P w key rk m = true ∧ m.key = rk ∧ EntR E es' (l1 ++ { m with key := rk, val := rv } :: l2)
  | [], _, _, h, _ => by simp [replE] at h
  | e :: es, es', ms, h, he => by
    obtain ⟨m, rest, rfl, hk, hv, hr⟩ := he
    simp only [replE] at h
    cases h1 : eqAt tb 50 key k e.1 with
    | none => simp [h1] at h
    | some b =>
      cases b with
      | true =>
        simp only [h1] at h
        cases h2 : V.eq k e.1 with
        | false => rw [h2] at h; cases h
        | true =>
          rw [h2, cond_true] at h
          cases h
          have hke := V.eq_eq _ _ h2
          have hmk : m.key = rk := VR.det e.1 _ _ hk (by rw [← hke]; exact vk)
          have hq := equal_ok (w := w) hT h1 vk hk
          exact ⟨[], m, rest, rfl, by simp [isKey, hq], hmk, _, _, rfl, vk, vv, hr⟩
      | false =>
        simp only [h1] at h
        cases h2 : replE tb key k v es with
        | none => simp [h2] at h
        | some r =>
          simp only [h2, Option.map_some, Option.some.injEq] at h
          subst h
          obtain ⟨l1, m', l2, rfl, h3, h4, h5⟩ := repl_ent vk vv h2 hr
          exact ⟨m :: l1, m', l2, rfl, h3, h4, _, _, rfl, hk, hv, h5⟩
omit hT in
theorem bits_leaf [SR tb P E] {k : V} {rk : Value} (h : tb.leafKey k = true) (vk : VR E k rk) (n : Nat) : Instr.sameBits n rk rk = true := by
  have hb : ∀ s : ByteArray, (s == s) = true := fun s => by
    show (s.data == s.data) = true
    exact beq_self_eq_true _
  rcases leaf_not (P := P) h vk with ⟨b, rfl⟩ | ⟨j, m, rfl⟩ | ⟨s, rfl⟩ <;> cases n <;> simp [Instr.sameBits, hb]
omit hT in
theorem bits_leaves [SR tb P E] : ∀ {ks : List V} {xs : List Value}, ks.all tb.leafKey = true → VRL E ks xs → ∀ n, ((xs.zip xs).all fun p => Instr.sameBits n p.1 p.2) = true
  | [], xs, _, h, n => by rw [show xs = [] from h]; rfl
  | k :: ks, xs, ha, h, n => by
    obtain ⟨y, ys, rfl, hy, hs⟩ := h
    simp only [List.all_cons, Bool.and_eq_true] at ha
    simp only [List.zip_cons_cons, List.all_cons, Bool.and_eq_true]
    exact ⟨bits_leaf (P := P) ha.1 hy n, bits_leaves ha.2 hs n⟩
omit hT in
theorem bits_key [SR tb P E] {key : TypeId} {k : V} {rk : Value} (h : keyOk tb key k = true) (vk : VR E k rk) : Instr.sameBits 10000 rk rk = true := by
  have agg : ∀ cs : List V, k = .agg cs → cs.all tb.leafKey = true → Instr.sameBits 10000 rk rk = true := by
    rintro cs rfl ha
    obtain ⟨xs, hx, rfl⟩ := vk
    rw [show (10000 : Nat) = 9999 + 1 from rfl]
    simp only [Instr.sameBits, beq_self_eq_true, Bool.true_and]
    exact bits_leaves (P := P) ha hx 9999
  unfold keyOk at h
  split at h
  · simp only [Bool.and_eq_true] at h; exact agg _ rfl h.2
  · split at h
    · simp only [Bool.and_eq_true] at h; exact agg _ rfl h.2
    · cases h
  · exact bits_leaf (P := P) h vk _
  · exact bits_leaf (P := P) h vk _
  · exact bits_leaf (P := P) h vk _
  · cases h
theorem mapUpdate_ok [SR tb P E] {ty key el n nx : Nat} {g : H} {es es' : List (V × V)} {k v : V} {rm rk rv : Value} (hu : tb.und ty = some (.map key el)) (hn : g.get n = some (.map es none)) (hk : keyOk tb key k = true) (hst : storeE tb key k v es = some es')
    (vm : VR E (.map n) rm) (vk : VR E k rk) (vv : VR E v rv) (hr : Rel E g.get w) (hf : Fresh E nx) :
    ∃ w', (Instr.mapUpdate ty rm rk rv).run P w = .ok () w' ∧ Step E g.get nx w E (g.set n (.map es' none)).get nx w' := by
  obtain ⟨i, hi, rfl⟩ := vm
  obtain ⟨i', hi', res, clock, hw, ⟨ms, hms, hp⟩, hpw, hlt⟩ := hr.obj n _ hn
  rw [hi] at hi'; cases hi'
  obtain ⟨d, hd⟩ : ∃ d, P.underlying key = some d := by
    unfold keyOk at hk
    cases hd : tb.und key with
    | none => simp [hd] at hk
    | some d => exact ⟨d, hT.und _ _ hd⟩
  have hru := run_underlying (hT.und _ _ hu) w
  have hck := checkKey_ok (w := w) hT hk vk false
  have hsz : i.blk < w.heap.size := (Array.getElem?_eq_some_iff.1 hw).1
  have fin : ∀ res' clock', MapR E es' res' clock' → Step E g.get nx w E (g.set n (.map es' none)).get nx { w with heap := w.heap.setIfInBounds i.blk (.map res' clock') } := by
    intro res' clock' hm
    rw [get_set_upd]
    refine Step.write hr hf hn hi ⟨rfl, rfl, rfl, by simp⟩ (fun b hb => by simp [Array.getElem?_setIfInBounds, Ne.symm hb]) ⟨res', clock', by simp [hsz], hm⟩
  have hpf : (ms.filter (isKey P w key rk)).Perm (res.toList.filter (isKey P w key rk)) := hp.filter _
  unfold storeE at hst
  split at hst
  · rename_i hs
    cases hst
    obtain ⟨h1, h2⟩ := scan_ok (w := w) hT vk hs hms
    have hfk := findKey_ok (w := w) hd res.toList fun m hm => h1 m (hp.mem_iff.2 hm)
    have hf0 : ms.filter (isKey P w key rk) = [] := List.map_eq_nil_iff.1 h2
    rw [hf0] at hpf
    rw [findR_none 0 (List.nil_perm.1 hpf)] at hfk
    refine ⟨_, ?_, fin (res.push { key := rk, val := rv, born := clock }) (clock + 1) ?_⟩
    · unfold Instr.mapUpdate
      simp [hru, getObj, Sem.run, hw, hck, hfk, setObj]
    · obtain ⟨ms', h3, h4⟩ := ins_ent (born := clock) vk vv hms
      refine ⟨⟨ms', h3, ?_⟩, ?_, ?_⟩
      · refine h4.trans ?_
        simp only [Array.toList_push]
        exact (hp.cons _).trans (List.perm_append_comm (l₁ := [_]))
      · simp only [Array.toList_push]
        rw [List.pairwise_append]
        refine ⟨hpw, List.pairwise_singleton .., fun a ha b hb => ?_⟩
        rw [List.mem_singleton] at hb
        subst hb
        have := hlt a ha
        simp only
        omega
      · intro e he
        simp only [Array.toList_push, List.mem_append, List.mem_singleton] at he
        rcases he with he | rfl
        · have := hlt e he; omega
        · simp
  · rename_i u hs
    obtain ⟨h1, y, ys, hy, hv, hnil⟩ := scan_ok (w := w) hT vk hs hms
    rw [show ys = [] from hnil] at hy
    have hfk := findKey_ok (w := w) hd res.toList fun m hm => h1 m (hp.mem_iff.2 hm)
    obtain ⟨m0, hm0⟩ : ∃ m0, ms.filter (isKey P w key rk) = [m0] := by
      have : (ms.filter (isKey P w key rk)).length = 1 := by have := congrArg List.length hy; simpa using this
      exact List.length_eq_one_iff.1 this
    have hm0' := hm0
    rw [hm0] at hpf
    have hff := List.singleton_perm.1 hpf
    obtain ⟨j, h3, h4, h5, _⟩ := findR_one 0 hff.symm
    rw [h3] at hfk
    obtain ⟨l1, m, l2, hmse, hmk, hmkey, hent⟩ := repl_ent (w := w) hT vk vv hst hms
    have hmm : m = m0 := by
      have : m ∈ ms.filter (isKey P w key rk) := List.mem_filter.2 ⟨by rw [hmse]; simp, hmk⟩
      rw [hm0'] at this
      exact List.mem_singleton.1 this
    subst hmm
    obtain ⟨hj1, hj2⟩ := List.getElem?_eq_some_iff.1 h4
    have hj : j < res.size := by simpa using hj1
    have hres : res[j]? = some m := by simpa using h4
    refine ⟨_, ?_, fin (res.modify j fun e => { e with key := rk, val := rv }) clock ?_⟩
    · unfold Instr.mapUpdate
      have hsb : Instr.sameBits 10000 m.key rk = true := by rw [hmkey]; exact bits_key (P := P) hk vk
      simp only [Nat.zero_add] at hfk
      simp [hru, getObj, Sem.run, hw, hck, hfk, setObj, Instr.keyThatStays, hres, hsb]
    · have hl : (res.modify j fun e => { e with key := rk, val := rv }).toList = res.toList.set j { m with key := rk, val := rv } := by
        apply List.ext_getElem?
        intro x
        rw [Array.getElem?_toList, Array.getElem?_modify, List.getElem?_set]
        by_cases hx : j = x
        · subst hx
          obtain ⟨_, he⟩ := Array.getElem?_eq_some_iff.1 hres
          simp [hj, he]
        · simp [hx]
      have hsplit : res.toList = res.toList.take j ++ m :: res.toList.drop (j + 1) := by
        rw [← hj2, List.getElem_cons_drop, List.take_append_drop]
      have hset : res.toList.set j { m with key := rk, val := rv } = res.toList.take j ++ { m with key := rk, val := rv } :: res.toList.drop (j + 1) := by
        rw [List.set_eq_take_append_cons_drop, if_pos hj1]
      refine ⟨⟨_, hent, ?_⟩, ?_, ?_⟩
      · rw [hl, hset]
        rw [hmse, hsplit] at hp
        have hp' : (l1 ++ l2).Perm (res.toList.take j ++ res.toList.drop (j + 1)) := by
          have := (List.perm_middle.symm.trans hp).trans List.perm_middle
          exact List.Perm.cons_inv this
        exact (List.perm_middle.trans (hp'.cons _)).trans List.perm_middle.symm
      · rw [hl]
        have hb : (res.toList.set j { m with key := rk, val := rv }).map (·.born) = res.toList.map (·.born) := by
          rw [hset]
          conv => rhs; rw [hsplit]
          simp
        have h6 : (res.toList.map (·.born)).Pairwise (· ≠ ·) := List.pairwise_map.2 hpw
        rw [← hb] at h6
        exact List.pairwise_map.1 h6
      · intro e he
        rw [hl] at he
        rcases List.mem_or_eq_of_mem_set he with he | rfl
        · exact hlt e he
        · exact hlt m (by rw [hsplit]; simp)
  · cases hst
theorem range_map_ok {ty key el n nx : Nat} {g : H} {es : List (V × V)} {l : Option Nat} {rm : Value} (hu : tb.und ty = some (.map key el)) (hn : g.get n = some (.map es l)) (vm : VR E (.map n) rm) (hr : Rel E g.get w) (hf : Fresh E nx) :
    ∃ x w', (Instr.range ty rm).run P w = .ok x w' ∧ Left E g.get nx w (.ptr nx 0) ((g.set n (.map es (some nx))).set nx (.iter n (Lft.of es) none)).get (nx + 1) x w' := by
  obtain ⟨i, hi, rfl⟩ := vm
  obtain ⟨res, clock, hw, hmr⟩ := map_at hn hr hi
  have hru := run_underlying (hT.und _ _ hu) w
  have hnn : n ≠ nx := Nat.ne_of_lt (lt_of_fresh hf hi)
  let j : Info := { blk := w.heap.size, size := 0, unit := 0, snap := (res, clock) }
  let w' : World := { w with heap := w.heap.push (.mapIter (some i.blk) clock #[] clock) }
  have hν := hf nx (Nat.le_refl _)
  have hle := Env.le_add (i := j) hν
  have hs1 : Step E g.get nx w (E.add nx j) (upd g.get nx (.iter n (Lft.of es) none)) (nx + 1) w' := by
    refine Step.alloc hr hf rfl rfl ⟨rfl, rfl, rfl⟩ ⟨i, #[], hle.2 n i hi, by simp [w', j], ?_⟩
    obtain ⟨⟨ms, h1, h2⟩, h3, h4⟩ := hmr.mono hle
    obtain ⟨ms', h1', h2'⟩ := LftR.of (f := revIn es) h1
    exact ⟨⟨ms', h1', by simp only [j]; rw [List.filter_eq_self.2 (fun e _ => by simp)]; exact h2'.trans h2⟩, h4, h3, fun p hp => by cases hp⟩
  have hlt : i.blk < w.heap.size := (Array.getElem?_eq_some_iff.1 hw).1
  have hs2 : Step (E.add nx j) (upd g.get nx (.iter n (Lft.of es) none)) (nx + 1) w' (E.add nx j) (upd (upd g.get nx (.iter n (Lft.of es) none)) n (.map es (some nx))) (nx + 1) w' := by
    refine Step.write hs1.rel hs1.fresh (n := n) (i := i) (o0 := .map es l) (by simp [upd, hnn, hn]) (hle.2 n i hi) (Grew.refl _) (fun _ _ => rfl) ?_
    refine ⟨j, E.add_at nx j, ?_, hmr.mono hle⟩
    show w'.heap[i.blk]? = _
    simp only [w']
    rw [Array.getElem?_push, if_neg (Nat.ne_of_lt hlt)]
    exact hw
  refine ⟨.pointer (some ⟨w.heap.size, 0, none⟩), w', ?_, E.add nx j, ⟨j, E.add_at nx j, rfl⟩, ?_⟩
  · unfold Instr.range
    simp [hru, getObj, Sem.run, hw, newObj, w']
  · rw [get_set_upd, get_set_upd]
    have : upd (upd g.get n (.map es (some nx))) nx (.iter n (Lft.of es) none) = upd (upd g.get nx (.iter n (Lft.of es) none)) n (.map es (some nx)) := by
      funext m
      simp only [upd]
      by_cases h1 : m = nx
      · subst h1; simp [Ne.symm hnn]
      · simp [h1]
    rw [this]
    exact hs1.trans hs2
omit hT in
theorem without_mem : ∀ (l pre : List (V × V)) (i : Nat) (e : V × V), l[i]? = some e → (e, pre ++ l.eraseIdx i) ∈ without pre l
  | [], _, i, e, h => by simp at h
  | x :: l, pre, 0, e, h => by
    simp at h; subst h
    simp [without]
  | x :: l, pre, i + 1, e, h => by
    simp only [List.getElem?_cons_succ] at h
    have := without_mem l (pre ++ [x]) i e h
    simp only [without, List.eraseIdx_cons_succ]
    refine List.mem_cons_of_mem _ ?_
    simpa using this
omit hT in
theorem EntR.get {E : Env} : ∀ {es : List (V × V)} {ms : List MapEntry}, EntR E es ms → ∀ {i : Nat} {m : MapEntry}, ms[i]? = some m → ∃ e, es[i]? = some e ∧ VR E e.1 m.key ∧ VR E e.2 m.val ∧ EntR E (es.eraseIdx i) (ms.eraseIdx i)
  | [], ms, h, i, m, hm => by rw [show ms = [] from h] at hm; simp at hm
  | e :: es, _, ⟨m0, rest, rfl, hk, hv, hr⟩, 0, m, hm => by
    simp at hm; subst hm
    exact ⟨e, rfl, hk, hv, hr⟩
  | e :: es, _, ⟨m0, rest, rfl, hk, hv, hr⟩, i + 1, m, hm => by
    simp only [List.getElem?_cons_succ] at hm
    obtain ⟨e', h1, h2, h3, h4⟩ := EntR.get hr hm
    exact ⟨e', h1, h2, h3, m0, rest.eraseIdx i, rfl, hk, hv, h4⟩
end
end Ev
