/-
  The abstract evaluator: a loop's run in parts.
-/
import Derived.Test.YtkgiaicagecmpaaGreatDoorEvMemo
set_option linter.unusedSectionVars false
set_option linter.unusedVariables false
set_option linter.unusedSimpArgs false
namespace Ev
open Go
def CallOk (P : Program) (M : Mem) (f : Nat) (xs : List Value) (y : Value) : Prop :=
  ∀ w : World, M.heap.size ≤ w.heap.size → (∀ b, b < M.heap.size → M.frz b → w.heap[b]? = M.heap[b]?) →
    Calls P f xs.toArray w fun e w' => e = .returned y ∧ Grew w w' ∧ ∀ b, b < w.heap.size → w'.heap[b]? = w.heap[b]?
theorem CallOk.le {P : Program} {M M' : Mem} {f : Nat} {xs : List Value} {y : Value} (h : CallOk P M f xs y) (hl : M.Le M') : CallOk P M' f xs y :=
  fun w g1 g2 => h w (Nat.le_trans hl.size g1) (hl.on g2)
theorem Contract.callOk {P : Program} {w0 : Base} {f : Nat} {args : List V} {v : V} (h : Contract P w0 f args v) {E : Env} (hE : StatOk w0 E) {xs : List Value} (hx : VRL E args xs) {y : Value} (hy : VR E v y) : CallOk P w0.toMem f xs y := by
  intro w h1 h2
  refine (h E w xs hE hx h1 h2).mono ?_
  rintro e w' ⟨r, rfl, hv, hg, hb⟩
  exact ⟨by rw [VR.det v r y hv hy], hg, hb⟩
theorem CallOk.contract {P : Program} {w0 : Base} {M : Mem} {f : Nat} {args : List V} {v : V} {xs : List Value} {y : Value} (h : CallOk P M f xs y) (hl : M.Le w0.toMem)
    (hx : ∀ E, StatOk w0 E → VRL E args xs) (hy : ∀ E, StatOk w0 E → VR E v y) : Contract P w0 f args v := by
  intro E w ys hE hys g1 g2
  have : ys = xs := VRL.det args ys xs hys (hx E hE)
  subst this
  refine (h.le hl w g1 g2).mono ?_
  rintro e w' ⟨rfl, hg, hb⟩
  exact ⟨y, rfl, hy E hE, hg, hb⟩
def Lies (w0 : Base) (n : Nat) (cs : List V) : Prop :=
  32 ≤ n ∧ n < 64 ∧ (w0.stat n).blk < w0.heap.size ∧ w0.frz (w0.stat n).blk ∧ ∃ rc e fr, w0.heap[(w0.stat n).blk]? = some (.cells rc e fr) ∧ ∀ E, StatOk w0 E → CellsR E cs rc
def fz (n : Nat) : Nat := n - 32
def FzOk (P : Program) (B : Base) (f : Nat) (args : List V) (sub : List (List V)) (v : V) : Prop :=
  ∀ w0 : Base, w0.sym = B.sym → B.toMem.Le w0.toMem → (∀ j cs, sub[j]? = some cs → Lies w0 (32 + j) (renL fz cs)) → Contract P w0 f (renL fz args) v
def subCells : List O → Option (List (List V))
  | [] => some []
  | .cells c _ _ _ :: r => match subCells r with
    | none => none
    | some l => some (c :: l)
  | _ :: _ => none
theorem subCells_get : ∀ {l : List O} {r : List (List V)} {j : Nat} {c : List V}, subCells l = some r → r[j]? = some c → ∃ e u z, l[j]? = some (.cells c e u z)
  | [], r, j, c, h, hj => by cases h; simp at hj
  | o :: l, r, j, c, h, hj => by
    cases o <;> simp only [subCells] at h <;> try (cases h; done)
    rename_i c' e u z
    cases hs : subCells l with
    | none => rw [hs] at h; cases h
    | some q =>
      rw [hs] at h
      cases h
      cases j with
      | zero => simp at hj; subst hj; exact ⟨e, u, z, rfl⟩
      | succ j => exact subCells_get (j := j) hs (by simpa using hj)
theorem subCells_len : ∀ {l : List O} {r : List (List V)}, subCells l = some r → r.length = l.length
  | [], r, h => by cases h; rfl
  | o :: l, r, h => by
    cases o <;> simp only [subCells] at h <;> try (cases h; done)
    cases hs : subCells l with
    | none => rw [hs] at h; cases h
    | some q => rw [hs] at h; cases h; simp [subCells_len hs]
mutual
def nmV (k : Nat) : V → Bool
  | .ptr n _ => Nat.ble 64 n && Nat.blt n (64 + k)
  | .slice n _ _ _ => Nat.ble 64 n && Nat.blt n (64 + k)
  | .map _ | .yld _ => false
  | .fn _ a b => nmL k a && nmL k b
  | .iface _ v => nmV k v
  | .agg cs => nmL k cs
  | .tup cs => nmL k cs
  | _ => true
def nmL (k : Nat) : List V → Bool
  | [] => true
  | v :: vs => nmV k v && nmL k vs
end
mutual
theorem VR.fz {E E2 : Env} {r : Nat → Nat} {k : Nat} (hs : E2.sym = E.sym) (h : ∀ j i, j < k → E.at_ (r (64 + j)) = some i → E2.at_ (32 + j) = some i) : ∀ (v : V) (x : Value), nmV k v = true → VR E (renV r v) x → VR E2 (renV fz v) x
  | .bool _, _, _, hx | .int _ _, _, _, hx | .str _, _, _, hx | .nilp, _, _, hx | .nils, _, _, hx | .nilm, _, _, hx | .nilf, _, _, hx | .nili, _, _, hx => hx
  | .sym i, x, _, hx => by show x = E2.sym i; rw [hs]; exact hx
  | .ptr n o, x, hn, ⟨i, hi, e⟩ => by
    simp only [nmV, Bool.and_eq_true] at hn
    have h1 := nble_le hn.1
    have h2 := nblt_lt hn.2
    have := h (n - 64) i (by omega) (by rw [show 64 + (n - 64) = n from by omega]; exact hi)
    exact ⟨i, by rw [Ev.fz, show n - 32 = 32 + (n - 64) from by omega]; exact this, e⟩
  | .slice n o l c, x, hn, ⟨i, hi, e⟩ => by
    simp only [nmV, Bool.and_eq_true] at hn
    have h1 := nble_le hn.1
    have h2 := nblt_lt hn.2
    have := h (n - 64) i (by omega) (by rw [show 64 + (n - 64) = n from by omega]; exact hi)
    exact ⟨i, by rw [Ev.fz, show n - 32 = 32 + (n - 64) from by omega]; exact this, e⟩
  | .map _, _, hn, _ => by simp [nmV] at hn
  | .yld _, _, hn, _ => by simp [nmV] at hn
  | .fn f a b, x, hn, ⟨xs, ys, ha, hb, e⟩ => by
    simp only [nmV, Bool.and_eq_true] at hn
    exact ⟨xs, ys, VRL.fz hs h a xs hn.1 ha, VRL.fz hs h b ys hn.2 hb, e⟩
  | .iface t v, x, hn, ⟨y, hy, e⟩ => ⟨y, VR.fz hs h v y hn hy, e⟩
  | .agg cs, x, hn, ⟨xs, hx, e⟩ => ⟨xs, VRL.fz hs h cs xs hn hx, e⟩
  | .tup cs, x, hn, ⟨xs, hx, e⟩ => ⟨xs, VRL.fz hs h cs xs hn hx, e⟩
theorem VRL.fz {E E2 : Env} {r : Nat → Nat} {k : Nat} (hs : E2.sym = E.sym) (h : ∀ j i, j < k → E.at_ (r (64 + j)) = some i → E2.at_ (32 + j) = some i) : ∀ (vs : List V) (xs : List Value), nmL k vs = true → VRL E (renL r vs) xs → VRL E2 (renL fz vs) xs
  | [], _, _, hx => hx
  | v :: vs, _, hn, ⟨y, ys, e, hy, hs'⟩ => by
    simp only [nmL, Bool.and_eq_true] at hn
    exact ⟨y, ys, e, VR.fz hs h v y hn.1 hy, VRL.fz hs h vs ys hn.2 hs'⟩
end
noncomputable def fits (ord : List Nat) (args : List V) (h : H) (nx : Nat) (pargs : List V) (psub : List O) : Bool :=
  V.eqL (renL (invN ord ord.length nx) pargs) args && matchSub (invN ord ord.length nx) h psub ord && Nat.ble ord.length 32
def patOk (pargs : List V) (psub : List O) : Bool :=
  nmL psub.length pargs && match subCells psub with
    | some cs => cs.all (nmL psub.length)
    | none => false
theorem matchSub_at {r : Nat → Nat} {h : H} : ∀ {os : List O} {ns : List Nat}, matchSub r h os ns = true → os.length = ns.length ∧ ∀ (j : Nat) (o : O) (n : Nat), os[j]? = some o → ns[j]? = some n → ∃ o', renO r o = some o' ∧ h.get n = some o'
  | [], [], _ => ⟨rfl, fun j o n hj => by simp at hj⟩
  | [], _ :: _, h => by cases h
  | _ :: _, [], h => by cases h
  | o :: os, n :: ns, h => by
    simp only [matchSub, Bool.and_eq_true] at h
    obtain ⟨h1, h2⟩ := matchSub_at h.2
    refine ⟨by simp [h1], fun j p m hj hm => ?_⟩
    cases j with
    | zero =>
      simp at hj hm
      subst hj; subst hm
      have := h.1
      split at this
      · rename_i o' ho
        split at this
        · rename_i x hx
          exact ⟨o', ho, by rw [hx, O.eq_eq _ _ this]⟩
        · cases this
      · cases this
    | succ j => exact h2 j p m (by simpa using hj) (by simpa using hm)
def memAt (w0 : Base) (E : Env) (w : World) (ord : List Nat) : Mem := ⟨w.heap, fun b => (b < w0.heap.size ∧ w0.frz b) ∨ ∃ n ∈ ord, ∃ i, E.at_ n = some i ∧ i.blk = b⟩
theorem memAt_le {w0 : Base} {E : Env} {g : G} {nx : Nat} {w : World} {ord : List Nat} (ho : Ok w0 E g nx w) : w0.toMem.Le (memAt w0 E w ord) := ⟨ho.inv.size, fun b hb hz => ⟨.inl ⟨hb, hz⟩, ho.inv.same b hb hz⟩⟩
theorem callOk_of_fits {P : Program} {w0 : Base} {E : Env} {h : H} {nx : Nat} {w : World} {f : Nat} {args : List V} {xs : List Value} {ord : List Nat} {pargs : List V} {psub : List O} {cs : List (List V)} {v : V} {y : Value}
    (ho : Ok w0 E h.get nx w) (hx : VRL E args xs) (hf : fits ord args h nx pargs psub = true) (hp : patOk pargs psub = true) (hs : subCells psub = some cs) (hFz : FzOk P w0 f pargs cs v) (hy : ∀ E', E'.sym = w0.sym → VR E' v y) :
    CallOk P (memAt w0 E w ord) f xs y := by
  simp only [fits, Bool.and_eq_true] at hf
  obtain ⟨⟨f1, f2⟩, f3⟩ := hf
  have f3 := nble_le f3
  obtain ⟨hl, hget⟩ := matchSub_at f2
  simp only [patOk, hs, Bool.and_eq_true] at hp
  obtain ⟨p1, p2⟩ := hp
  have hlen := subCells_len hs
  let st : Nat → Info := fun g => match ord[g - 32]? with
    | some n => (E.at_ n).getD { blk := 0, size := 0, unit := 0 }
    | none => { blk := 0, size := 0, unit := 0 }
  let w1 : Base := { toMem := memAt w0 E w ord, sym := w0.sym, stat := st }
  have rn : ∀ j n, ord[j]? = some n → invN ord ord.length nx (64 + j) = n := by
    intro j n hj
    have hlt := (List.getElem?_eq_some_iff.1 hj).1
    have b1 : Nat.blt (64 + j) 64 = false := by
      rw [← Bool.not_eq_true]; intro hb; have := nblt_lt hb; omega
    have b2 : Nat.blt (64 + j) (64 + ord.length) = true := Nat.ble_eq_true_of_le (by omega)
    unfold invN
    rw [b1, b2, cond_false, cond_true, show 64 + j - 64 = j from by omega, hj]
    rfl
  have hat : ∀ {E2 : Env}, StatOk w1 E2 → ∀ j i, j < psub.length → E.at_ (invN ord ord.length nx (64 + j)) = some i → E2.at_ (32 + j) = some i := by
    intro E2 h2 j i hj hi
    have hjo : ord[j]? = some ord[j] := List.getElem?_eq_getElem (by omega)
    rw [rn j _ hjo] at hi
    rw [h2.stat (32 + j) (by omega) (by omega)]
    show some (st (32 + j)) = _
    simp only [st]
    rw [show 32 + j - 32 = j from by omega, hjo]
    simp only [hi, Option.getD_some]
  have hC : Contract P w1 f (renL fz pargs) v := by
    refine hFz w1 rfl (memAt_le ho) fun j c hj => ?_
    obtain ⟨e, u, z, hoj⟩ := subCells_get hs hj
    have hjl := (List.getElem?_eq_some_iff.1 hoj).1
    have hjo : ord[j]? = some ord[j] := List.getElem?_eq_getElem (by omega)
    obtain ⟨o', hr, hg⟩ := hget j _ _ hoj hjo
    simp only [renO, Option.some.injEq] at hr
    subst hr
    obtain ⟨i, hi, hu, rc, fr, h1, h2, h3, xs', rest, hx', hrc⟩ := ho.rel.obj _ _ hg
    have hst : w1.stat (32 + j) = i := by
      show st (32 + j) = i
      simp only [st]
      rw [show 32 + j - 32 = j from by omega, hjo]
      simp only [hi, Option.getD_some]
    refine ⟨by omega, by omega, ?_, ?_, rc, e, fr, ?_, fun E2 h2' => ⟨xs', rest, ?_, hrc⟩⟩
    · rw [hst]; exact (Array.getElem?_eq_some_iff.1 h1).1
    · rw [hst]; exact .inr ⟨_, List.mem_of_getElem? hjo, i, hi, rfl⟩
    · rw [hst]; exact h1
    · exact VRL.fz (k := psub.length) (by rw [h2'.sym]; exact ho.sym.sym.symm) (hat h2') c xs' (List.all_eq_true.1 p2 c (List.mem_of_getElem? hj)) hx'
  have hone : ∀ i, oneV (w1.sym i) := fun i => by show oneV (w0.sym i); rw [← ho.sym.sym]; exact E.one i
  have hE2 : StatOk w1 (baseE w1 hone) := base_stat
  refine hC.callOk hE2 ?_ (hy _ rfl)
  refine VRL.fz (k := psub.length) (E := E) (by rw [hE2.sym]; exact ho.sym.sym.symm) (hat hE2) pargs xs p1 ?_
  rw [V.eqL_eq _ _ f1]
  exact hx
end Ev
namespace Ev
open Go
section
variable {tb : Tab} {P : Program} (hT : TabOk tb P)
include hT
theorem cut_run {t e sz n cap : Nat} {b : Option Addr} (hd : tb.und t = some (.slice e)) (hs : tb.size e = some sz) (hn : n ≤ cap) (j : IntKind) (w : World) :
    (Instr.sliceAt t (.slice b n cap) none (some (.int j (Int.ofNat n))) none).run P w = .ok (.slice b n cap) w := by
  have hu := hT.und _ _ hd
  have hb : (0 : Int) ≤ (n : Int) ∧ (n : Int) ≤ (cap : Int) := ⟨by omega, by omega⟩
  have h0 : (if cap = 0 then b else b.map (·.add (0 * sz))) = b := by
    split
    · rfl
    · cases b with
      | none => rfl
      | some a => simp [Addr.add]
  simp only [Instr.sliceAt, Sem.run_bind, run_underlying hu, Result.andThen_ok, Instr.slice, Instr.sliceBounds, Sem.run_pure, Instr.sliceBound, asInt, asIntOf, Int.ofNat_eq_natCast, size_run hT hs]
  simp only [if_pos hb, Sem.run_pure, Result.andThen_ok, Int.toNat_natCast, Nat.sub_zero]
  rw [h0]
theorem adr_run {t e sz n cap i : Nat} {a : Addr} (hd : tb.und t = some (.slice e)) (hs : tb.size e = some sz) (hi : i < n) (j : IntKind) (w : World) :
    (Instr.indexAt t (.slice (some a) n cap) (.int j (Int.ofNat i))).run P w = .ok (.pointer (some (a.add (i * sz)))) w := by
  have hu := hT.und _ _ hd
  have hin : (0 : Int) ≤ Int.ofNat i ∧ Int.ofNat i < (n : Int) := ⟨Int.natCast_nonneg i, Int.ofNat_lt.2 hi⟩
  simp only [Instr.indexAt, asIntOf, Sem.run_bind, Sem.run_pure, Result.andThen_ok, run_underlying hu, if_pos hin, size_run hT hs]
  rfl
end
noncomputable def leave0 (tb : Tab) (fn : Func) (o : Out) : Option R3 :=
  match o.1 with
  | .exit _ => none
  | _ => match o.2.m with
    | _ :: _ => none
    | [] => match resOf tb o.2.t o.2.h fn.results.toList with
      | some vs => some (packV vs, o.2.h, o.2.nx)
      | none => none
noncomputable def tailRun (tb : Tab) (rounds n : Nat) (fn : Func) (rest : Code) (s : S) : Option (List R3) :=
  match code { tb := tb, rc := recN tb rounds n, inRound := none, rounds := rounds } rest s with
  | none => none
  | some outs => mapO (leave0 tb fn) outs
section
variable {tb : Tab} {P : Program} {w0 : Base} (hT : TabOk tb P) (hF : FnOk tb P w0)
include hT hF
theorem tail_wp {rounds n : Nat} {fn : Func} {rest : Code} {s : S} {rs : List R3} (h : tailRun tb rounds n fn rest s = some rs) {E : Env} {a : Act} {w : World} (ho : Ok w0 E s.h.get s.nx w) (ht : TR E s.t a.tmps) (hm : s.m = []) (hd : a.defers = [])
    (hdst : dstOk a.tmps.size rest = true) {R : Ending → World → Prop} (hQ : ∀ r ∈ rs, ∀ (x : Value) (E' : Env) (w' : World), VR E' r.1 x → Step E s.h.get s.nx w E' r.2.1.get r.2.2 w' → R (.returned x) w') :
    rest.wp P (bodyPost P fn R) a w := by
  unfold tailRun at h
  split at h
  · cases h
  · rename_i outs hc
    refine (wpIn_wide (n := 0)).1 ?_
    have hfr : FR none = Fence.wide := rfl
    rw [← hfr]
    refine wpIn_mono (code_ok (cx := { tb := tb, rc := recN tb rounds n, inRound := none, rounds := rounds }) (r := none) hT hF (recN_ok hT hF (rounds := rounds) n) rfl rfl (N := a.tmps.size) rest rfl hc ho ht (by rw [hm, hd]; rfl) rfl hdst) ?_
    rintro e a1 w1 ⟨o, hmem, rfl, E1, hat⟩
    obtain ⟨r, hr, hrm⟩ := mapO_mem h o hmem
    obtain ⟨xo, so⟩ := o
    unfold leave0 at hr
    have hx : xo = .normal ∨ xo = .ret := by
      cases xo with
      | normal => exact .inl rfl
      | ret => exact .inr rfl
      | exit id => cases hr
    have hr : (match so.m with
      | _ :: _ => none
      | [] => match resOf tb so.t so.h fn.results.toList with
        | some vs => some (packV vs, so.h, so.nx)
        | none => none : Option R3) = some r := by rcases hx with rfl | rfl <;> exact hr
    split at hr
    · cases hr
    · rename_i hsm
      split at hr
      · rename_i vs hres
        cases hr
        obtain ⟨x, hx1, hx2⟩ := results_ok (P := P) hT hat.tr hat.step.rel hres
        have hda : a1.defers = [] := by
          have := hat.marks
          rw [hsm] at this
          exact this
        have key : a1.defers = [] ∧ ∃ v, (results fn a1.tmps).run P w1 = .ok v w1 ∧ R (.returned v) w1 := ⟨hda, x, hx1, hQ _ hrm x E1 w1 hx2 hat.step⟩
        rcases hx with rfl | rfl
        · exact key
        · exact key
      · cases hr
end
def RetM (M : Mem) (w : World) (Q : Value → Mem → Prop) (e : Ending) (w' : World) : Prop :=
  ∃ y M', e = .returned y ∧ Grew w w' ∧ (∀ b, b < w.heap.size → w'.heap[b]? = w.heap[b]?) ∧ M'.heap = w'.heap ∧ M.Le M' ∧ (∀ b, M'.frz b → (b < M.heap.size ∧ M.frz b) ∨ (w.heap.size ≤ b ∧ b < w'.heap.size)) ∧ Q y M'
structure Mem.On (M : Mem) (w : World) : Prop where
  size : M.heap.size ≤ w.heap.size
  same : ∀ b, b < M.heap.size → M.frz b → w.heap[b]? = M.heap[b]?
theorem Mem.On.le {M M' : Mem} {w : World} (h : M'.On w) (hl : M.Le M') : M.On w := ⟨Nat.le_trans hl.size h.size, hl.on h.same⟩
theorem Mem.On.self (w : World) (f : Nat → Prop) : (⟨w.heap, f⟩ : Mem).On w := ⟨Nat.le_refl _, fun _ _ _ => rfl⟩
noncomputable def mkH : List (Nat × O) → H
  | [] => .e
  | e :: r => (mkH r).set e.1 e.2
theorem mkH_mem : ∀ {l : List (Nat × O)} {n : Nat} {o : O}, (mkH l).get n = some o → (n, o) ∈ l
  | [], n, o, h => by rw [mkH, T.get_e] at h; cases h
  | e :: l, n, o, h => by
    rw [mkH, T.get_set] at h
    by_cases hf : n = e.1
    · subst hf
      simp at h
      subst h
      exact List.mem_cons_self ..
    · rw [if_neg hf] at h
      exact List.mem_cons_of_mem _ (mkH_mem h)
theorem RmOk.fresh {P : Program} {w0 : Base} {f : Nat} {e : RM} (h : RmOk P w0 f e) (ho : ∀ i, oneV (w0.sym i)) (hs : e.sub = []) {xs : List Value} (hx : ∀ E, StatOk w0 E → VRL E e.args xs) {w : World} (hw : w0.toMem.On w) :
    Calls P f xs.toArray w fun en w' => ∃ x E2, en = .returned x ∧ Grew w w' ∧ (∀ b, b < w.heap.size → w'.heap[b]? = w.heap[b]?) ∧ VR E2 e.v x ∧ Ok w0 E2 (mkH e.out).get (64 + e.made) w' ∧
      (∀ n o i, (n, o) ∈ e.out → E2.at_ n = some i → w.heap.size ≤ i.blk) := by
  have hok := base_ok (h := ho) hw.size hw.same
  have h := h (baseE w0 ho) w xs (by rw [hs]; exact hok) (hx _ base_stat)
  rw [hs] at h
  refine h.mono ?_
  rintro en w' ⟨x, rfl, E2, g2, hv, hst, hout⟩
  have hfr : ∀ b, b < w.heap.size → w'.heap[b]? = w.heap[b]? := fun b hb => hst.frame b hb (by
    rintro ⟨n, o, i, hn, _⟩
    have : (T.e : H).get n = some o := hn
    rw [T.get_e] at this; cases this)
  refine ⟨x, E2, rfl, hst.grew, hfr, hv, (hok.step hst).sub fun n o hn => hout _ (mkH_mem hn), fun n o i hm hi => ?_⟩
  rcases Nat.lt_or_ge i.blk w.heap.size with hlt | hge
  · exfalso
    obtain ⟨n', o', i', hn', _⟩ := hst.foot i.blk hlt ⟨n, o, i, hout _ hm, hi, rfl⟩
    have : (T.e : H).get n' = some o' := hn'
    rw [T.get_e] at this; cases this
  · exact hge
end Ev
namespace Ev
open Go
structure Box where
  blk : Nat
  cs : List V
  xs : List Value
  ty : Nat
def Box.key (b : Box) : List V × Nat := (b.cs, b.ty)
noncomputable def boxH : Nat → List (List V × Nat) → H
  | _, [] => .e
  | k, b :: l => (boxH (k + 1) l).set k (.cells b.1 b.2 0 false)
theorem boxH_get : ∀ {l : List (List V × Nat)} {k n : Nat} {o : O}, (boxH k l).get n = some o → ∃ j b, l[j]? = some b ∧ n = k + j ∧ o = .cells b.1 b.2 0 false
  | [], k, n, o, h => by rw [boxH, T.get_e] at h; cases h
  | b :: l, k, n, o, h => by
    rw [boxH, T.get_set] at h
    by_cases hn : n = k
    · rw [if_pos hn] at h
      cases h
      exact ⟨0, b, rfl, hn, rfl⟩
    · rw [if_neg hn] at h
      obtain ⟨j, b', h1, h2, h3⟩ := boxH_get h
      exact ⟨j + 1, b', by simpa using h1, by omega, h3⟩
def boxE (B : Base) (h : ∀ i, oneV (B.sym i)) (l : List Box) : Env :=
  { at_ := fun n => if n < 32 then some { blk := n, size := 0, unit := 0 } else if n < 64 then some (B.stat n) else match l[n - 64]? with
      | some b => some { blk := b.blk, size := b.xs.length, unit := 0 }
      | none => none
    sym := B.sym, one := h }
theorem boxE_stat {B : Base} {h : ∀ i, oneV (B.sym i)} {l : List Box} : StatOk B (boxE B h l) := ⟨rfl, fun g h1 h2 => by
  show (if g < 32 then _ else if g < 64 then _ else _) = _
  rw [if_neg (by omega), if_pos h2]⟩
theorem boxE_at {B : Base} {h : ∀ i, oneV (B.sym i)} {l : List Box} {j : Nat} {b : Box} (hj : l[j]? = some b) : (boxE B h l).at_ (64 + j) = some { blk := b.blk, size := b.xs.length, unit := 0 } := by
  show (if 64 + j < 32 then _ else if 64 + j < 64 then _ else _) = _
  rw [if_neg (by omega), if_neg (by omega), show 64 + j - 64 = j from by omega, hj]
structure BoxesOk (B : Base) (w : World) (l : List Box) : Prop where
  on : B.toMem.On w
  heap : ∀ b ∈ l, w.heap[b.blk]? = some (.cells b.xs.toArray b.ty (0, 0))
  val : ∀ b ∈ l, ∀ E, StatOk B E → VRL E b.cs b.xs
  inj : ∀ (i j : Nat) (a b : Box), l[i]? = some a → l[j]? = some b → a.blk = b.blk → i = j
  free : ∀ b ∈ l, ¬ (b.blk < B.heap.size ∧ B.frz b.blk)
theorem boxes_foot {B : Base} {h : ∀ i, oneV (B.sym i)} {l : List Box} {b : Nat} (hf : Foot (boxE B h l) (boxH 64 (l.map Box.key)).get b) : ∃ x ∈ l, x.blk = b := by
  obtain ⟨n, o, i, hn, hi, rfl⟩ := hf
  obtain ⟨j, kb, hj, rfl, rfl⟩ := boxH_get hn
  rw [List.getElem?_map] at hj
  cases hb : l[j]? with
  | none => rw [hb] at hj; cases hj
  | some x =>
    rw [boxE_at hb] at hi
    cases hi
    exact ⟨x, List.mem_of_getElem? hb, rfl⟩
theorem boxes_ok {B : Base} {h : ∀ i, oneV (B.sym i)} {w : World} {l : List Box} (hb : BoxesOk B w l) : Ok B (boxE B h l) (boxH 64 (l.map Box.key)).get (64 + l.length) w := by
  have hget : ∀ {n : Nat} {o : O}, (boxH 64 (l.map Box.key)).get n = some o → ∃ j b, l[j]? = some b ∧ n = 64 + j ∧ o = .cells b.cs b.ty 0 false := by
    intro n o hn
    obtain ⟨j, kb, hj, rfl, rfl⟩ := boxH_get hn
    rw [List.getElem?_map] at hj
    cases hx : l[j]? with
    | none => rw [hx] at hj; cases hj
    | some x =>
      rw [hx] at hj
      cases hj
      exact ⟨j, x, hx, rfl, rfl⟩
  refine ⟨⟨fun n o hn => ?_, fun n m o p i j hn hm hi hj hbl => ?_⟩, fun n hn => ?_, fun g hg => ⟨{ blk := g, size := 0, unit := 0 }, by show (if g < 32 then _ else _) = _; rw [if_pos hg], rfl⟩, ⟨hb.on.size, hb.on.same, fun b hbb hz hf => ?_⟩, boxE_stat⟩
  · obtain ⟨j, b, hj, rfl, rfl⟩ := hget hn
    have hm := List.mem_of_getElem? hj
    exact ⟨_, boxE_at hj, rfl, _, _, hb.heap b hm, by simp, fun _ => rfl, b.xs, [], hb.val b hm _ boxE_stat, by simp⟩
  · obtain ⟨a, x, ha, rfl, rfl⟩ := hget hn
    obtain ⟨c, y, hc, rfl, rfl⟩ := hget hm
    rw [boxE_at ha] at hi
    rw [boxE_at hc] at hj
    cases hi; cases hj
    rw [hb.inj a c x y ha hc hbl]
  · show (if n < 32 then _ else if n < 64 then _ else _) = _
    rw [if_neg (by omega), if_neg (by omega)]
    rw [List.getElem?_eq_none (by omega)]
  · obtain ⟨x, hx, rfl⟩ := boxes_foot hf
    exact hb.free x hx ⟨hbb, hz⟩
end Ev
namespace Ev
open Go
noncomputable def iterTo (f : S → Option (List Out)) (s0 : S) : Nat → List S → List Out → Option (List S × List Out)
  | 0, l, acc => some (l, acc)
  | n + 1, l, acc => match eachL f l with
    | none => none
    | some outs => iterTo f s0 n (mergeS s0 (outs.filterMap Out.next)) (acc ++ outs.filter Out.gone)
theorem iter_nil (f : S → Option (List Out)) (s0 : S) (n : Nat) (acc : List Out) : iter f s0 n [] acc = some acc := by cases n <;> rfl
theorem iter_to {f : S → Option (List Out)} {s0 : S} : ∀ {k n : Nat} {l : List S} {acc : List Out} {l' : List S} {acc' : List Out}, iterTo f s0 k l acc = some (l', acc') → iter f s0 (k + n) l acc = iter f s0 n l' acc'
  | 0, n, l, acc, l', acc', h => by
    cases h
    rw [Nat.zero_add]
  | k + 1, n, [], acc, l', acc', h => by
    simp only [iterTo, eachL] at h
    have h : iterTo f s0 k [] (acc ++ []) = some (l', acc') := h
    rw [List.append_nil] at h
    have := iter_to (n := n) h
    rw [iter_nil] at this ⊢
    exact this
  | k + 1, n, x :: l, acc, l', acc', h => by
    rw [show k + 1 + n = (k + n) + 1 from by omega]
    simp only [iterTo] at h
    simp only [iter]
    split at h
    · cases h
    · rename_i outs ho
      rw [ho]
      exact iter_to h
noncomputable def statesEq : List S → List S → Bool
  | [], [] => true
  | a :: l, b :: m => S.eq a b && statesEq l m
  | _, _ => false
theorem statesEq_eq : ∀ {l m : List S}, statesEq l m = true → l = m
  | [], [], _ => rfl
  | [], _ :: _, h => by cases h
  | _ :: _, [], h => by cases h
  | a :: l, b :: m, h => by
    simp only [statesEq, Bool.and_eq_true] at h
    rw [S.eq_eq h.1, statesEq_eq h.2]
noncomputable def cutB (f : S → Option (List Out)) (s0 : S) (n : Nat) (l l' : List S) : Bool :=
  match iterTo f s0 n l [] with
  | some (m, []) => statesEq m l'
  | _ => false
theorem cutB_ok {f : S → Option (List Out)} {s0 : S} {n k : Nat} {l l' : List S} (h : cutB f s0 n l l' = true) : iter f s0 (n + k) l [] = iter f s0 k l' [] := by
  unfold cutB at h
  split at h
  · rename_i m hm
    rw [iter_to hm, statesEq_eq h]
  · cases h
noncomputable def runs (c : Ctx) : List Code → S → Option S
  | [], s => some s
  | a :: l, s => match code c a s with
    | some [(.normal, s')] => runs c l s'
    | _ => none
theorem code_seq1 {c : Ctx} {a b : Code} {s s' : S} (h : code c a s = some [(.normal, s')]) : code c (.seq a b) s = code c b s' := by
  simp only [code, h, eachL]
  cases code c b s' <;> rfl
def blockOut (id : Nat) (o : Out) : Out := match o.1 with
  | .exit j => cond (Nat.beq j id) (.normal, o.2) o
  | _ => o
structure Cut where
  r0 : Code
  r1 : Code
  r2 : Code
  r3 : Code
  id : Nat
  b : Code
  d : Code
def Cut.body (k : Cut) : Code := .seq k.r0 (.seq k.r1 (.seq k.r2 (.seq (.seq k.r3 (.block k.id (.loop k.b))) k.d)))
def cutOf : Code → Cut
  | .seq r0 (.seq r1 (.seq r2 (.seq (.seq r3 (.block id (.loop b))) d))) => ⟨r0, r1, r2, r3, id, b, d⟩
  | c => ⟨c, c, c, c, 0, c, c⟩
noncomputable def endB (tb : Tab) (c : Ctx) (k : Cut) (fn : Func) (e : RM) (outs : Option (List Out)) : Bool :=
  match outs with
  | none => false
  | some outs => match outs.map (blockOut k.id) with
    | [(.normal, s)] => match code c k.d s with
      | none => false
      | some l => match mapO (leaveFn tb fn) l with
        | none => false
        | some rs => match oneR (T.ofList .e 64 e.sub) rs with
          | some (v, h', nx') => V.eq v e.v && Nat.beq nx' (64 + e.sub.length + e.made) && outIn h' e.out
          | none => false
    | _ => false
noncomputable def preB (c : Ctx) (k : Cut) (fn : Func) (e : RM) (s : S) : Bool :=
  Nat.ble e.args.length fn.ntmps && dstOk fn.ntmps k.body && match runs c [k.r0, k.r1, k.r2, k.r3] { t := T.ofList .e 0 e.args, h := T.ofList .e 64 e.sub, nx := 64 + e.sub.length, m := [] } with
    | some s' => S.eq s' s
    | none => false
theorem rm_cut {tb : Tab} {rounds n f : Nat} {e : RM} {fn : Func} {k : Cut} {s : S} (hfn : tb.fn f = some fn) (hb : fn.body = some k.body)
    (hp : preB { tb := tb, rc := recN tb rounds n, inRound := none, rounds := rounds } k fn e s = true)
    (hl : endB tb { tb := tb, rc := recN tb rounds n, inRound := none, rounds := rounds } k fn e (iter (code { tb := tb, rc := recN tb rounds n, inRound := none, rounds := rounds } k.b) s rounds [s] []) = true) : rmChk tb rounds (n + 1) f e = true := by
  generalize hc : ({ tb := tb, rc := recN tb rounds n, inRound := none, rounds := rounds } : Ctx) = c at *
  simp only [preB, Bool.and_eq_true] at hp
  obtain ⟨⟨p1, p2⟩, p3⟩ := hp
  split at p3
  · rename_i s' hs
    have := S.eq_eq p3
    subst this
    simp only [runs] at hs
    split at hs
    · rename_i s1 h1
      split at hs
      · rename_i s2 h2
        split at hs
        · rename_i s3 h3
          split at hs
          · rename_i s4 h4
            cases hs
            have hrounds : c.rounds = rounds := by rw [← hc]
            unfold endB at hl
            split at hl
            · cases hl
            · rename_i outs ho
              split at hl
              · rename_i s5 h5
                split at hl
                · cases hl
                · rename_i l hd
                  have hcode : code c k.body { t := T.ofList .e 0 e.args, h := T.ofList .e 64 e.sub, nx := 64 + e.sub.length, m := [] } = some l := by
                    unfold Cut.body
                    rw [code_seq1 h1, code_seq1 h2, code_seq1 h3]
                    have hblk : code c (.seq k.r3 (.block k.id (.loop k.b))) s3 = some [(.normal, s5)] := by
                      rw [code_seq1 h4]
                      have : code c (.block k.id (.loop k.b)) s' = (iter (code c k.b) s' c.rounds [s'] []).map fun outs => outs.map (blockOut k.id) := rfl
                      rw [this, hrounds, ho, Option.map_some, h5]
                    rw [code_seq1 hblk, hd]
                  split at hl
                  · cases hl
                  · rename_i rs hrs
                    split at hl
                    · rename_i v h' nx' hone
                      have hcall : (recN tb rounds (n + 1)).call f e.args (T.ofList .e 64 e.sub) (64 + e.sub.length) = some (v, h', nx') := by
                        show callBody tb rounds (recN tb rounds n) f e.args _ _ = _
                        unfold callBody
                        rw [hfn]
                        simp only [hb, p1, p2, Bool.and_self, cond_true]
                        rw [hc, hcode]
                        simp only [hrs]
                        exact hone
                      unfold rmChk
                      rw [hcall]
                      exact hl
                    · cases hl
              · cases hl
          · cases hs
        · cases hs
      · cases hs
    · cases hs
  · cases p3
end Ev
