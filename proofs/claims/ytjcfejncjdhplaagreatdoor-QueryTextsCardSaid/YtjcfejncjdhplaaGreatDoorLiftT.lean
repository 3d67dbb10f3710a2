/-
  klippelaw53.QueryTexts: the arguments as the row reads them, and the law between them.
-/
import Derived.ProofKit
import Derived.OpenShut
import Derived.ChangeStays
import Derived.ChangeBook
import Derived.Deep.Slices
import Derived.Test.YtjcfejncjdhplaaGreatDoorKnoW
import Derived.Test.YtjcfejncjdhplaaGreatDoorQtxW
import Derived.Test.YtjcfejncjdhplaaGreatDoorRows
import Derived.Test.YtjcfejncjdhplaaGreatDoorRowAT
import Derived.LaidMore
import Derived.Stop.Joined
import Derived.Stop.LaidErr
import Derived.Deep.Strs
import Derived.Lib.SmallJoins
import Derived.Laws.IdiomArrays
import Derived.Lay
set_option linter.unusedSectionVars false
set_option linter.unusedVariables false
set_option linter.unusedSimpArgs false
namespace Go.Proofs.YtjcfejncjdhplaaGreatDoor
open Go Go.ChangeShapes Go.WideShapes Go.Deep
inductive Leaf where
  | int (k : IntKind)
  | bool
  | slice (t : TypeId)
def leavesFs (P : Program) (r : TypeId → Option (List Leaf)) : Nat → List Field → Option (List Leaf)
  | _, [] => some []
  | off, f :: fs => cond (Nat.beq f.offset off) (match r f.type with
    | none => none
    | some l => cond (Nat.beq l.length (P.cellsOf f.type)) ((leavesFs P r (off + l.length) fs).map (l ++ ·)) none) none
def leavesOf (P : Program) : Nat → TypeId → Option (List Leaf)
  | 0, _ => none
  | n + 1, t => match P.underlying t with
    | some (.int k) => some [.int k]
    | some .bool => some [.bool]
    | some (.slice _) => some [.slice t]
    | some (.array m e) => match leavesOf P n e with
      | none => none
      | some l => cond (Nat.beq l.length (P.cellsOf e) && Nat.beq (P.cellsOf t) (m * l.length)) (some (List.replicate m l).flatten) none
    | some (.struct fs) => match leavesFs P (leavesOf P n) 0 fs.toList with
      | none => none
      | some l => cond (Nat.beq l.length (P.cellsOf t)) (some l) none
    | _ => none
theorem nbeq {a b : Nat} (h : Nat.beq a b = true) : a = b := Nat.eq_of_beq_eq_true h
section
variable {H : Type} {enc : TypeId × Value → H} {P : Program} {w : World} {base : Nat} {spare : Nat → Bool} {held : Bool}
def LeafOk (enc : TypeId × Value → H) (P : Program) (w : World) (base : Nat) (spare : Nat → Bool) (held : Bool) : Leaf → Value → Prop
  | .int k, c => ∃ n, c = .int k n ∧ (Lit.int k n).wf = true
  | .bool, c => ∃ b, c = .bool b
  | .slice t, c => ∃ fuel x, DataW.trod enc P w base spare held fuel t [c] = some x
def LeafAll (enc : TypeId × Value → H) (P : Program) (w : World) (base : Nat) (spare : Nat → Bool) (held : Bool) : List Leaf → List Value → Prop
  | [], [] => True
  | l :: ls, c :: cs => LeafOk enc P w base spare held l c ∧ LeafAll enc P w base spare held ls cs
  | _, _ => False
theorem LeafAll.append : ∀ {l l' : List Leaf} {c c' : List Value}, LeafAll enc P w base spare held l c → LeafAll enc P w base spare held l' c' → LeafAll enc P w base spare held (l ++ l') (c ++ c')
  | [], _, [], _, _, h => h
  | [], _, _ :: _, _, h, _ => h.elim
  | _ :: _, _, [], _, h, _ => h.elim
  | a :: l, _, c :: cs, _, h, h' => ⟨h.1, LeafAll.append h.2 h'⟩
theorem LeafAll.length : ∀ {l : List Leaf} {c : List Value}, LeafAll enc P w base spare held l c → l.length = c.length
  | [], [], _ => rfl
  | [], _ :: _, h => h.elim
  | _ :: _, [], h => h.elim
  | a :: l, c :: cs, h => by simp [LeafAll.length h.2]
theorem LeafAll.nil_inv {c : List Value} (h : LeafAll enc P w base spare held [] c) : c = [] := by
  cases c with
  | nil => rfl
  | cons _ _ => exact h.elim
theorem LeafAll.int_inv {k : IntKind} {l : List Leaf} {c : List Value} (h : LeafAll enc P w base spare held (.int k :: l) c) : ∃ n cs, c = .int k n :: cs ∧ (Lit.int k n).wf = true ∧ LeafAll enc P w base spare held l cs := by
  cases c with
  | nil => exact h.elim
  | cons x cs =>
    obtain ⟨⟨n, rfl, hw⟩, h2⟩ := h
    exact ⟨n, cs, rfl, hw, h2⟩
theorem LeafAll.slice_inv {t : TypeId} {l : List Leaf} {c : List Value} (h : LeafAll enc P w base spare held (.slice t :: l) c) : ∃ v cs, c = v :: cs ∧ (∃ fuel x, DataW.trod enc P w base spare held fuel t [v] = some x) ∧ LeafAll enc P w base spare held l cs := by
  cases c with
  | nil => exact h.elim
  | cons x cs => exact ⟨x, cs, rfl, h.1, h.2⟩
theorem leavesFs_ok {r : TypeId → Option (List Leaf)} (cs : List Value) {fs : List Field} {off : Nat} {l : List Leaf} (h : leavesFs P r off fs = some l) (hl : off + l.length = cs.length)
    (hr : ∀ f ∈ fs, ∀ l, r f.type = some l → LeafAll enc P w base spare held l ((cs.drop f.offset).take (P.cellsOf f.type))) : LeafAll enc P w base spare held l (cs.drop off) := by
  induction fs generalizing off l with
  | nil =>
    cases h
    rw [List.drop_eq_nil_of_le (by simp at hl; omega)]
    trivial
  | cons f fs ih =>
    simp only [leavesFs] at h
    cases hb : Nat.beq f.offset off with
    | false => rw [hb] at h; cases h
    | true =>
      rw [hb, cond_true] at h
      obtain rfl := nbeq hb
      split at h
      · cases h
      · rename_i l0 h0
        cases hc : Nat.beq l0.length (P.cellsOf f.type) with
        | false => rw [hc] at h; cases h
        | true =>
          rw [hc, cond_true] at h
          have hc := nbeq hc
          cases h1 : leavesFs P r (f.offset + l0.length) fs with
          | none => rw [h1] at h; cases h
          | some l1 =>
            rw [h1] at h
            cases h
            simp only [List.length_append] at hl
            have i1 := ih h1 (by omega) fun g hg => hr g (List.mem_cons_of_mem _ hg)
            have i0 := hr f (List.mem_cons_self ..) l0 h0
            rw [← hc] at i0
            have e : cs.drop f.offset = (cs.drop f.offset).take l0.length ++ cs.drop (f.offset + l0.length) := by
              rw [← List.drop_drop, List.take_append_drop]
            rw [e]
            exact i0.append i1
theorem arr_ok {l0 : List Leaf} : ∀ (m : Nat) (cs : List Value), cs.length = m * l0.length → (∀ i, i < m → LeafAll enc P w base spare held l0 ((cs.drop (i * l0.length)).take l0.length)) → LeafAll enc P w base spare held (List.replicate m l0).flatten cs
  | 0, cs, hl, _ => by
    have : cs = [] := List.length_eq_zero_iff.1 (by omega)
    subst this; trivial
  | m + 1, cs, hl, h => by
    rw [List.replicate_succ, List.flatten_cons, ← List.take_append_drop l0.length cs]
    have h0 := h 0 (by omega)
    rw [Nat.zero_mul, List.drop_zero] at h0
    refine h0.append (arr_ok m (cs.drop l0.length) ?_ fun i hi => ?_)
    · rw [List.length_drop, hl, Nat.succ_mul]; omega
    · have := h (i + 1) (by omega)
      rw [List.drop_drop, show l0.length + i * l0.length = (i + 1) * l0.length from by rw [Nat.succ_mul]; omega]
      exact this
theorem leavesOf_ok : ∀ {n : Nat} {t : TypeId} {l : List Leaf}, leavesOf P n t = some l → ∀ {fuel : Nat} {cs : List Value} {x : DataW H × List MemPlace}, DataW.trod enc P w base spare held fuel t cs = some x → LeafAll enc P w base spare held l cs := by
  intro n
  induction n with
  | zero => intro t l h; cases h
  | succ n ih =>
    intro t l h fuel cs x hx
    simp only [leavesOf] at h
    split at h
    · rename_i k hu
      cases h
      obtain ⟨z, rfl, _, hw⟩ := DataW.trod_int hu hx
      exact ⟨⟨z, rfl, hw⟩, trivial⟩
    · rename_i hu
      cases h
      obtain ⟨b, rfl, _⟩ := DataW.trod_bool hu hx
      exact ⟨⟨b, rfl⟩, trivial⟩
    · rename_i e hu
      cases h
      have : ∃ c, cs = [c] := by
        rcases DataW.trod_slice hu hx with ⟨h, _⟩ | ⟨a, len, cap, _, _, _, _, h, _⟩ <;> exact ⟨_, h⟩
      obtain ⟨c, rfl⟩ := this
      exact ⟨⟨fuel, x, hx⟩, trivial⟩
    · rename_i m e hu
      split at h
      · cases h
      · rename_i l0 h0
        cases hb : (Nat.beq l0.length (P.cellsOf e) && Nat.beq (P.cellsOf t) (m * l0.length)) with
        | false => rw [hb] at h; cases h
        | true =>
          rw [hb, cond_true] at h
          cases h
          simp only [Bool.and_eq_true] at hb
          have b1 := nbeq hb.1
          have b2 := nbeq hb.2
          obtain ⟨xs, k, _, _, hl, hn, hi⟩ := DataW.trod_array hu hx
          rw [b2] at hl
          rw [← b1] at hi
          have hi' : ∀ i, i < m → LeafAll enc P w base spare held l0 ((cs.drop (i * l0.length)).take l0.length) := fun i him => by
            have h1 := hi i him
            rw [List.getElem?_eq_getElem (by omega)] at h1
            exact ih h0 h1
          exact arr_ok m cs hl hi'
    · rename_i fs hu
      split at h
      · cases h
      · rename_i l0 h0
        cases hb : Nat.beq l0.length (P.cellsOf t) with
        | false => rw [hb] at h; cases h
        | true =>
          rw [hb, cond_true] at h
          cases h
          have b1 := nbeq hb
          obtain ⟨xs, k, _, _, hl, hn, hi⟩ := DataW.trod_struct hu hx
          have := leavesFs_ok (enc := enc) (w := w) (base := base) (spare := spare) (held := held) cs h0 (by omega) (fun f hf l1 h1 => by
            obtain ⟨i, hfi⟩ := List.mem_iff_getElem?.1 hf
            have h2 := hi i f (by simpa using hfi)
            have hlt := (List.getElem?_eq_some_iff.1 hfi).1
            rw [List.getElem?_eq_getElem (by rw [hn]; simpa using hlt)] at h2
            exact ih h1 h2)
          rwa [List.drop_zero] at this
    · cases h
theorem sameAt_of {W W' : World} {p : MemPlace} (h : W'.heap[p.block]? = W.heap[p.block]?) : W.sameAt W' p := by
  cases p with
  | cell b off =>
    have h : W'.heap[b]? = W.heap[b]? := h
    show W'.cell? ⟨b, off, none⟩ = W.cell? ⟨b, off, none⟩
    simp only [World.cell?, h]
  | map b => exact h
theorem trodAll_again {P : Program} (hl : laidOutB P = true) {W W' : World} (hs : ∀ b, b < W.heap.size → W'.heap[b]? = W.heap[b]?) {sp : Nat → Bool} : ∀ {ts : List TypeId} {vs : List Value} {ds : List (DataW H)} {ps : List MemPlace},
    (∀ t ∈ ts, P.readableRec t = true ∧ t < P.types.size) → DataW.TrodAll enc P W 0 (fun _ => true) true ts vs ds ps → (∀ p ∈ ps, sp p.block = true) → DataW.TrodAll enc P W' 0 sp true ts vs ds ps
  | [], [], [], _, _, h, _ => h
  | [], _ :: _, _, _, _, h, _ => h.elim
  | [], [], _ :: _, _, _, h, _ => h.elim
  | _ :: _, [], _, _, _, h, _ => h.elim
  | _ :: _, _ :: _, [], _, _, h, _ => h.elim
  | t :: ts, v :: vs, d :: ds, ps, hr, ⟨p, q, ⟨n, h1⟩, h2, e⟩, hp => by
    subst e
    obtain ⟨r1, r2⟩ := hr t (List.mem_cons_self ..)
    refine ⟨p, q, ⟨n, ?_⟩, trodAll_again hl hs (fun u hu => hr u (List.mem_cons_of_mem _ hu)) h2 (fun x hx => hp x (List.mem_append_right _ hx)), rfl⟩
    refine DataW.trod_stays (kids_book hl r1) (book_sized r1) (fun h => by cases h) ⟨r2, book_self t⟩ h1 (fun x hx => sameAt_of (hs _ (DataW.trod_lt _ _ _ _ h1 x hx))) (fun x hx => hp x (List.mem_append_left _ hx))
end
end Go.Proofs.YtjcfejncjdhplaaGreatDoor
namespace Go.Proofs.YtjcfejncjdhplaaGreatDoor
open Go.ChangeShapes Go.WideShapes Go.ChangeAt Go.WideMaps Go.WideElems Go.RowKit Go.Deep
theorem own : ownKnob Tryz.prog.godebug = none := by kernel_rfl
theorem met_heap {P : Program} {l : List (String × DataW Unit)} {w w' : World} (hh : w.heap = w'.heap) (h : laidMetH P l w) : laidMetH P l w' := h.of_heap hh
abbrev laidL : List (String × DataW Unit) := Rows.queryTextsRow.laid
theorem tab_of {W : World} (h : laidMetH Tryz.prog laidL W) : PTab W := by
  rw [MakeChecks.laidMetH_plain _ _ _ (by kernel_rfl)] at h
  exact Lib.tabIs_of_head gPow (by kernel_rfl) Tryz.underlying381 Tryz.underlying271 (by kernel_rfl) (by kernel_rfl) h
theorem keptBut_of {W W' : World} {may : MemPlace → Prop} (ho : W'.os = W.os) (hp : W'.output = W.output) (hb : ∀ b, b < W.heap.size → W'.heap[b]? = W.heap[b]?) : W.keptBut W' may := by
  refine ⟨ho, hp, fun i hi => ?_⟩
  rw [hb i hi]
  cases h : W.heap[i]? with
  | none => rfl
  | some o =>
    cases o with
    | cells c t fr => exact ⟨rfl, rfl, rfl, fun _ _ => rfl⟩
    | map es clock => exact .inr ⟨rfl, rfl⟩
    | _ => rfl
noncomputable abbrev doorW (os : Os) : World := World.laidAll Tryz.prog os laidL
abbrev args0 : Array Value := #[.agg #[.int .i64 0, .slice none 0 0, .slice none 0 0]]
theorem door_shaped (os : Os) : ((doorW os).forCall (fun _ _ => 0) ⟨#[], args0, []⟩).Shaped Tryz.prog := World.shaped_of_ZipB (by kernel_rfl) (by kernel_rfl)
theorem door_ok (os : Os) : Input.okWideB Tryz.prog ((doorW os).forCall (fun _ _ => 0) ⟨#[], args0, []⟩) 4 ⟨#[], args0, []⟩ = true := by kernel_rfl
theorem door_pre {H : Type} (enc : TypeId × Value → H) (os : Os) : Rows.queryTextsSpec.preB enc Tryz.prog Tryz.f4 [] false ((doorW os).forCall (fun _ _ => 0) ⟨#[], args0, []⟩).memory args0 8 = true := by kernel_rfl
theorem door_sized {H : Type} (enc : TypeId × Value → H) (os : Os) : Rows.queryTextsSpec.sizedB enc Tryz.prog Tryz.f4 false ((doorW os).forCall (fun _ _ => 0) ⟨#[], args0, []⟩).memory args0 8 = true := by kernel_rfl
theorem door_met (os : Os) (args : Array Value) : laidMetH Tryz.prog laidL ((doorW os).forCall (fun _ _ => 0) ⟨#[], args, []⟩).memory := by
  rw [MakeChecks.laidMetH_plain _ _ _ (by kernel_rfl)]
  exact laidMet_laidAll _ (by kernel_rfl) (by kernel_rfl)
theorem no_init : Tryz.prog.inits.idxOf? 4 = none := by kernel_rfl
theorem x_ok : ∀ (w w' : World) (args : Array Value), w.heap = w'.heap → laidMetH Tryz.prog laidL w → laidMetH Tryz.prog laidL w' := fun w w' _ hh h => @met_heap Tryz.prog laidL w w' hh h
theorem wit {H : Type} (enc : TypeId × Value → H) (os : Os) : ∃ (w : World) (tape : Tape) (i : Input), w.os = os ∧ (w.forCall tape i).Shaped Tryz.checked.prog ∧ i.vars = [] ∧ Input.okWide Tryz.checked.prog (w.forCall tape i) .any w.heap.size 4 i ∧
      ((Rows.queryTextsSpec.pre enc Tryz.checked.prog Tryz.f4 [] false (w.forCall tape i).memory i.args ∧ laidMetH Tryz.prog laidL (w.forCall tape i).memory) ∧ sizedMet enc Tryz.checked.prog Tryz.f4 (OpenSpec.ofChange Rows.queryTextsSpec) false (w.forCall tape i).memory i.args) ∧ ({} : Assume).holds Tryz.checked.prog (lone (Frame.enter Tryz.checked.prog 4 i.args .normal) [] (w.forCall tape i)) :=
  ChangeSpec.witness_shaped (enc := enc) (C := Tryz.checked) (os := os) (X := fun w _ => laidMetH Tryz.prog laidL w) false (doorW os) args0 8 (World.laidAll_os _ _ _) (door_shaped os) (door_ok os) (door_pre enc os) (door_sized enc os) (door_met os _)
def queryL : List Leaf := [.int .i64, .slice 23, .slice 24]
theorem query_leaves : leavesOf Tryz.prog 3 26 = some queryL := by kernel_rfl
theorem strs_und : Tryz.prog.underlying 23 = some (.slice 9) := by kernel_rfl
theorem nums_und : Tryz.prog.underlying 24 = some (.slice 46) := by kernel_rfl
theorem str_und : Tryz.prog.underlying 9 = some .string := by kernel_rfl
theorem num_und : Tryz.prog.underlying 46 = some .string := by kernel_rfl
theorem str_cells : Tryz.prog.cellsOf 9 = 1 := by kernel_rfl
theorem num_cells : Tryz.prog.cellsOf 46 = 1 := by kernel_rfl
theorem strs_of {H : Type} {enc : TypeId × Value → H} {P : Program} {W : World} {ts te : TypeId} (ht : P.underlying ts = some (.slice te)) (he : P.underlying te = some .string) (hc : P.cellsOf te = 1) {fuel : Nat} {c : Value} {x : DataW H × List MemPlace}
    (h : DataW.trod enc P W 0 (fun _ => true) true fuel ts [c] = some x) : ∃ l : List (List UInt8), Sts W c l ∧ l.length ≤ 9223372036854775807 := by
  rcases open_strs ht he hc h with ⟨h1, _⟩ | ⟨a, len, cap, m, S, h1, _, hl, hcm, hm, _, hx⟩
  · cases h1
    exact ⟨[], Sts.nil _, by simp⟩
  · cases h1
    simp only [if_true] at hm
    subst hm
    have hcm' : m ≤ 9223372036854775807 := by unfold maxLen at hcm; omega
    refine ⟨(List.range len).map fun i => (S i).data.toList, ⟨some a, m, by simp, by simpa using hl, (fun e => by cases e), fun h0 => ?_⟩, by simp; omega⟩
    simp only [List.length_map, List.length_range] at h0
    obtain ⟨b, o, sp⟩ := a
    have h2 := (hx 0 (by omega)).1
    have hsp : sp = none := by
      cases sp with
      | none => rfl
      | some k =>
        exfalso
        simp only [Addr.add, if_true] at h2
        unfold World.cell? at h2
        split at h2
        · simp at h2
        · cases h2
    subst hsp
    refine ⟨b, o, rfl, fun i hi => ?_⟩
    simp only [List.length_map, List.length_range] at hi
    have h3 := (hx i (by omega)).1
    rw [Lib.add_plain] at h3
    rw [h3]
    simp
theorem laid_out : laidOutB Tryz.prog = true := j2
theorem readable : ([26].all fun t => Tryz.prog.readableRec t && decide (t < Tryz.prog.types.size)) = true := by kernel_rfl
set_option maxRecDepth 100000 in
set_option maxHeartbeats 4000000 in
theorem lifted (os : Os) (started : os.Started) (H : Type) (enc : TypeId × Value → H) :
    ReturnsInHanded {} Tryz.checked os 4 .any (fun w args => (Rows.queryTextsSpec.pre enc Tryz.prog Tryz.f4 [] false w args ∧ laidMetH Tryz.prog laidL w) ∧ sizedMet enc Tryz.prog Tryz.f4 (OpenSpec.ofChange Rows.queryTextsSpec) false w args)
      (Rows.queryTextsSpec.post enc Tryz.prog Tryz.f4 false true false false) := by
  refine returnsInHanded_of_change_and (C := Tryz.checked) (X := fun w _ => laidMetH Tryz.prog laidL w) x_ok own started no_init Tryz.func4 (wit enc os) ?_
  intro W base args ds gs before hval0 hW _ _ hL _
  have hval : ∀ (j : Nat) t v, Tryz.f4.params[j]? = some t → args[j]? = some v → Value.okWide Tryz.prog W .any base t v := hval0
  have hW' := hW
  obtain ⟨p, q, hA0, hV, rfl, hfz, hnd⟩ := hW
  have hA : DataW.TrodAll enc Tryz.prog W 0 (fun _ => true) true Tryz.f4.params.toList args.toList ds p := hA0
  rw [Tryz.params4] at hA hval
  have hA1 := hA
  obtain ⟨v0, d0, rfl, rfl, ⟨f0, h0⟩⟩ := trodAll_one hA
  obtain ⟨rfl, rfl⟩ := trodVars_none hV
  obtain ⟨⟨c0⟩, rfl, _⟩ := okWide_struct Tryz.underlying26 (hval 0 _ v0 rfl rfl)
  have hlf : LeafAll enc Tryz.prog W 0 (fun _ => true) true queryL c0 := leavesOf_ok query_leaves h0
  obtain ⟨k, r0, rfl, hk, q0⟩ := hlf.int_inv
  obtain ⟨vu, r1, rfl, ⟨fu, xu, hxu⟩, q1⟩ := q0.slice_inv
  obtain ⟨vn, r2, rfl, ⟨fn, xn, hxn⟩, q2⟩ := q1.slice_inv
  obtain rfl := q2.nil_inv
  obtain ⟨us, hus, hul⟩ := strs_of strs_und str_und str_cells hxu
  obtain ⟨ns, hns, hnl⟩ := strs_of nums_und num_und num_cells hxn
  have ht := tab_of hL
  have law := texts_true k vu vn us ns W hus hns hul hnl ht (known_kp ht)
  refine Calls.mono law ?_
  rintro en W' ⟨rfl, hkp⟩
  refine ⟨_, rfl, _, _, _, [], p, [], hW', ?_, ?_, rfl, keptBut_of hkp.os hkp.output hkp.block, fun h => by cases h⟩
  · exact trodAll_mk1 (shut_bool Tryz.underlying4 true)
  · have hr : ∀ t ∈ [26], Tryz.prog.readableRec t = true ∧ t < Tryz.prog.types.size := fun t ht => by
      have := List.all_eq_true.1 readable t ht
      simpa using this
    have hargs := trodAll_again laid_out hkp.block (sp := fun b => decide (b < W.heap.size)) hr hA1 (fun x hx => by simpa using DataW.TrodAll.lt hA1 x hx)
    rw [Tryz.params4]
    exact hargs
end Go.Proofs.YtjcfejncjdhplaaGreatDoor
