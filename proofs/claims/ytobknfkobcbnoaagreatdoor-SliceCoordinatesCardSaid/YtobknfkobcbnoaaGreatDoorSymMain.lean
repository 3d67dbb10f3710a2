/-
  klippelaw32.SliceCoordinates at any ints of eight bits: true.
-/
import Derived.Test.YtobknfkobcbnoaaGreatDoorSymRows
import Derived.Test.YtobknfkobcbnoaaGreatDoorSymOfRun
import Derived.Test.YtobknfkobcbnoaaGreatDoorEvKnownA
set_option linter.unusedSectionVars false
set_option linter.unusedVariables false
set_option linter.unusedSimpArgs false
namespace Go.Proofs.YtobknfkobcbnoaaGreatDoor
open Go Ev Klp

theorem dpP_eq : dpP = dpG := by kernel_rfl
theorem dpN_eq : dpN = dpG := by kernel_rfl
theorem dpF_eq : dpF = dpG := by kernel_rfl
theorem tpF_eq : tpF = tpN := by kernel_rfl
/-- the numbers before Make looks at them -/
def xG (n : Nat → Int) (i : Nat) : Int := if i < 9 then (n i).tmod 5 else 0
/-- and behind it -/
def xM (n : Nat → Int) (par : Bool) (i : Nat) : Int :=
  if 3 ≤ i ∧ i < 9 ∧ par = true then (if i = 3 ∨ i = 8 then 1 else 0) else if i < 12 then (n i).tmod 5 else if i < 14 then n i else 0
theorem tmod5 (z : Int) : (z.tmod 5).natAbs ≤ 4 := by
  rw [Int.natAbs_tmod]
  have := Nat.mod_lt z.natAbs (show 0 < (5 : Int).natAbs by decide)
  have e : (5 : Int).natAbs = 5 := rfl
  omega
theorem bnd_lt {v : Nat} (h : v < 12) : bndS v = 4 := by unfold bndS; rw [show Nat.blt v 12 = true from Nat.ble_eq_true_of_le h]; rfl
theorem bnd_ge {v : Nat} (h : ¬ v < 12) : bndS v = 128 := by
  unfold bndS
  have : Nat.blt v 12 = false := by rw [← Bool.not_eq_true]; exact fun hh => h (nblt_lt hh)
  rw [this]; rfl
theorem xG_bd (n : Nat → Int) (v : Nat) : (xG n v).natAbs ≤ bndS v := by
  unfold xG
  split
  · rw [bnd_lt (by omega)]; exact tmod5 _
  · simp
theorem xM_bd {n : Nat → Int} (hn : ∀ i, -128 ≤ n i ∧ n i < 128) (par : Bool) (v : Nat) : (xM n par v).natAbs ≤ bndS v := by
  unfold xM
  split
  · rename_i h
    rw [bnd_lt (by omega)]
    split <;> simp
  · split
    · rename_i h
      rw [bnd_lt h]; exact tmod5 _
    · rename_i h
      rw [bnd_ge h]
      split
      · have := hn v; omega
      · simp
theorem top_of {x : Nat → Int} (h : ∀ v, (x v).natAbs ≤ bndS v) : Poly.ev x dpG < 400000000 := by
  have h1 := Poly.bP_le x h dpG
  have h2 : Nat.blt (Poly.bP bndS dpG) 400000000 = true := by kernel_rfl
  have := nblt_lt h2
  omega
/-- the divisor is a sum of squares -/
def nX : Poly := [([4, 8], 1), ([5, 7], -1)]
def nY : Poly := [([5, 6], 1), ([3, 8], -1)]
def nZ : Poly := [([3, 7], 1), ([4, 6], -1)]
theorem sq_chk : Poly.same (Poly.add (Poly.mul nX nX) (Poly.add (Poly.mul nY nY) (Poly.mul nZ nZ))) dpG = true := by kernel_rfl
theorem sq_nonneg (z : Int) : 0 ≤ z * z := by
  rcases Int.le_total 0 z with hz | hz
  · exact Int.mul_nonneg hz hz
  · exact Int.mul_nonneg_of_nonpos_of_nonpos hz hz
theorem dp_nonneg (x : Nat → Int) : 0 ≤ Poly.ev x dpG := by
  have e := Poly.ev_same x sq_chk
  simp only [Poly.ev_add, Poly.ev_mul] at e
  have h1 := sq_nonneg (Poly.ev x nX)
  have h2 := sq_nonneg (Poly.ev x nY)
  have h3 := sq_nonneg (Poly.ev x nZ)
  omega
/-- polynomials in some variables alone -/
def within (b : Nat → Bool) : Poly → Bool
  | [] => true
  | t :: p => t.1.all b && within b p
theorem evM_congr {b : Nat → Bool} {x y : Nat → Int} (h : ∀ v, b v = true → x v = y v) : ∀ {m : Mono}, m.all b = true → Poly.evM x m = Poly.evM y m
  | [], _ => rfl
  | v :: m, hm => by
    simp only [List.all_cons, Bool.and_eq_true] at hm
    rw [Poly.evM, Poly.evM, h v hm.1, evM_congr h hm.2]
theorem ev_congr {b : Nat → Bool} {x y : Nat → Int} (h : ∀ v, b v = true → x v = y v) : ∀ {p : Poly}, within b p = true → Poly.ev x p = Poly.ev y p
  | [], _ => rfl
  | t :: p, hp => by
    simp only [within, Bool.and_eq_true] at hp
    rw [Poly.ev, Poly.ev, evM_congr h hp.1, ev_congr h hp.2]
theorem dp_within : within (fun v => Nat.ble 3 v && Nat.blt v 9) dpG = true := by kernel_rfl
theorem dp_gen (n : Nat → Int) : Poly.ev (xM n false) dpG = Poly.ev (xG n) dpG := by
  refine ev_congr (fun v hv => ?_) dp_within
  simp only [Bool.and_eq_true] at hv
  have h1 := nble_le hv.1
  have h2 := nblt_lt hv.2
  unfold xM xG
  rw [if_neg (by simp), if_pos (by omega), if_pos h2]
theorem dp_par (n : Nat → Int) : Poly.ev (xM n true) dpG = 1 := by
  have e : Poly.ev (xM n true) dpG = Poly.ev (fun i => if i = 3 ∨ i = 8 then 1 else 0) dpG := by
    refine ev_congr (fun v hv => ?_) dp_within
    simp only [Bool.and_eq_true] at hv
    have h1 := nble_le hv.1
    have h2 := nblt_lt hv.2
    unfold xM
    rw [if_pos ⟨h1, h2, rfl⟩]
  rw [e]
  decide +kernel

/-- the texts of the first symbols are those of the numbers -/
def firsts (tab : T Ent) : Nat → Nat → Bool
  | 0, _ => true
  | m + 1, k => (match entV tab (.sym (128 + k)) with | some e => !e.q && Poly.same e.p [([k], 2)] | none => false) && firsts tab m (k + 1)
theorem firsts_get {tab : T Ent} : ∀ {m k j : Nat}, firsts tab m k = true → k ≤ j → j < k + m → ∃ e, entV tab (.sym (128 + j)) = some e ∧ ∀ (x : Nat → Int) (D : Int), e.val x D = (x j : Rat)
  | 0, k, j, _, h1, h2 => by omega
  | m + 1, k, j, h, h1, h2 => by
    simp only [firsts, Bool.and_eq_true] at h
    by_cases hj : j = k
    · subst hj
      have h := h.1
      split at h
      · rename_i e he
        simp only [Bool.and_eq_true, Bool.not_eq_true'] at h
        refine ⟨e, he, fun x D => ?_⟩
        have hs := Poly.ev_same x h.2
        rw [Ent.val_f h.1, hs]
        simp only [Poly.ev, Poly.evM, Int.mul_one, Int.add_zero]
        rw [Rat.intCast_mul]
        have := half_ne
        generalize ((2 : Int) : Rat) = t at *
        grind
      · cases h
    · exact firsts_get h.2 (by omega) (by omega)
theorem firstsG : firsts entG 9 0 = true := by kernel_rfl
theorem firstsP : firsts entP 3 0 = true := by kernel_rfl
theorem firstsN : firsts entN 9 0 = true := by kernel_rfl
theorem firstsF : firsts entF 9 0 = true := by kernel_rfl

section
variable {hp : Array Obj} (hpow : ∀ s, Pow ⟨hp, s⟩) (hpt : ∀ w : World, hp.size ≤ w.heap.size → (∀ b, b < hp.size → w.heap[b]? = hp[b]?) → PTab w) {n : Nat → Int} (hn : ∀ i, -128 ≤ n i ∧ n i < 128)
include hpt hn
theorem caseG (h : Poly.ev (xG n) dpG ≠ 0) : CaseOk ⟨hp, symOf n (xG n) (Poly.ev (xG n) dpG) entG⟩ n (xG n) (Poly.ev (xG n) dpG) entG dpG bndS [0, 1, 2, 3, 4, 5, 6, 7, 8] where
  sym := rfl
  tabs := hpt
  bd := xG_bd n
  pos := by have := dp_nonneg (xG n); omega
  top := top_of (xG_bd n)
  div := rfl
  rel i hi := by
    unfold xG
    rw [if_pos (by simp at hi; omega)]
  nb := hn
theorem caseP : CaseOk ⟨hp, symOf n (xG n) 1 entP⟩ n (xG n) 1 entP [([], 1)] bndS [0, 1, 2, 3, 4, 5, 6, 7, 8] where
  sym := rfl
  tabs := hpt
  bd := xG_bd n
  pos := by decide
  top := by decide
  div := rfl
  rel i hi := by
    unfold xG
    rw [if_pos (by simp at hi; omega)]
  nb := hn
theorem caseM (par : Bool) (tab : T Ent) (h : 0 < Poly.ev (xM n par) dpG) : CaseOk ⟨hp, symOf n (xM n par) (Poly.ev (xM n par) dpG) tab⟩ n (xM n par) (Poly.ev (xM n par) dpG) tab dpG bndS [9, 10, 11] where
  sym := rfl
  tabs := hpt
  bd := xM_bd hn par
  pos := h
  top := top_of (xM_bd hn par)
  div := rfl
  rel i hi := by
    have : i = 9 ∨ i = 10 ∨ i = 11 := by simpa using hi
    unfold xM
    rw [if_neg (by omega), if_pos (by omega)]
  nb := hn
include hpow
theorem makeG (h : Poly.ev (xG n) dpG ≠ 0) : Contract Tryz.prog ⟨hp, symOf n (xG n) (Poly.ev (xG n) dpG) entG⟩ 5 args5 (.agg leftG) := by
  have hC := caseG hpt hn h
  have hF := fnOk (hpow (symOf n (xG n) (Poly.ev (xG n) dpG) entG))
  refine case_call hC (facts := factsG) (fun p hp => (List.not_mem_nil hp).elim) hF memoG_eq ?_ runG_ok
  refine Memos.append (rowsS_ok hC rowsG_ok) (Memos.cons (zrows_ok hC (.inl rfl) ?_ zeroG_ok) Memos.nil)
  constructor
  · intro e; exact absurd e h
  · intro e; cases e
theorem makeP (h : Poly.ev (xG n) dpG = 0) : Contract Tryz.prog ⟨hp, symOf n (xG n) 1 entP⟩ 5 args5 (.agg leftP) := by
  have hC := caseP hpt hn
  have hF := fnOk (hpow (symOf n (xG n) 1 entP))
  refine case_call hC (facts := factsP) (fun p hp => (List.not_mem_nil hp).elim) hF memoP_eq ?_ runP_ok
  refine Memos.append (rowsS_ok hC rowsP_ok) (Memos.cons (zrows_ok hC (.inl rfl) ?_ zeroP_ok) Memos.nil)
  rw [dpP_eq]
  exact ⟨fun _ => rfl, fun _ => h⟩
theorem make_main (par : Bool) (hpar : par = true ↔ Poly.ev (xG n) dpG = 0) (tab : T Ent) (ht : firsts tab 9 0 = true) (hpos : 0 < Poly.ev (xM n par) dpG) :
    Contract Tryz.prog ⟨hp, symOf n (xM n par) (Poly.ev (xM n par) dpG) tab⟩ 5 args5 (.agg [.sym 128, .sym 129, .sym 130, .sym 131, .sym 132, .sym 133, .sym 134, .sym 135, .sym 136]) := by
  have hC := caseM hpt hn par tab hpos
  have hi : ∀ i ∈ ([0, 1, 2, 3, 4, 5, 6, 7, 8] : List Nat), i < 32 := by decide
  have one : ∀ {D' : Int} {tab' : T Ent} {m : Nat}, firsts tab' m 0 = true → ∀ j, j < m → j < 9 → xM n par j = xG n j → ∃ e e', entV tab (.sym (128 + j)) = some e ∧ entV tab' (.sym (128 + j)) = some e' ∧ e.val (xM n par) (Poly.ev (xM n par) dpG) = e'.val (xG n) D' := by
    intro D' tab' m hf j h1 h2 h3
    obtain ⟨e, he, hv⟩ := firsts_get ht (Nat.zero_le j) (by omega)
    obtain ⟨e', he', hv'⟩ := firsts_get hf (Nat.zero_le j) (by omega)
    exact ⟨e, e', he, he', by rw [hv, hv', h3]⟩
  cases par with
  | false =>
    have h : Poly.ev (xG n) dpG ≠ 0 := fun e => by have := hpar.2 e; cases this
    have hx : ∀ j, j < 9 → xM n false j = xG n j := fun j hj => by
      unfold xM xG
      rw [if_neg (by simp), if_pos (by omega), if_pos hj]
    refine other_case hC (caseG hpt hn h) rfl hi ?_ (makeG hpow hpt hn h)
    have q := fun j (hj : j < 9) => one (D' := Poly.ev (xG n) dpG) firstsG j hj hj (hx j hj)
    exact ⟨q 0 (by omega), q 1 (by omega), q 2 (by omega), q 3 (by omega), q 4 (by omega), q 5 (by omega), q 6 (by omega), q 7 (by omega), q 8 (by omega), trivial⟩
  | true =>
    have h := hpar.1 rfl
    have hx : ∀ j, j < 3 → xM n true j = xG n j := fun j hj => by
      unfold xM xG
      rw [if_neg (by omega), if_pos (by omega), if_pos (by omega)]
    refine other_case hC (caseP hpt hn) rfl hi ?_ (makeP hpow hpt hn h)
    have q := fun j (hj : j < 3) => one (D' := 1) firstsP j hj (by omega) (hx j hj)
    have r1 : ∀ j, j < 9 → xM n true j = 1 → ∃ e e', entV tab (.sym (128 + j)) = some e ∧ entV entP (.str [49]) = some e' ∧ e.val (xM n true) (Poly.ev (xM n true) dpG) = e'.val (xG n) 1 := by
      intro j hj h1
      obtain ⟨e, he, hv⟩ := firsts_get ht (Nat.zero_le j) (by omega)
      refine ⟨e, _, he, rfl, ?_⟩
      rw [hv, h1, Ent.val_f rfl]
      simp only [Poly.ev, Poly.evM]; decide +kernel
    have r0 : ∀ j, j < 9 → xM n true j = 0 → ∃ e e', entV tab (.sym (128 + j)) = some e ∧ entV entP (.str [48]) = some e' ∧ e.val (xM n true) (Poly.ev (xM n true) dpG) = e'.val (xG n) 1 := by
      intro j hj h1
      obtain ⟨e, he, hv⟩ := firsts_get ht (Nat.zero_le j) (by omega)
      refine ⟨e, _, he, rfl, ?_⟩
      rw [hv, h1, Ent.val_f rfl]
      simp only [Poly.ev]; decide +kernel
    exact ⟨q 0 (by omega), q 1 (by omega), q 2 (by omega), r1 3 (by omega) rfl, r0 4 (by omega) rfl, r0 5 (by omega) rfl, r0 6 (by omega) rfl, r0 7 (by omega) rfl, r1 8 (by omega) rfl, trivial⟩
theorem main_pos (par : Bool) (hpar : par = true ↔ Poly.ev (xG n) dpG = 0) : 0 < Poly.ev (xM n par) dpG := by
  cases par with
  | false =>
    rw [dp_gen]
    have h : Poly.ev (xG n) dpG ≠ 0 := fun e => by have := hpar.2 e; cases this
    have := dp_nonneg (xG n)
    omega
  | true => rw [dp_par]; decide
theorem mainN (par : Bool) (hpar : par = true ↔ Poly.ev (xG n) dpG = 0) (ht : Poly.ev (xM n par) tpN = 0) :
    Contract Tryz.prog ⟨hp, symOf n (xM n par) (Poly.ev (xM n par) dpG) entN⟩ 3 args3 (.bool true) := by
  have hpos := main_pos hpow hpt hn par hpar
  have hC := caseM hpt hn par entN hpos
  have hF := fnOk (hpow (symOf n (xM n par) (Poly.ev (xM n par) dpG) entN))
  have hD : Poly.ev (xM n par) dpG ≠ 0 := by omega
  refine case_call hC (facts := factsN) (facts_of hD (dpN_eq ▸ rfl) (tp := tpN) (on := true) ⟨fun _ => rfl, fun _ => ht⟩ factsN_ok) hF memoN_eq ?_ runN_ok
  refine Memos.append (rowsS_ok hC (dpN_eq ▸ rowsN_ok)) (Memos.cons (zrows_ok hC (.inr rfl) (v := false) (qp := dpN) ?_ zeroN_ok) (Memos.cons ?_ (Memos.cons ?_ (Memos.cons ?_ Memos.nil))))
  · rw [dpN_eq]
    exact ⟨fun e => absurd e hD, fun e => by cases e⟩
  · intro p hp
    have h12 : xM n par 12 = n 12 := by unfold xM; rw [if_neg (by omega), if_neg (by omega), if_pos (by omega)]
    have h13 : xM n par 13 = n 13 := by unfold xM; rw [if_neg (by omega), if_neg (by omega), if_pos (by omega)]
    rcases List.mem_cons.1 hp with rfl | hp
    · exact of_row hC (of_two hF) (i := 44) (by omega) (by omega) (hn 12).1 (hn 12).2 h12 rfl
    · rcases List.mem_cons.1 hp with rfl | hp
      · exact of_row hC (of_two hF) (i := 45) (by omega) (by omega) (hn 13).1 (hn 13).2 h13 rfl
      · exact (List.not_mem_nil hp).elim
  · intro p hp
    rcases List.mem_cons.1 hp with rfl | hp
    · exact known_true hF
    · exact (List.not_mem_nil hp).elim
  · intro p hp
    rcases List.mem_cons.1 hp with rfl | hp
    · exact make_main hpow hpt hn par hpar entN firstsN hpos
    · exact (List.not_mem_nil hp).elim
theorem mainF (par : Bool) (hpar : par = true ↔ Poly.ev (xG n) dpG = 0) (ht : Poly.ev (xM n par) tpN ≠ 0) :
    Contract Tryz.prog ⟨hp, symOf n (xM n par) (Poly.ev (xM n par) dpG) entF⟩ 3 args3 (.bool true) := by
  have hpos := main_pos hpow hpt hn par hpar
  have hC := caseM hpt hn par entF hpos
  have hF := fnOk (hpow (symOf n (xM n par) (Poly.ev (xM n par) dpG) entF))
  have hD : Poly.ev (xM n par) dpG ≠ 0 := by omega
  refine case_call hC (facts := factsF) (facts_of hD (dpF_eq ▸ rfl) (tp := tpF) (on := false) ⟨fun e => absurd (tpF_eq ▸ e) ht, fun e => by cases e⟩ factsF_ok) hF memoF_eq ?_ runF_ok
  refine Memos.append (rowsS_ok hC (dpF_eq ▸ rowsF_ok)) (Memos.cons (zrows_ok hC (.inr rfl) (v := false) (qp := dpF) ?_ zeroF_ok) (Memos.cons ?_ (Memos.cons ?_ (Memos.cons ?_ Memos.nil))))
  · rw [dpF_eq]
    exact ⟨fun e => absurd e hD, fun e => by cases e⟩
  · intro p hp
    have h12 : xM n par 12 = n 12 := by unfold xM; rw [if_neg (by omega), if_neg (by omega), if_pos (by omega)]
    have h13 : xM n par 13 = n 13 := by unfold xM; rw [if_neg (by omega), if_neg (by omega), if_pos (by omega)]
    rcases List.mem_cons.1 hp with rfl | hp
    · exact of_row hC (of_two hF) (i := 44) (by omega) (by omega) (hn 12).1 (hn 12).2 h12 rfl
    · rcases List.mem_cons.1 hp with rfl | hp
      · exact of_row hC (of_two hF) (i := 45) (by omega) (by omega) (hn 13).1 (hn 13).2 h13 rfl
      · exact (List.not_mem_nil hp).elim
  · intro p hp
    rcases List.mem_cons.1 hp with rfl | hp
    · exact known_true hF
    · exact (List.not_mem_nil hp).elim
  · intro p hp
    rcases List.mem_cons.1 hp with rfl | hp
    · exact make_main hpow hpt hn par hpar entF firstsF hpos
    · exact (List.not_mem_nil hp).elim
end
/-- THE LAW, at any ints of eight bits -/
theorem law_true {W : World} (hpow : ∀ s, Pow ⟨W.heap, s⟩) (hpt : ∀ w : World, W.heap.size ≤ w.heap.size → (∀ b, b < W.heap.size → w.heap[b]? = W.heap[b]?) → PTab w) (n : Nat → Int) (hn : ∀ i, -128 ≤ n i ∧ n i < 128) :
    Calls Tryz.prog 3 #[.agg #[.int .i8 (n 0), .int .i8 (n 1), .int .i8 (n 2), .int .i8 (n 3), .int .i8 (n 4), .int .i8 (n 5), .int .i8 (n 6), .int .i8 (n 7), .int .i8 (n 8)], .agg #[.int .i8 (n 9), .int .i8 (n 10), .int .i8 (n 11)], .agg #[.int .i8 (n 12), .int .i8 (n 13)]] W fun e w' => e = .returned (.bool true) ∧ Grew W w' ∧ ∀ b, b < W.heap.size → w'.heap[b]? = W.heap[b]? := by
  have key : ∀ {x : Nat → Int} {D : Int} {tab : T Ent}, Contract Tryz.prog ⟨W.heap, symOf n x D tab⟩ 3 args3 (.bool true) →
      Calls Tryz.prog 3 #[.agg #[.int .i8 (n 0), .int .i8 (n 1), .int .i8 (n 2), .int .i8 (n 3), .int .i8 (n 4), .int .i8 (n 5), .int .i8 (n 6), .int .i8 (n 7), .int .i8 (n 8)], .agg #[.int .i8 (n 9), .int .i8 (n 10), .int .i8 (n 11)], .agg #[.int .i8 (n 12), .int .i8 (n 13)]] W fun e w' => e = .returned (.bool true) ∧ Grew W w' ∧ ∀ b, b < W.heap.size → w'.heap[b]? = W.heap[b]? := by
    intro x D tab hc
    refine (hc (baseE (symOf n x D tab) (symOf_one n x D tab)) W [.agg #[.int .i8 (n 0), .int .i8 (n 1), .int .i8 (n 2), .int .i8 (n 3), .int .i8 (n 4), .int .i8 (n 5), .int .i8 (n 6), .int .i8 (n 7), .int .i8 (n 8)], .agg #[.int .i8 (n 9), .int .i8 (n 10), .int .i8 (n 11)], .agg #[.int .i8 (n 12), .int .i8 (n 13)]] rfl ?_ (Nat.le_refl _) (fun _ _ => rfl)).mono ?_
    · have s : ∀ i, i < 32 → VR (baseE (symOf n x D tab) (symOf_one n x D tab)) (.sym i) (.int .i8 (n i)) := fun i hi => by
        show _ = symOf n x D tab i
        unfold symOf
        rw [if_pos hi]
      exact VRL.cons ⟨_, VRL.cons (s 0 (by omega)) (VRL.cons (s 1 (by omega)) (VRL.cons (s 2 (by omega)) (VRL.cons (s 3 (by omega)) (VRL.cons (s 4 (by omega)) (VRL.cons (s 5 (by omega)) (VRL.cons (s 6 (by omega)) (VRL.cons (s 7 (by omega)) (VRL.cons (s 8 (by omega)) VRL.nil)))))))), rfl⟩
        (VRL.cons ⟨_, VRL.cons (s 9 (by omega)) (VRL.cons (s 10 (by omega)) (VRL.cons (s 11 (by omega)) VRL.nil)), rfl⟩ (VRL.cons ⟨_, VRL.cons (s 12 (by omega)) (VRL.cons (s 13 (by omega)) VRL.nil), rfl⟩ VRL.nil))
    · rintro e w' ⟨y, rfl, hy, hg, hb⟩
      exact ⟨by rw [show y = .bool true from hy], hg, hb⟩
  have hp : (decide (Poly.ev (xG n) dpG = 0)) = true ↔ Poly.ev (xG n) dpG = 0 := decide_eq_true_iff
  by_cases ht : Poly.ev (xM n (decide (Poly.ev (xG n) dpG = 0))) tpN = 0
  · exact key (mainN hpow hpt hn _ hp ht)
  · exact key (mainF hpow hpt hn _ hp ht)
end Go.Proofs.YtobknfkobcbnoaaGreatDoor
