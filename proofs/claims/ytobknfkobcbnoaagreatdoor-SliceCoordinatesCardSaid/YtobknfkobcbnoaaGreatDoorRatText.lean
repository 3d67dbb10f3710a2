/-
  Plain: the texts of integers and of rational numbers (no program here).
-/
import Derived.Lib.ItoaMem
import Derived.Lib.ItoaLen
import Derived.Lib.Atoi
import Derived.Lib.IndexMore
import Derived.Lib.Strings
set_option linter.unusedSectionVars false
set_option linter.unusedVariables false
set_option linter.unusedSimpArgs false
namespace Klp
open Go Go.Lib

def dval (l : List UInt8) : Int := l.foldl (fun a c => 10 * a + ((c.toNat : Int) - 48)) 0
theorem dval_snoc (l : List UInt8) (c : UInt8) : dval (l ++ [c]) = 10 * dval l + ((c.toNat : Int) - 48) := by simp [dval]
def isDig (c : UInt8) : Prop := 48 ≤ c.toNat ∧ c.toNat ≤ 57

theorem toNat_dig {u : Nat} (h : u < 10) : (UInt8.ofNat (48 + u)).toNat = 48 + u := by
  have : 48 + u < 256 := by omega
  simp [Nat.mod_eq_of_lt this]
theorem dec_small {u : Nat} (h : u < 10) : decDigits u = [UInt8.ofNat (48 + u)] := by rw [decDigits, dif_pos h]
theorem dec_big {u : Nat} (h : ¬ u < 10) : decDigits u = decDigits (u / 10) ++ [UInt8.ofNat (48 + u % 10)] := by rw [decDigits, dif_neg h]
theorem dec_dig (u : Nat) : ∀ c ∈ decDigits u, isDig c := by
  induction u using Nat.strongRecOn with
  | _ u ih =>
    intro c hc
    by_cases h : u < 10
    · rw [dec_small h, List.mem_singleton] at hc
      subst hc
      unfold isDig
      rw [toNat_dig h]; omega
    · rw [dec_big h, List.mem_append] at hc
      rcases hc with hc | hc
      · exact ih (u / 10) (by omega) c hc
      · rw [List.mem_singleton] at hc
        subst hc
        unfold isDig
        rw [toNat_dig (by omega)]; omega
theorem dec_val (u : Nat) : dval (decDigits u) = u := by
  induction u using Nat.strongRecOn with
  | _ u ih =>
    by_cases h : u < 10
    · rw [dec_small h]
      simp only [dval, List.foldl_cons, List.foldl_nil, toNat_dig h]; omega
    · rw [dec_big h, dval_snoc, ih (u / 10) (by omega), toNat_dig (by omega)]; omega
theorem dec_pos (u : Nat) : 0 < (decDigits u).length := by rw [decDigits_length]; exact nDigits_pos u
theorem dec_len {u k : Nat} (hk : 1 ≤ k) (h : u < 10 ^ k) : (decDigits u).length ≤ k := by
  rw [decDigits_length]
  induction k generalizing u with
  | zero => omega
  | succ k ih =>
    by_cases hu : u < 10
    · rw [nDigits_small hu]; omega
    · rw [nDigits_big hu]
      rw [Nat.pow_succ] at h
      by_cases hk0 : k = 0
      · subst hk0; omega
      · have := ih (u := u / 10) (by omega) (by omega); omega
theorem dec_head {u : Nat} (h : 0 < u) : ∃ c r, decDigits u = c :: r ∧ c.toNat ≠ 48 ∧ isDig c := by
  induction u using Nat.strongRecOn with
  | _ u ih =>
    by_cases h10 : u < 10
    · exact ⟨_, [], dec_small h10, by rw [toNat_dig h10]; omega, by unfold isDig; rw [toNat_dig h10]; omega⟩
    · obtain ⟨c, r, e, hc, hd⟩ := ih (u / 10) (by omega) (by omega)
      exact ⟨c, r ++ [UInt8.ofNat (48 + u % 10)], by rw [dec_big h10, e]; rfl, hc, hd⟩
theorem dec_zero : decDigits 0 = [48] := by rw [dec_small (by omega)]; rfl

/-- the text of an integer: a sign, then digits -/
theorem itoa_eq (n : Int) : itoa n = (if n < 0 then [45] else []) ++ decDigits n.natAbs := by
  unfold itoa
  by_cases h : n < 0
  · rw [if_pos h, if_pos h]; rfl
  · rw [if_neg h, if_neg h, List.nil_append]; congr 1; omega
theorem itoa_neg' {n : Int} (h : n < 0) : itoa n = 45 :: decDigits n.natAbs := by rw [itoa_eq, if_pos h]; rfl
theorem itoa_pos' {n : Int} (h : ¬ n < 0) : itoa n = decDigits n.natAbs := by rw [itoa_eq, if_neg h]; rfl
theorem itoa_mem {n : Int} {c : UInt8} (h : c ∈ itoa n) : c = 45 ∨ isDig c := by
  rw [itoa_eq, List.mem_append] at h
  rcases h with h | h
  · by_cases hn : n < 0
    · rw [if_pos hn, List.mem_singleton] at h; exact .inl h
    · rw [if_neg hn] at h; cases h
  · exact .inr (dec_dig _ c h)
theorem itoa_no_stroke {n : Int} {c : UInt8} (h : c ∈ itoa n) : c ≠ 47 := by
  rcases itoa_mem h with rfl | h
  · decide
  · rintro rfl; exact absurd h.1 (by decide)
theorem dval_nn : ∀ (l : List UInt8) (a : Int), (∀ c ∈ l, isDig c) → 0 ≤ a → ∀ k : Nat, decFrom k l = some (l.foldl (fun (m : Nat) c => m * 10 + (c.toNat - 48)) k)
  | [], _, _, _, k => rfl
  | c :: l, a, h, ha, k => by
    have hc := h c (List.mem_cons_self ..)
    unfold isDig at hc
    simp only [decFrom, digitVal, hc, and_self, if_true, List.foldl_cons]
    exact dval_nn l a (fun x hx => h x (List.mem_cons_of_mem _ hx)) ha _
theorem fold_cast : ∀ (l : List UInt8) (k : Nat), (∀ c ∈ l, isDig c) → ((l.foldl (fun (m : Nat) c => m * 10 + (c.toNat - 48)) k : Nat) : Int) = l.foldl (fun a c => 10 * a + ((c.toNat : Int) - 48)) (k : Int)
  | [], _, _ => rfl
  | c :: l, k, h => by
    have hc := h c (List.mem_cons_self ..)
    unfold isDig at hc
    simp only [List.foldl_cons]
    rw [fold_cast l _ fun x hx => h x (List.mem_cons_of_mem _ hx)]
    congr 1
    omega
theorem decNat_dec (u : Nat) : decNat (decDigits u) = some u := by
  have hp := dec_pos u
  unfold decNat
  rw [if_neg (by simp; intro e; rw [e] at hp; simp at hp)]
  rw [dval_nn _ 0 (dec_dig u) (Int.le_refl 0) 0]
  have h1 := fold_cast (decDigits u) 0 (dec_dig u)
  have h2 := dec_val u
  unfold dval at h2
  have h3 : ((0 : Nat) : Int) = 0 := rfl
  rw [h3, h2] at h1
  rw [Option.some.injEq]
  omega
theorem atoi_itoa (n : Int) : atoi (itoa n) = some n := by
  by_cases h : n < 0
  · rw [itoa_neg' h]
    simp only [atoi, beq_self_eq_true, if_true, decNat_dec, Option.map_some, Option.some.injEq]
    omega
  · rw [itoa_pos' h]
    have hp := dec_pos n.natAbs
    cases hd : decDigits n.natAbs with
    | nil => rw [hd] at hp; simp at hp
    | cons c r =>
      have hc : isDig c := dec_dig n.natAbs c (by rw [hd]; exact List.mem_cons_self ..)
      unfold isDig at hc
      have h1 : (c == 45) = false := by rw [beq_eq_false_iff_ne]; rintro rfl; exact absurd hc.1 (by decide)
      have h2 : (c == 43) = false := by rw [beq_eq_false_iff_ne]; rintro rfl; exact absurd hc.1 (by decide)
      have h3 := decNat_dec n.natAbs
      rw [hd] at h3
      simp only [atoi, h1, h2, Bool.false_eq_true, if_false, h3, Option.map_some, Option.some.injEq]
      omega
theorem itoa_inj {m n : Int} (h : itoa m = itoa n) : m = n := by
  have h1 := atoi_itoa m
  rw [h, atoi_itoa n] at h1
  exact (Option.some.inj h1).symm
theorem itoa_zero : itoa 0 = [48] := by rw [itoa_pos' (by omega)]; exact dec_zero
theorem itoa_one : itoa 1 = [49] := by rw [itoa_pos' (by omega)]; exact dec_small (by omega)
theorem itoa_ne_nil (n : Int) : 0 < (itoa n).length := by
  rw [itoa_eq, List.length_append]; have := dec_pos n.natAbs; omega

/-- the text of a numerator and a denominator -/
def rs (n d : Int) : List UInt8 := if d = 1 then itoa n else itoa n ++ 47 :: itoa d
theorem rs_one (n : Int) : rs n 1 = itoa n := by simp [rs]
theorem rs_of {n d : Int} (h : d ≠ 1) : rs n d = itoa n ++ 47 :: itoa d := by simp [rs, h]
theorem index_none {l : List UInt8} (h : ∀ c ∈ l, c ≠ 47) : indexByte l 47 = -1 := by
  induction l with
  | nil => rfl
  | cons b l ih =>
    have h1 : (b == 47) = false := by rw [beq_eq_false_iff_ne]; exact h b (List.mem_cons_self ..)
    rw [indexByte, h1, ih fun c hc => h c (List.mem_cons_of_mem _ hc)]; rfl
theorem index_at {l r : List UInt8} (h : ∀ c ∈ l, c ≠ 47) : indexByte (l ++ 47 :: r) 47 = l.length := by
  induction l with
  | nil => simp [indexByte]
  | cons b l ih =>
    have h1 : (b == 47) = false := by rw [beq_eq_false_iff_ne]; exact h b (List.mem_cons_self ..)
    rw [List.cons_append, indexByte, h1, ih fun c hc => h c (List.mem_cons_of_mem _ hc)]
    have : (((l.length : Nat) : Int) == -1) = false := by rw [beq_eq_false_iff_ne]; omega
    simp [this]
theorem rs_inj {n d m e : Int} (h : rs n d = rs m e) : n = m ∧ d = e := by
  by_cases hd : d = 1
  · subst hd
    by_cases he : e = 1
    · subst he; rw [rs_one, rs_one] at h; exact ⟨itoa_inj h, rfl⟩
    · rw [rs_one, rs_of he] at h
      have := itoa_no_stroke (n := n) (c := 47) (by rw [h]; simp)
      exact absurd rfl this
  · by_cases he : e = 1
    · subst he
      rw [rs_one, rs_of hd] at h
      have := itoa_no_stroke (n := m) (c := 47) (by rw [← h]; simp)
      exact absurd rfl this
    · rw [rs_of hd, rs_of he] at h
      have h1 := index_at (r := itoa d) fun c hc => itoa_no_stroke (n := n) hc
      have h2 := index_at (r := itoa e) fun c hc => itoa_no_stroke (n := m) hc
      rw [h, h2] at h1
      have hl : (itoa n).length = (itoa m).length := by omega
      obtain ⟨e1, e2⟩ := List.append_inj h hl
      refine ⟨itoa_inj e1, itoa_inj ?_⟩
      simpa using e2
theorem rs_len {n d : Int} (h1 : -1000000000 < n) (h2 : n < 1000000000) (h3 : 0 < d) (h4 : d < 1000000000) : (rs n d).length ≤ 20 := by
  have p9 : (10 : Nat) ^ 9 = 1000000000 := by decide
  have a : (itoa n).length ≤ 10 := by
    rw [itoa_eq, List.length_append]
    have h5 := dec_len (u := n.natAbs) (k := 9) (by omega) (by omega)
    have h6 : (if n < 0 then [(45 : UInt8)] else []).length ≤ 1 := by split <;> simp
    omega
  have b : (itoa d).length ≤ 9 := by
    rw [itoa_pos' (by omega)]
    exact dec_len (by omega) (by omega)
  unfold rs
  split
  · omega
  · rw [List.length_append, List.length_cons]; omega
end Klp
