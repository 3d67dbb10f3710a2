/-
  klippe/rational.small: the number of two ints, in lowest terms, as a text.
-/
import Derived.Lib.ItoaMem
import Derived.Lib.ItoaLen
import Derived.Lib.Atoi
import Derived.Lib.IndexMore
import Derived.Lib.Strings
import Derived.Test.YtjcfejncjdhplaaGreatDoorProg
import Derived.WalkKit
import Derived.WalkSpells
import Derived.WalkLawsBesides
import Derived.Lib.Hide
import Derived.RegionTactic
import Derived.Deep.QuietTactic
import Derived.BigQuiet
import Derived.Lib.LaidTab
import Derived.Lib.AppendIntMem
import Derived.Test.YtjcfejncjdhplaaGreatDoorShelf
set_option linter.unusedSectionVars false
set_option linter.unusedVariables false
set_option linter.unusedSimpArgs false
namespace Klp
open Go Go.Lib
def dval (l : List UInt8) : Int := l.foldl (fun a c => 10 * a + ((c.toNat : Int) - 48)) 0
theorem dval_snoc (l : List UInt8) (c : UInt8) : dval (l ++ [c]) = 10 * dval l + ((c.toNat : Int) - 48) := by simp [dval]
def isDig (c : UInt8) : Prop := 48 ≤ c.toNat ∧ c.toNat ≤ 57
theorem toNat_dig {u : Nat} (h : u < 10) : (UInt8.ofNat (48 + u)).toNat = 48 + u := by
  have : 48 + u < 256 := by omega
  simp [Nat.mod_eq_of_lt this]
theorem dec_small {u : Nat} (h : u < 10) : decDigits u = [UInt8.ofNat (48 + u)] := by rw [decDigits, dif_pos h]
theorem dec_big {u : Nat} (h : ¬ u < 10) : decDigits u = decDigits (u / 10) ++ [UInt8.ofNat (48 + u % 10)] := by rw [decDigits, dif_neg h]
theorem dec_dig (u : Nat) : ∀ c ∈ decDigits u, isDig c := by
  induction u using Nat.strongRecOn with
  | _ u ih =>
    intro c hc
    by_cases h : u < 10
    · rw [dec_small h, List.mem_singleton] at hc
      subst hc
      unfold isDig
      rw [toNat_dig h]; omega
    · rw [dec_big h, List.mem_append] at hc
      rcases hc with hc | hc
      · exact ih (u / 10) (by omega) c hc
      · rw [List.mem_singleton] at hc
        subst hc
        unfold isDig
        rw [toNat_dig (by omega)]; omega
theorem dec_val (u : Nat) : dval (decDigits u) = u := by
  induction u using Nat.strongRecOn with
  | _ u ih =>
    by_cases h : u < 10
    · rw [dec_small h]
      simp only [dval, List.foldl_cons, List.foldl_nil, toNat_dig h]; omega
    · rw [dec_big h, dval_snoc, ih (u / 10) (by omega), toNat_dig (by omega)]; omega
theorem dec_pos (u : Nat) : 0 < (decDigits u).length := by rw [decDigits_length]; exact nDigits_pos u
theorem dec_len {u k : Nat} (hk : 1 ≤ k) (h : u < 10 ^ k) : (decDigits u).length ≤ k := by
  rw [decDigits_length]
  induction k generalizing u with
  | zero => omega
  | succ k ih =>
    by_cases hu : u < 10
    · rw [nDigits_small hu]; omega
    · rw [nDigits_big hu]
      rw [Nat.pow_succ] at h
      by_cases hk0 : k = 0
      · subst hk0; omega
      · have := ih (u := u / 10) (by omega) (by omega); omega
theorem dec_zero : decDigits 0 = [48] := by rw [dec_small (by omega)]; rfl
theorem itoa_eq (n : Int) : itoa n = (if n < 0 then [45] else []) ++ decDigits n.natAbs := by
  unfold itoa
  by_cases h : n < 0
  · rw [if_pos h, if_pos h]; rfl
  · rw [if_neg h, if_neg h, List.nil_append]; congr 1; omega
theorem itoa_neg' {n : Int} (h : n < 0) : itoa n = 45 :: decDigits n.natAbs := by rw [itoa_eq, if_pos h]; rfl
theorem itoa_pos' {n : Int} (h : ¬ n < 0) : itoa n = decDigits n.natAbs := by rw [itoa_eq, if_neg h]; rfl
theorem dval_nn : ∀ (l : List UInt8) (a : Int), (∀ c ∈ l, isDig c) → 0 ≤ a → ∀ k : Nat, decFrom k l = some (l.foldl (fun (m : Nat) c => m * 10 + (c.toNat - 48)) k)
  | [], _, _, _, k => rfl
  | c :: l, a, h, ha, k => by
    have hc := h c (List.mem_cons_self ..)
    unfold isDig at hc
    simp only [decFrom, digitVal, hc, and_self, if_true, List.foldl_cons]
    exact dval_nn l a (fun x hx => h x (List.mem_cons_of_mem _ hx)) ha _
theorem fold_cast : ∀ (l : List UInt8) (k : Nat), (∀ c ∈ l, isDig c) → ((l.foldl (fun (m : Nat) c => m * 10 + (c.toNat - 48)) k : Nat) : Int) = l.foldl (fun a c => 10 * a + ((c.toNat : Int) - 48)) (k : Int)
  | [], _, _ => rfl
  | c :: l, k, h => by
    have hc := h c (List.mem_cons_self ..)
    unfold isDig at hc
    simp only [List.foldl_cons]
    rw [fold_cast l _ fun x hx => h x (List.mem_cons_of_mem _ hx)]
    congr 1
    omega
theorem decNat_dec (u : Nat) : decNat (decDigits u) = some u := by
  have hp := dec_pos u
  unfold decNat
  rw [if_neg (by simp; intro e; rw [e] at hp; simp at hp)]
  rw [dval_nn _ 0 (dec_dig u) (Int.le_refl 0) 0]
  have h1 := fold_cast (decDigits u) 0 (dec_dig u)
  have h2 := dec_val u
  unfold dval at h2
  have h3 : ((0 : Nat) : Int) = 0 := rfl
  rw [h3, h2] at h1
  rw [Option.some.injEq]
  omega
theorem atoi_itoa (n : Int) : atoi (itoa n) = some n := by
  by_cases h : n < 0
  · rw [itoa_neg' h]
    simp only [atoi, beq_self_eq_true, if_true, decNat_dec, Option.map_some, Option.some.injEq]
    omega
  · rw [itoa_pos' h]
    have hp := dec_pos n.natAbs
    cases hd : decDigits n.natAbs with
    | nil => rw [hd] at hp; simp at hp
    | cons c r =>
      have hc : isDig c := dec_dig n.natAbs c (by rw [hd]; exact List.mem_cons_self ..)
      unfold isDig at hc
      have h1 : (c == 45) = false := by rw [beq_eq_false_iff_ne]; rintro rfl; exact absurd hc.1 (by decide)
      have h2 : (c == 43) = false := by rw [beq_eq_false_iff_ne]; rintro rfl; exact absurd hc.1 (by decide)
      have h3 := decNat_dec n.natAbs
      rw [hd] at h3
      simp only [atoi, h1, h2, Bool.false_eq_true, if_false, h3, Option.map_some, Option.some.injEq]
      omega
theorem itoa_inj {m n : Int} (h : itoa m = itoa n) : m = n := by
  have h1 := atoi_itoa m
  rw [h, atoi_itoa n] at h1
  exact (Option.some.inj h1).symm
theorem itoa_zero : itoa 0 = [48] := by rw [itoa_pos' (by omega)]; exact dec_zero
theorem itoa_one : itoa 1 = [49] := by rw [itoa_pos' (by omega)]; exact dec_small (by omega)
def rs (n d : Int) : List UInt8 := if d = 1 then itoa n else itoa n ++ 47 :: itoa d
end Klp
namespace Go.Proofs.YtjcfejncjdhplaaGreatDoor
open Go.RowKit Go Klp
def valTo (s : ByteArray) (o k : Nat) : Int := dval ((s.data.toList.drop o).take (k - o))
theorem valTo_zero (s : ByteArray) (o : Nat) : valTo s o o = 0 := by simp [valTo, dval]
theorem valTo_succ (s : ByteArray) (o k : Nat) (h : k < s.size) (ho : o ≤ k) : valTo s o (k + 1) = 10 * valTo s o k + ((s[k].toNat : Int) - 48) := by
  unfold valTo
  have h1 : k - o < (s.data.toList.drop o).length := by simp; have : s.size = s.data.size := rfl; omega
  have h2 : o + (k - o) = k := by omega
  rw [show k + 1 - o = (k - o) + 1 from by omega, List.take_succ_eq_append_getElem h1, dval_snoc]
  simp only [List.getElem_drop, h2]
  rfl
def digTo (s : ByteArray) (o n : Nat) : Prop := ∀ k (h : k < s.size), o ≤ k → k < n → 48 ≤ s[k].toNat ∧ s[k].toNat ≤ 57
theorem valTo_bd (s : ByteArray) (o n : Nat) (hd : digTo s o n) (hn : n ≤ s.size) : ∀ j, o + j ≤ n → 0 ≤ valTo s o (o + j) ∧ valTo s o (o + j) < 10 ^ j
  | 0, _ => by simp [valTo_zero]
  | j + 1, hk => by
    have ih := valTo_bd s o n hd hn j (by omega)
    have h2 := hd (o + j) (by omega) (by omega) (by omega)
    rw [show o + (j + 1) = (o + j) + 1 from by omega, valTo_succ s o (o + j) (by omega) (by omega), Int.pow_succ]
    omega
theorem size_mk (l : List UInt8) : (⟨l.toArray⟩ : ByteArray).size = l.length := by simp [ByteArray.size]
theorem get_mk (l : List UInt8) (k : Nat) (h : k < (⟨l.toArray⟩ : ByteArray).size) (h' : k < l.length) : (⟨l.toArray⟩ : ByteArray)[k] = l[k] := rfl
theorem digTo_mk {p q r : List UInt8} (hq : ∀ c ∈ q, isDig c) : digTo ⟨(p ++ (q ++ r)).toArray⟩ p.length (p.length + q.length) := by
  intro k h h1 h2
  have hk : k < (p ++ (q ++ r)).length := by rw [size_mk] at h; exact h
  rw [get_mk _ k h hk, List.getElem_append_right h1, List.getElem_append_left (by omega)]
  exact hq _ (List.getElem_mem ..)
theorem valTo_mk (p q r : List UInt8) : valTo ⟨(p ++ (q ++ r)).toArray⟩ p.length (p.length + q.length) = dval q := by
  unfold valTo
  simp only [List.drop_left, Nat.add_sub_cancel_left, List.take_left]
end Go.Proofs.YtjcfejncjdhplaaGreatDoor
namespace Go.Proofs.YtjcfejncjdhplaaGreatDoor
open Go.RowKit Go
abbrev Kp (w w' : World) : Prop := Below w.heap.size w w'
theorem Kp.refl (w : World) : Kp w w := Below.refl _ _
theorem Kp.then {a b c : World} (h : Kp a b) (h' : Kp b c) : Kp a c := h.trans (h'.mono h.size)
theorem Kp.drewN (w : World) (n : Nat) : Kp w (w.drewN n) := ⟨rfl, rfl, rfl, Nat.le_refl _, fun _ _ => rfl⟩
theorem Kp.drew (w : World) : Kp w w.drew := ⟨rfl, rfl, rfl, Nat.le_refl _, fun _ _ => rfl⟩
theorem Kp.grow (w : World) (os : Array Obj) : Kp w (Go.Sort.grow w os) := by
  refine ⟨rfl, rfl, rfl, ?_, ?_⟩
  · simp [Go.Sort.grow]
  · intro b hb; simp [Go.Sort.grow, Array.getElem?_append, hb]
def PTab (w : World) : Prop := Lib.TabIs Tryz.prog w "internal/strconv.uint64pow10" .u64 Lib.pow10Tab
theorem PTab.kp {w w' : World} (h : PTab w) (hk : Kp w w') : PTab w' := Lib.tabBelow_of_tabIs h w' hk
theorem itoa_any (n : Int) (w : World) (h0 : -9223372036854775808 ≤ n) (h1 : n ≤ 9223372036854775807) (ht : PTab w) :
    Calls Tryz.prog 39 #[.int .i64 n] w fun e w' => e = .returned (.string ⟨(Lib.itoa n).toArray⟩) ∧ Kp w w' :=
  (Tryz.strconv_Itoa n h0 h1 w ht).mono fun e w' ⟨h, k, os, hw⟩ => ⟨h, by rw [hw]; exact (Kp.drewN w k).then (Kp.grow _ os)⟩
theorem gcd_step (x y : Int) : (Int.gcd y (x.tmod y) : Int) = Int.gcd x y := by
  unfold Int.gcd
  rw [Int.natAbs_tmod, Nat.gcd_comm x.natAbs, Nat.gcd_rec y.natAbs x.natAbs, Nat.gcd_comm (x.natAbs % y.natAbs)]
theorem tmod_lt (x y : Int) (hy : ¬ y = 0) : (x.tmod y).natAbs < y.natAbs := by
  rw [Int.natAbs_tmod]
  exact Nat.mod_lt _ (by omega)
theorem tmod_bd (x y : Int) (h1 : -9223372036854775807 ≤ x) (h2 : x ≤ 9223372036854775807) : -9223372036854775807 ≤ x.tmod y ∧ x.tmod y ≤ 9223372036854775807 := by
  have h : (x.tmod y).natAbs ≤ x.natAbs := by rw [Int.natAbs_tmod]; exact Nat.mod_le _ _
  omega
end Go.Proofs.YtjcfejncjdhplaaGreatDoor
